/- Slices of octets in a walk: parts, single octets, loops over them, numbers of several octets. It bears no condition. -/
import Derived.Test.YtjheedfobmlalaaE29
namespace Go.Proofs.Ytjheedfobmlalaa.E
set_option linter.unusedVariables false
set_option linter.unusedSimpArgs false

section
variable {tab : Nat → Option XFun} {sp : Nat → List AV → AH → Option (AV × AH)} {T : Tm} {H : AH} {R : Tm → AH → Prop} {base : Nat} {W : List Watch}
/-- An operation of which something is known of its value. -/
theorem O_q {d : Nat} {op : XOp} {ix : Nat} {bef : List Nat} {l : List XOper} {P : AV → Prop} (h : ∃ v, op.run noCall T H = some (v, H) ∧ P v) (k : ∀ v, P v → O tab sp l ((d, v) :: T) H R) : O tab sp (⟨some d, op, none, ix, bef⟩ :: l) T H R := by
  obtain ⟨v, h, p⟩ := h; exact O_s h (k v p)
theorem D_q {d : Nat} {op : XOp} {ix : Nat} {bef : List Nat} {l : List XOper} {P : AV → Prop} (hm : op.mk = false) (he : op.eff = false) (hr : op.reads = false) (h : ∃ v, op.run noCall T H = some (v, H) ∧ P v) (k : ∀ v, P v → D tab sp base l W ((d, v) :: T) H R) : D tab sp base (⟨some d, op, none, ix, bef⟩ :: l) W T H R := by
  obtain ⟨v, h, p⟩ := h; exact D_l hm he hr h (k v p)
theorem O_qh {d : Nat} {op : XOp} {ix : Nat} {bef : List Nat} {l : List XOper} {P : AV → AH → Prop} (h : ∃ v H', op.run noCall T H = some (v, H') ∧ P v H') (k : ∀ v H', P v H' → O tab sp l ((d, v) :: T) H' R) : O tab sp (⟨some d, op, none, ix, bef⟩ :: l) T H R := by
  obtain ⟨v, H', h, p⟩ := h; exact O_s h (k v H' p)
end

section
variable {T : Tm} {H H0 : AH} {c : CallF} {x : XO} {a : Option (Nat × Nat)} {len cap g : Nat} {l : List UInt8} {k k' : IntKind}
theorem Bs.hi (h : Bs H0 (.sl a len cap g) l) (hg : g = 0 ∨ g = 1) (hx : x.ev T = .sl a len cap g) {y : XO} {j : Nat} (hj : y.ev T = .i k j) (h2 : j ≤ len) (h3 : len ≤ cap) :
    ∃ v, (XOp.slsl 1 x Option.none (some y) Option.none).run c T H = some (v, H) ∧ ∃ a', v = .sl a' j cap g ∧ Bs H0 v (l.take j) := by
  have hs : sbounds len cap ((Option.none : Option XO).map (·.ev T)) ((some y).map (·.ev T)) Option.none = some (0, j, cap) := by
    simp only [Option.map_some, Option.map_none, hj]
    exact sb_hi (i := (j : Int)) (by omega) (by omega)
  obtain ⟨a', h4, h5⟩ := h.slsl (H := H) (c := c) hx hg hs (Nat.zero_le _) h2 h3 rfl
  exact ⟨_, h4, a', rfl, by simpa using h5⟩
theorem Bs.lo (h : Bs H0 (.sl a len cap g) l) (hg : g = 0 ∨ g = 1) (hx : x.ev T = .sl a len cap g) {y : XO} {i : Nat} (hi : y.ev T = .i k i) (h2 : i ≤ len) (h3 : len ≤ cap) :
    ∃ v, (XOp.slsl 1 x (some y) Option.none Option.none).run c T H = some (v, H) ∧ ∃ a', v = .sl a' (len - i) (cap - i) g ∧ Bs H0 v (l.drop i) := by
  have hs : sbounds len cap ((some y).map (·.ev T)) ((Option.none : Option XO).map (·.ev T)) Option.none = some (i, len, cap) := by
    simp only [Option.map_some, Option.map_none, hi]
    exact sb_lo (i := (i : Int)) (by omega) (by omega)
  obtain ⟨a', h4, h5⟩ := h.slsl (H := H) (c := c) hx hg hs h2 (Nat.le_refl _) h3 rfl
  have hl := h.length
  rw [List.take_of_length_le (by simp; omega)] at h5
  exact ⟨_, h4, a', rfl, h5⟩
theorem Bs.both (h : Bs H0 (.sl a len cap g) l) (hg : g = 0 ∨ g = 1) (hx : x.ev T = .sl a len cap g) {y z : XO} {i j : Nat} (hi : y.ev T = .i k i) (hj : z.ev T = .i k' j) (h1 : i ≤ j) (h2 : j ≤ len) (h3 : len ≤ cap) :
    ∃ v, (XOp.slsl 1 x (some y) (some z) Option.none).run c T H = some (v, H) ∧ ∃ a', v = .sl a' (j - i) (cap - i) g ∧ Bs H0 v ((l.drop i).take (j - i)) := by
  have hs : sbounds len cap ((some y).map (·.ev T)) ((some z).map (·.ev T)) Option.none = some (i, j, cap) := by
    simp only [Option.map_some, hi, hj]
    exact sb_both (i := (i : Int)) (j := (j : Int)) (by omega) (by omega) (by omega)
  obtain ⟨a', h4, h5⟩ := h.slsl (H := H) (c := c) hx hg hs h1 h2 h3 rfl
  exact ⟨_, h4, a', rfl, h5⟩
/-- The place of an octet. -/
def OctAt (H : AH) (v : AV) (y : UInt8) : Prop := ∃ b o cs mu, v = .p (some (b, o)) ∧ H.get b = some (.cells cs mu) ∧ cs[o]? = some (.i .u8 (y.toNat : Int))
theorem Bs.ix {v : AV} (h : Bs H v l) (hx : x.ev T = v) {y : XO} {i : Nat} (hi : y.ev T = .i k i) (h1 : i < l.length) : ∃ w, (XOp.isl 1 x y).run c T H = some (w, H) ∧ OctAt H w (l.getD i 0) := by
  obtain ⟨b, o, cs, mu, h2, h3, h4⟩ := h.isl (c := c) hx hi (by omega) (by omega)
  exact ⟨_, h2, b, o, cs, mu, rfl, h3, by simpa using h4⟩
theorem OctAt.load {v : AV} {y : UInt8} (h : OctAt H v y) {n : Nat} (hx : x.ev T = v) : (XOp.load false n x).run c T H = some (.i .u8 (y.toNat : Int), H) := by
  obtain ⟨b, o, cs, mu, rfl, h2, h3⟩ := h
  exact r_ld hx h2 h3
end

/-! ### Numbers of octets, the first one the lowest -/
end Go.Proofs.Ytjheedfobmlalaa.E
