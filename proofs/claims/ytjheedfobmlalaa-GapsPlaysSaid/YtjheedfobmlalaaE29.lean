/- What lay there at first lies there still; arguments that are octets. It bears no condition. -/
import Derived.Test.YtjheedfobmlalaaE28
namespace Go.Proofs.Ytjheedfobmlalaa.E
set_option linter.unusedVariables false
set_option linter.unusedSimpArgs false

/-- Blocks have names below the next one. -/
def AH.Ok (H : AH) : Prop := ∀ q b, H.get q = some b → q < H.next
/-- From H on to H', nothing below N has turned. -/
structure Old (N : Nat) (H H' : AH) : Prop where
  next : N ≤ H'.next
  keep : ∀ n, n < N → H'.get n = H.get n
  ok : H'.Ok
abbrev Kp (H H' : AH) : Prop := Old H.next H H'
theorem Old.refl {H : AH} (h : H.Ok) : Kp H H := ⟨Nat.le_refl _, fun _ _ => rfl, h⟩
section
variable {N : Nat} {H0 H H' : AH} {n : Nat} {b : Blk}
theorem Old.new (h : Old N H0 H) (k : New H n b H') : Old N H0 H' := by
  have h1 := h.next
  obtain ⟨k1, k2, k3, k4⟩ := k
  refine ⟨by omega, fun m hm => by rw [k4 m (by omega), h.keep m hm], fun q b' hq => ?_⟩
  by_cases e : q < H.next
  · omega
  · by_cases e2 : q = n
    · omega
    · rw [k4 q e2] at hq; exact absurd (h.ok q b' hq) e
theorem Old.aside (h : Old N H0 H) (k : Aside H n H') : Old N H0 H' := by
  have h1 := h.next
  obtain ⟨k1, k2⟩ := k
  exact ⟨by omega, fun m hm => by rw [k2, h.keep m hm], fun q b' hq => by rw [k2] at hq; have := h.ok q b' hq; omega⟩
theorem Old.wr (h : Old N H0 H) (k : Wr H n b H') (hn : N ≤ n) (hl : n < H.next) : Old N H0 H' := by
  have h1 := h.next
  obtain ⟨k1, k2, k3⟩ := k
  refine ⟨by omega, fun m hm => by rw [k3 m (by omega), h.keep m hm], fun q b' hq => ?_⟩
  by_cases e : q = n
  · omega
  · rw [k3 q e] at hq; have := h.ok q b' hq; omega
theorem Old.trans (h : Old N H0 H) (k : Kp H H') : Old N H0 H' := by
  have h1 := h.next
  have h2 := k.next
  exact ⟨by omega, fun m hm => by rw [k.keep m (by omega), h.keep m hm], k.ok⟩
theorem Bs.old {H0 H : AH} {v : AV} {l : List UInt8} (h : Bs H0 v l) (hw : H0.Ok) (k : Kp H0 H) : Bs H v l := by
  cases h with
  | nil => exact .nil
  | none => exact .none
  | mk hb hc => exact .mk (by rw [k.keep _ (hw _ _ hb)]; exact hb) hc
/-- The text of octets. -/
def txt (l : List UInt8) : ByteArray := ⟨l.toArray⟩
/-- A part of a slice of octets. -/
theorem Bs.sub {H : AH} {a : Option (Nat × Nat)} {len cap g : Nat} {l : List UInt8} (h : Bs H (.sl a len cap g) l) {lo hi m : Nat} (h1 : lo ≤ hi) (h2 : hi ≤ len) {a' : Option (Nat × Nat)} (ha : a' = a ∨ a' = a.map fun (b, o) => (b, o + lo * 1)) (hn : a' = a → lo = hi ∨ lo = 0) :
    Bs H (.sl a' (hi - lo) m g) ((l.drop lo).take (hi - lo)) := by
  cases h with
  | nil =>
    have e1 : hi = 0 := by omega
    have e2 : lo = 0 := by omega
    subst e1 e2
    exact .none
  | none =>
    have e1 : hi = 0 := by omega
    have e2 : lo = 0 := by omega
    subst e1 e2
    exact .none
  | @mk b o cap g cs mu l hb hc =>
    by_cases he : lo = hi
    · subst he
      have : (l.drop lo).take (lo - lo) = [] := by simp
      rw [this, Nat.sub_self]; exact .none
    · have hl : ((l.drop lo).take (hi - lo)).length = hi - lo := by simp; omega
      have key : ∀ o', o' = o + lo → Bs H (.sl (some (b, o')) (hi - lo) m g) ((l.drop lo).take (hi - lo)) := fun o' e => by
        have hs := takeAt_sub hc (i := lo) (m := hi - lo) (by omega)
        rw [bcells_drop, bcells_take] at hs
        have := Bs.mk (cap := m) (g := g) hb (o := o') (l := (l.drop lo).take (hi - lo)) (by rw [hl, e]; exact hs)
        rw [hl] at this; exact this
      rcases ha with rfl | rfl
      · rcases hn rfl with h | h
        · exact absurd h he
        · subst h; exact key o (by omega)
      · exact key _ (by simp)
theorem Bs.length {H : AH} {a : Option (Nat × Nat)} {len cap g : Nat} {l : List UInt8} (h : Bs H (.sl a len cap g) l) : l.length = len := by
  cases h <;> rfl
section
variable {T : Tm} {H : AH} {c : CallF}
/-- One octet of a slice, by its number. -/
theorem Bs.isl {v : AV} {l : List UInt8} (h : Bs H v l) {x i : XO} {k : IntKind} {n : Int} (hx : x.ev T = v) (hi : i.ev T = .i k n) (h0 : 0 ≤ n) (h1 : n < (l.length : Int)) :
    ∃ b o cs mu, (XOp.isl 1 x i).run c T H = some (.p (some (b, o)), H) ∧ H.get b = some (.cells cs mu) ∧ cs[o]? = some (.i .u8 ((l.getD n.toNat 0).toNat : Int)) := by
  obtain ⟨b, o, cs, mu, h2, h3, h4⟩ := h.at hx hi h0 h1 (c := c)
  refine ⟨b, o, cs, mu, h2, h3, ?_⟩
  have hlt : n.toNat < l.length := by omega
  rw [h4, List.getElem?_eq_getElem hlt, List.getD_eq_getElem?_getD, List.getElem?_eq_getElem hlt]; rfl
/-- A part of a slice, as the operation tells it. -/
theorem Bs.slsl {H0 : AH} {x : XO} {lo hi : Option XO} {a : Option (Nat × Nat)} {len cap g : Nat} {l : List UInt8} (h : Bs H0 (.sl a len cap g) l) (hx : x.ev T = .sl a len cap g) (hg : g = 0 ∨ g = 1) {i j m : Nat} (hs : sbounds len cap (lo.map (·.ev T)) (hi.map (·.ev T)) Option.none = some (i, j, m)) (h1 : i ≤ j) (h2 : j ≤ len) (h3 : len ≤ cap) (hm : m = cap) :
    ∃ a', (XOp.slsl 1 x lo hi Option.none).run c T H = some (.sl a' (j - i) (cap - i) g, H) ∧ Bs H0 (.sl a' (j - i) (cap - i) g) ((l.drop i).take (j - i)) := by
  subst hm
  refine ⟨_, r_slsl (mx := Option.none) hx hg hs, ?_⟩
  have e : (if (Option.none : Option XO).isSome = true then 0 else g) = g := rfl
  rw [e]
  refine h.sub h1 h2 ?_ fun he => ?_
  · split
    · exact .inl rfl
    · exact .inr rfl
  · split at he
    · rename_i h4; left; omega
    · cases a with
      | none => cases h with
        | nil => right; omega
        | none => right; omega
      | some p =>
        simp only [Option.map_some, Option.some.injEq] at he
        have := congrArg Prod.snd he
        simp only [] at this
        right; omega
end
section
variable {T : Tm} {H : AH} {c : CallF}
theorem r_pick_t {cx a b : XO} {v : AV} (hc : cx.ev T = .b true) (ha : a.ev T = v) : (XOp.pick cx a b).run c T H = some (v, H) := by simp only [XOp.run, XOp.look, hc, ha, if_true, Option.map_some]
theorem r_pick_f {cx a b : XO} {v : AV} (hc : cx.ev T = .b false) (hb : b.ev T = v) : (XOp.pick cx a b).run c T H = some (v, H) := by simp only [XOp.run, XOp.look, hc, hb, Bool.false_eq_true, if_false, Option.map_some]
end
/-! ### Arguments -/
theorem Rel.aok {P : Program} {B : Nat} {w0 w : World} {ρ : Rho} {H : AH} (hR : Rel P B w0 ρ H w) : H.Ok := fun q b hq => by
  rcases Nat.lt_or_ge q H.next with h | h
  · exact h
  · have := hR.none_get h; rw [hq] at this; cases this
end
end Go.Proofs.Ytjheedfobmlalaa.E
