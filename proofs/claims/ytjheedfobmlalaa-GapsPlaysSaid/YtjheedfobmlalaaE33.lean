/- A reader of octets, in a walk. It bears no condition. -/
import Derived.Test.YtjheedfobmlalaaE32
namespace Go.Proofs.Ytjheedfobmlalaa.E
set_option linter.unusedVariables false
set_option linter.unusedSimpArgs false

/-- A reader: a block of its own that holds the octets that are left. -/
def Rd (H : AH) (lo n : Nat) (l : List UInt8) : Prop := ∃ a cap g, H.get n = some (.cells [.sl a l.length cap g] true) ∧ (g = 0 ∨ g = 1) ∧ l.length ≤ cap ∧ cap ≤ 9223372036854775807 ∧ Bs H (.sl a l.length cap g) l ∧ ∀ q, (AV.sl a l.length cap g).nameOf q → lo ≤ q ∧ q < n
theorem ite_or {α : Type} (p : Prop) [Decidable p] (x y : α) : (if p then x else y) = x ∨ (if p then x else y) = y := by
  by_cases h : p
  · exact .inl (if_pos h)
  · exact .inr (if_neg h)
theorem name_sub {a a' : Option (Nat × Nat)} {m len cap g len' cap' g' q : Nat} (h : a' = a ∨ a' = a.map fun (b, o) => (b, o + m)) (hq : (AV.sl a' len' cap' g').nameOf q) : (AV.sl a len cap g).nameOf q := by
  rcases h with rfl | rfl
  · cases a' with
    | none => cases hq
    | some p => exact hq
  · cases a with
    | none => cases hq
    | some p => exact hq
theorem Bs.but {H H' : AH} {v : AV} {l : List UInt8} {n : Nat} (h : Bs H v l) (ho : H.Ok) (k : But n H H') (hn : ¬ v.nameOf n) : Bs H' v l := by
  cases h with
  | nil => exact .nil
  | none => exact .none
  | mk hb hc => exact .mk (by rw [k.keep _ (ho _ _ hb) (fun e => hn (nameOf_sl.2 e.symm))]; exact hb) hc
theorem Rd.lt {H : AH} {lo n : Nat} {l : List UInt8} (h : Rd H lo n l) (ho : H.Ok) : n < H.next := by
  obtain ⟨a, cap, g, h1, _⟩ := h; exact ho _ _ h1
theorem But.wr {n : Nat} {H H' : AH} {b : Blk} (k : Wr H n b H') (ho : H.Ok) (hl : n < H.next) : But n H H' :=
  ⟨by rw [k.1]; exact Nat.le_refl _, fun m _ hn => k.2.2 m hn, (Old.wr (N := 0) (H0 := H) ⟨Nat.zero_le _, fun _ h => absurd h (Nat.not_lt_zero _), ho⟩ k (Nat.zero_le _) hl).ok⟩
theorem Rd.wr {H H' : AH} {lo n m : Nat} {b : Blk} {l : List UInt8} (h : Rd H lo n l) (ho : H.Ok) (k : Wr H m b H') (hl : m < H.next) (hn : m ≠ n) (hm : m < lo ∨ n < m) : Rd H' lo n l := by
  obtain ⟨a, cap, g, h1, h2, h3, h3', h4, h5⟩ := h
  refine ⟨a, cap, g, by rw [k.2.2 n (Ne.symm hn)]; exact h1, h2, h3, h3', h4.but ho (But.wr k ho hl) (fun hq => ?_), h5⟩
  have := h5 _ hq
  omega
theorem But.trans {n : Nat} {a b c : AH} (h : But n a b) (k : But n b c) : But n a c :=
  ⟨Nat.le_trans h.next k.next, fun m hm hn => by rw [k.keep m (Nat.lt_of_lt_of_le hm h.next) hn, h.keep m hm hn], k.ok⟩
section
variable {T : Tm} {H H0 : AH} {c : CallF} {x : XO}
theorem r_nilq_s {neg : Bool} {a : Nat × Nat} (hx : x.ev T = .p (some a)) : (XOp.nilq 0 neg x).run c T H = some (.b neg, H) := by simp only [XOp.run, XOp.look, hx, Option.map_some]; cases neg <;> rfl
theorem r_nilc {b o : Nat} (hx : x.ev T = .p (some (b, o))) : (XOp.nilc x).run c T H = some (.p (some (b, o)), H) := by simp only [XOp.run, XOp.look, hx, Option.map_some]
/-- The first octets, as a slice without room behind them. -/
theorem Bs.cut {a : Option (Nat × Nat)} {len cap g : Nat} {l : List UInt8} {k k' : IntKind} (h : Bs H0 (.sl a len cap g) l) (hg : g = 0 ∨ g = 1) (hx : x.ev T = .sl a len cap g) {y z : XO} {j : Nat} (hy : y.ev T = .i k j) (hz : z.ev T = .i k' j) (h2 : j ≤ len) (h3 : len ≤ cap) :
    ∃ v, (XOp.slsl 1 x Option.none (some y) (some z)).run c T H = some (v, H) ∧ ∃ a', v = .sl a' j j 0 ∧ Bs H0 v (l.take j) ∧ ∀ q, v.nameOf q → (AV.sl a len cap g).nameOf q := by
  have hs : sbounds len cap ((Option.none : Option XO).map (·.ev T)) ((some y).map (·.ev T)) ((some z).map (·.ev T)) = some (0, j, j) := by
    have h4 : (0 : Int) ≤ (j : Int) ∧ (j : Int) ≤ (cap : Int) := by omega
    have h5 : (0 : Int) ≤ (j : Int) ∧ (j : Int) ≤ (j : Int) := by omega
    unfold sbounds
    simp only [Option.map_some, Option.map_none, hy, hz, sbound, if_pos h4, Int.toNat_natCast, if_pos h5]
  have hr := r_slsl (H := H) (c := c) (mx := some z) hx hg hs
  refine ⟨_, hr, ?_⟩
  simp only [Option.isSome_some, if_true, Nat.sub_zero, and_true]
  refine ⟨_, rfl, ?_, ?_⟩
  · have key : ∀ a', (a' = a ∨ a' = a.map fun (b, o) => (b, o + 0 * 1)) → Bs H0 (.sl a' j j 0) (l.take j) := fun a' ha => by
      cases h with
      | nil =>
        have : j = 0 := by omega
        subst this; exact .none
      | none =>
        have : j = 0 := by omega
        subst this; exact .none
      | @mk b o cap g cs mu l hb hc =>
        have e : a' = some (b, o) := by rcases ha with rfl | rfl <;> simp
        subst e
        have hs := takeAt_sub hc (i := 0) (m := j) (by omega)
        rw [Nat.add_zero, List.drop_zero, bcells_take] at hs
        have hlj : (l.take j).length = j := by rw [List.length_take]; omega
        have := Bs.mk (cap := j) (g := 0) hb (l := l.take j) (by rw [hlj]; exact hs)
        rw [hlj] at this; exact this
    refine key _ ?_
    split
    · exact .inl rfl
    · exact .inr rfl
  · intro q hq
    refine name_sub (m := 0 * 1) ?_ hq
    split
    · exact .inl rfl
    · exact .inr rfl
/-- What is left behind some octets, and its name. -/
theorem Bs.lo' {a : Option (Nat × Nat)} {len cap g : Nat} {l : List UInt8} {k : IntKind} (h : Bs H0 (.sl a len cap g) l) (hg : g = 0 ∨ g = 1) (hx : x.ev T = .sl a len cap g) {y : XO} {i : Nat} (hi : y.ev T = .i k i) (h2 : i ≤ len) (h3 : len ≤ cap) :
    ∃ v, (XOp.slsl 1 x (some y) Option.none Option.none).run c T H = some (v, H) ∧ ∃ a', v = .sl a' (len - i) (cap - i) g ∧ Bs H0 v (l.drop i) ∧ ∀ q, v.nameOf q → (AV.sl a len cap g).nameOf q := by
  obtain ⟨v, h4, a', rfl, h5⟩ := Bs.lo (H := H) (c := c) h hg hx hi h2 h3
  refine ⟨_, h4, a', rfl, h5, ?_⟩
  have hs : sbounds len cap ((some y).map (·.ev T)) ((Option.none : Option XO).map (·.ev T)) Option.none = some (i, len, cap) := by
    simp only [Option.map_some, Option.map_none, hi]
    exact sb_lo (i := (i : Int)) (by omega) (by omega)
  have hr := r_slsl (H := H) (c := c) (mx := Option.none) hx hg hs
  rw [h4] at hr
  simp only [Option.some.injEq, Prod.mk.injEq, AV.sl.injEq, and_true] at hr
  intro q hq
  obtain ⟨e, _⟩ := hr
  subst e
  exact name_sub (m := i * 1) (ite_or _ _ _) hq
end
end Go.Proofs.Ytjheedfobmlalaa.E
