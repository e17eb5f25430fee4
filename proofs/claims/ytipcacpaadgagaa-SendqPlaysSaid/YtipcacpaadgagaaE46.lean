/- Ends of slices that are written; slices made of many records; first places. It bears no condition. -/
import Derived.Test.YtipcacpaadgagaaE45
namespace Go.Proofs.Ytipcacpaadgagaa.E
set_option linter.unusedVariables false
set_option linter.unusedSimpArgs false
section
variable {sz : Nat} {H : AH} {T : Tm} {cf : CallF} {x y : XO} {k : IntKind} {v : AV} {c : List AV} {rows : List (List AV)} {i : Nat}
end
section
variable {α : Type} {P : α → Bool}
theorem fx_next : ∀ {w : List α} {i : Nat} {x : α}, i ≤ w.findIdx P → w[i]? = some x → P x = false → i + 1 ≤ w.findIdx P
  | [], i, x, _, h, _ => by simp at h
  | y :: w, 0, x, _, h, hp => by
    simp only [List.getElem?_cons_zero, Option.some.injEq] at h
    subst h
    rw [List.findIdx_cons, hp]; simp
  | y :: w, i + 1, x, hi, h, hp => by
    rw [List.findIdx_cons] at hi ⊢
    cases hy : P y with
    | true => rw [hy] at hi; simp at hi
    | false =>
      rw [hy] at hi
      simp only [cond_false] at hi ⊢
      have := fx_next (w := w) (i := i) (by omega) (by simpa using h) hp
      omega
theorem fx_at {w : List α} {i : Nat} {x : α} (hi : i ≤ w.findIdx P) (h : w[i]? = some x) (hp : P x = true) : w.findIdx P = i := by
  by_cases he : w.findIdx P = i
  · exact he
  · have hn := List.not_of_lt_findIdx (xs := w) (p := P) (i := i) (by omega)
    have e := (List.getElem?_eq_some_iff.1 h).2
    rw [e, hp] at hn; simp at hn
end
end Go.Proofs.Ytipcacpaadgagaa.E
