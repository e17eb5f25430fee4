/- Ends of slices that are written; slices made of many records; first places. It bears no condition. -/
import Derived.Test.YtjheedfobmlalaaE45
namespace Go.Proofs.Ytjheedfobmlalaa.E
set_option linter.unusedVariables false
set_option linter.unusedSimpArgs false
section
variable {sz : Nat} {H : AH} {T : Tm} {cf : CallF} {x y : XO} {k : IntKind} {v : AV} {c : List AV} {rows : List (List AV)} {i : Nat}
/-- s[i:], written on. -/
theorem Sq.suf (h : Sq sz v c rows.flatten) (hr : ∀ r ∈ rows, r.length = sz) (hsz : 0 < sz) (h0 : 0 < rows.length) (hx : x.ev T = v) (hi : y.ev T = .i k ((i : Nat) : Int)) (h1 : i ≤ rows.length) : ∃ w, (XOp.slsl sz x (some y) none none).run cf T H = some (w, H) ∧ Sq sz w c (rows.drop i).flatten ∧ qseg w c = qseg v c ∧ ∃ a n cap g, w = .sl a n cap g := by
  obtain ⟨b, o, cap, g, rfl, hg, hl, hnc, hc⟩ := h.open (n := rows.length) (flat_len hr) hsz h0
  refine ⟨_, sl_suf hx hi hg h1, ?_, ?_, _, _, _, _, rfl⟩
  · by_cases hq : cap = i ∧ g = 0
    · rw [if_pos hq, List.drop_of_length_le (by omega)]
      refine .mk hg ?_ (by omega) (by rw [show cap - i = 0 by omega, Nat.zero_mul]; have := Nat.zero_le (cap * sz); omega)
      rw [show rows.length - i = 0 by omega, Nat.zero_mul, takeAt_ok (by have := Nat.zero_le (cap * sz); omega)]; rfl
    · rw [if_neg hq]
      refine .mk hg (rows_part hr h1 hl) (by omega) ?_
      have : i * sz + (cap - i) * sz = cap * sz := by rw [← Nat.add_mul]; congr 1; omega
      omega
  · split <;> rfl
end
section
variable {α : Type} {P : α → Bool}
end
end Go.Proofs.Ytjheedfobmlalaa.E
