/- Records of a slice are deleted, wherever they lie; beginnings of slices. It bears no condition. -/
import Derived.Test.YtjheedfobmlalaaE44
namespace Go.Proofs.Ytjheedfobmlalaa.E
set_option linter.unusedVariables false
set_option linter.unusedSimpArgs false
section
variable {sz b o n cap g : Nat} {H : AH} {T : Tm} {cf : CallF} {x y z w s : XO} {k k' k2 : IntKind} {c : List AV} {R : HL} {rows A B : List (List AV)}
theorem sl_suf {i : Nat} (hx : x.ev T = .sl (some (b, o)) n cap g) (hy : y.ev T = .i k ((i : Nat) : Int)) (hg : g = 0 ∨ g = sz) (h1 : i ≤ n) : (XOp.slsl sz x (some y) none none).run cf T H = some (.sl (if cap = i ∧ g = 0 then some (b, o) else some (b, o + i * sz)) (n - i) (cap - i) g, H) := by
  rw [r_slsl hx hg (l := i) (h := n) (m := cap) (by simp only [Option.map_some, Option.map_none, hy]; exact sb_lo' h1)]
  simp only [Option.map_some, Option.isSome_none, Bool.false_eq_true, if_false]
theorem rows_part {i : Nat} (hr : ∀ x ∈ rows, x.length = sz) (hi : i ≤ rows.length) (hl : takeAt c o (rows.length * sz) = some rows.flatten) : takeAt c (o + i * sz) ((rows.length - i) * sz) = some (rows.drop i).flatten := by
  have hle : i * sz ≤ rows.length * sz := Nat.mul_le_mul_right sz hi
  refine rec_take hl ?_
  have hfl := flat_len hr
  have e : rows.flatten = (rows.take i).flatten ++ (rows.drop i).flatten := by rw [← List.flatten_append, List.take_append_drop]
  have h1 : (rows.take i).flatten.length = i * sz := by rw [flat_len (sz := sz) fun x hx => hr x (List.mem_of_mem_take hx), List.length_take, Nat.min_eq_left hi]
  have h2 : (rows.drop i).flatten.length = (rows.length - i) * sz := by rw [flat_len (sz := sz) fun x hx => hr x (List.mem_of_mem_drop hx), List.length_drop]
  rw [takeAt_ok (by rw [hfl, Nat.sub_mul]; omega), e, ← h1, List.drop_left, ← h2, List.take_length]
end
end Go.Proofs.Ytjheedfobmlalaa.E
