/- Records of a slice are deleted, wherever they lie; beginnings of slices. It bears no condition. -/
import Derived.Test.YtjheedfobmlalaaE44
namespace Go.Proofs.Ytjheedfobmlalaa.E
set_option linter.unusedVariables false
set_option linter.unusedSimpArgs false
section
variable {sz b o n cap g : Nat} {H : AH} {T : Tm} {cf : CallF} {x y z w s : XO} {k k' k2 : IntKind} {c : List AV} {R : HL} {rows A B : List (List AV)}
theorem sl_pre {i : Nat} (hx : x.ev T = .sl (some (b, o)) n cap g) (hy : y.ev T = .i k ((i : Nat) : Int)) (hg : g = 0 ∨ g = sz) (hi : i ≤ cap) : (XOp.slsl sz x none (some y) none).run cf T H = some (.sl (some (b, o)) i cap g, H) := by
  rw [r_slsl hx hg (l := 0) (h := i) (m := cap) (by simp only [Option.map_some, Option.map_none, hy]; exact sb_hi' hi)]
  simp only [Option.map_some, Nat.zero_mul, Nat.add_zero, ite_self, Nat.sub_zero, Option.isSome_none, Bool.false_eq_true, if_false]
theorem sl_suf {i : Nat} (hx : x.ev T = .sl (some (b, o)) n cap g) (hy : y.ev T = .i k ((i : Nat) : Int)) (hg : g = 0 ∨ g = sz) (h1 : i ≤ n) : (XOp.slsl sz x (some y) none none).run cf T H = some (.sl (if cap = i ∧ g = 0 then some (b, o) else some (b, o + i * sz)) (n - i) (cap - i) g, H) := by
  rw [r_slsl hx hg (l := i) (h := n) (m := cap) (by simp only [Option.map_some, Option.map_none, hy]; exact sb_lo' h1)]
  simp only [Option.map_some, Option.isSome_none, Bool.false_eq_true, if_false]
theorem rows_part {i : Nat} (hr : ∀ x ∈ rows, x.length = sz) (hi : i ≤ rows.length) (hl : takeAt c o (rows.length * sz) = some rows.flatten) : takeAt c (o + i * sz) ((rows.length - i) * sz) = some (rows.drop i).flatten := by
  have hle : i * sz ≤ rows.length * sz := Nat.mul_le_mul_right sz hi
  refine rec_take hl ?_
  have hfl := flat_len hr
  have e : rows.flatten = (rows.take i).flatten ++ (rows.drop i).flatten := by rw [← List.flatten_append, List.take_append_drop]
  have h1 : (rows.take i).flatten.length = i * sz := by rw [flat_len (sz := sz) fun x hx => hr x (List.mem_of_mem_take hx), List.length_take, Nat.min_eq_left hi]
  have h2 : (rows.drop i).flatten.length = (rows.length - i) * sz := by rw [flat_len (sz := sz) fun x hx => hr x (List.mem_of_mem_drop hx), List.length_drop]
  rw [takeAt_ok (by rw [hfl, Nat.sub_mul]; omega), e, ← h1, List.drop_left, ← h2, List.take_length]
theorem rows_pre {i : Nat} (hr : ∀ x ∈ rows, x.length = sz) (hi : i ≤ rows.length) (hl : takeAt c o (rows.length * sz) = some rows.flatten) : takeAt c o (i * sz) = some (rows.take i).flatten := by
  have hle : i * sz ≤ rows.length * sz := Nat.mul_le_mul_right sz hi
  have h := takeAt_sub (i := 0) (m := i * sz) hl (by omega)
  rw [Nat.add_zero, List.drop_zero] at h
  rw [h]
  have e : rows.flatten = (rows.take i).flatten ++ (rows.drop i).flatten := by rw [← List.flatten_append, List.take_append_drop]
  have h1 : (rows.take i).flatten.length = i * sz := by rw [flat_len (sz := sz) fun x hx => hr x (List.mem_of_mem_take hx), List.length_take, Nat.min_eq_left hi]
  rw [e, ← h1, List.take_left]
/-- append(s[:i], s[i+1:]...) -/
theorem del_appk {bytes i : Nat} (hH : Hs H ([(b, some (.cells c true))] ++ R)) (hr : ∀ x ∈ rows, x.length = sz) (hl : takeAt c o (rows.length * sz) = some rows.flatten) (hi : i < rows.length) (hnc : rows.length ≤ cap) (hc : o + cap * sz ≤ c.length)
    (hs : s.ev T = .sl (some (b, o)) i cap g) (hx : x.ev T = .sl (if cap = i + 1 ∧ g = 0 then some (b, o) else some (b, o + (i + 1) * sz)) (rows.length - (i + 1)) (cap - (i + 1)) g) :
    ∃ v H', (XOp.append sz bytes s x).run cf T H = some (v, H') ∧ (v = .sl (some (b, o)) (rows.length - 1) cap g ∧ ∃ c', Hs H' ([(b, some (.cells c' true))] ++ R) ∧ takeAt c' o ((rows.length - 1) * sz) = some (rows.eraseIdx i).flatten ∧ c'.length = c.length) := by
  have hd : ∀ x ∈ rows.drop (i + 1), x.length = sz := fun x hx => hr x (List.mem_of_mem_drop hx)
  have hfl := flat_len hd
  rw [List.length_drop] at hfl
  have hsrc : XOp.src H sz (rows.length - (i + 1)) (.sl (if cap = i + 1 ∧ g = 0 then some (b, o) else some (b, o + (i + 1) * sz)) (rows.length - (i + 1)) (cap - (i + 1)) g) = some (rows.drop (i + 1)).flatten := by
    by_cases h0 : rows.length = i + 1
    · rw [List.drop_of_length_le (by omega), show rows.length - (i + 1) = 0 by omega]
      by_cases hq : cap = i + 1 ∧ g = 0
      · rw [if_pos hq]; simp [XOp.src]
      · rw [if_neg hq]; simp [XOp.src]
    · rw [if_neg (by omega)]
      exact src_blk hH.get (rows_part hr (by omega) hl)
  have hle : rows.length * sz ≤ cap * sz := Nat.mul_le_mul_right sz hnc
  have hle2 : (i + (rows.length - (i + 1))) * sz ≤ rows.length * sz := Nat.mul_le_mul_right sz (by omega)
  rw [Nat.add_mul] at hle2
  obtain ⟨H', hw, hH'⟩ := write_hs (q := o + i * sz) (vs := (rows.drop (i + 1)).flatten) hH (by omega)
  have hpre := rows_pre (i := i) hr (by omega) hl
  refine ⟨_, H', ?_, rfl, _, hH', ?_, ?_⟩
  · simp only [XOp.run, XOp.turn, hs, hx, lenOfA, hsrc]
    rw [if_pos (by omega), hw]
    simp only [Option.map_some]
    rw [show i + (rows.length - (i + 1)) = rows.length - 1 by omega]
  · have h2 := putAt_take (cs := c) (vs := (rows.drop (i + 1)).flatten) hpre (by omega)
    rw [hfl, ← Nat.add_mul, show i + (rows.length - (i + 1)) = rows.length - 1 by omega, ← List.flatten_append, ← List.eraseIdx_eq_take_drop_succ] at h2
    exact h2
  · rw [putAt_eq _ _ _ (by omega), List.length_append, List.length_append, List.length_take, List.length_drop]; omega
theorem repl_len (m : Nat) (zs : List AV) : (repl m zs).length = m * zs.length := by
  induction m with
  | zero => simp [repl]
  | succ m ih => show (zs ++ repl m zs).length = _; rw [List.length_append, ih, Nat.add_mul, Nat.one_mul, Nat.add_comm]
/-- clear(s[i:]) -/
theorem del_clrs {zs : List AV} {m q cap' : Nat} {a : Option (Nat × Nat)} (hH : Hs H ([(b, some (.cells c true))] ++ R)) (hx : x.ev T = .sl a m cap' g) (ha : m = 0 ∨ a = some (b, q)) (hq : m ≠ 0 → q + m * zs.length ≤ c.length) : ∃ v H', (XOp.clrs zs x).run cf T H = some (v, H') ∧ ∃ c', Hs H' ([(b, some (.cells c' true))] ++ R) ∧ c'.length = c.length ∧ ∀ (o' j : Nat) (l : List AV), (m ≠ 0 → o' + j ≤ q) → takeAt c o' j = some l → takeAt c' o' j = some l := by
  by_cases h0 : m = 0
  · subst h0
    refine ⟨und, H, ?_, c, hH, rfl, fun _ _ _ _ h => h⟩
    simp only [XOp.run, XOp.turn, hx]
    cases a <;> simp
  · obtain rfl : a = some (b, q) := by rcases ha with h | h; exact absurd h h0; exact h
    have hf : q + (repl m zs).length ≤ c.length := by rw [repl_len]; exact hq h0
    obtain ⟨H', hw, hH'⟩ := write_hs (q := q) (vs := repl m zs) hH hf
    refine ⟨und, H', ?_, _, hH', ?_, fun o' j l hj h => take_out h (hj h0) hf⟩
    · simp only [XOp.run, XOp.turn, hx, h0, if_false, hw, Option.map_some]
    · rw [putAt_eq _ _ _ hf, List.length_append, List.length_append, List.length_take, List.length_drop]; omega
end
end Go.Proofs.Ytjheedfobmlalaa.E
