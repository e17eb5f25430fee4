/- The first record of a slice is deleted. It bears no condition. -/
import Derived.Test.YtjheedfobmlalaaE42
namespace Go.Proofs.Ytjheedfobmlalaa.E
set_option linter.unusedVariables false
set_option linter.unusedSimpArgs false
section
variable {sz b o n cap g : Nat} {H : AH} {T : Tm} {cf : CallF} {x y z w s : XO} {k k' k2 : IntKind} {c : List AV} {R : HL} {rows : List (List AV)}
theorem sl_tri {a : Option (Nat × Nat)} {i j m : Nat} (hx : x.ev T = .sl a n cap g) (hg : g = 0 ∨ g = sz) (hy : y.ev T = .i k ((i : Nat) : Int)) (hz : z.ev T = .i k' ((j : Nat) : Int)) (hw : w.ev T = .i k2 ((m : Nat) : Int)) (h1 : i ≤ j) (h2 : j ≤ m) (h3 : m ≤ cap) : ∃ v, (XOp.slsl sz x (some y) (some z) (some w)).run cf T H = some (v, H) ∧ True :=
  ⟨_, r_slsl hx hg (by simp only [Option.map_some, hy, hz, hw]; exact sb_tri h1 h2 h3), trivial⟩
theorem sl_zero (hx : x.ev T = .sl (some (b, o)) n cap g) (hy : y.ev T = .i k ((0 : Nat) : Int)) (hg : g = 0 ∨ g = sz) : (XOp.slsl sz x none (some y) none).run cf T H = some (.sl (some (b, o)) 0 cap g, H) := by
  rw [r_slsl hx hg (l := 0) (h := 0) (m := cap) (by simp only [Option.map_some, Option.map_none, hy]; exact sb_hi' (Nat.zero_le _))]
  simp only [Option.map_some, Nat.zero_mul, Nat.add_zero, ite_self, Nat.sub_zero, Option.isSome_none, Bool.false_eq_true, if_false]
theorem sl_one (hx : x.ev T = .sl (some (b, o)) n cap g) (hy : y.ev T = .i k ((1 : Nat) : Int)) (hg : g = 0 ∨ g = sz) (h1 : 1 ≤ n) : (XOp.slsl sz x (some y) none none).run cf T H = some (.sl (if cap = 1 ∧ g = 0 then some (b, o) else some (b, o + 1 * sz)) (n - 1) (cap - 1) g, H) := by
  rw [r_slsl hx hg (l := 1) (h := n) (m := cap) (by simp only [Option.map_some, Option.map_none, hy]; exact sb_lo' h1)]
  simp only [Option.map_some, Option.isSome_none, Bool.false_eq_true, if_false]
theorem sl_last (hx : x.ev T = .sl (some (b, o)) (n - 1) cap g) (hy : y.ev T = .i k (((n - 1 : Nat)) : Int)) (hz : z.ev T = .i k' ((n : Nat) : Int)) (hg : g = 0 ∨ g = sz) (h1 : 1 ≤ n) (h2 : n ≤ cap) : (XOp.slsl sz x (some y) (some z) none).run cf T H = some (.sl (some (b, o + (n - 1) * sz)) 1 (cap - (n - 1)) g, H) := by
  rw [r_slsl hx hg (l := n - 1) (h := n) (m := cap) (by simp only [Option.map_some, Option.map_none, hy, hz]; exact sb_both' (by omega) h2)]
  rw [if_neg (by omega), show n - (n - 1) = 1 by omega]
  simp only [Option.map_some, Option.isSome_none, Bool.false_eq_true, if_false]
theorem rows_tail {r : List AV} (hr : ∀ x ∈ r :: rows, x.length = sz) (hl : takeAt c o ((rows.length + 1) * sz) = some (r :: rows).flatten) : takeAt c (o + 1 * sz) (rows.length * sz) = some rows.flatten := by
  refine rec_take hl ?_
  have hrl := hr r (List.mem_cons_self ..)
  have hfl := flat_len (sz := sz) (R := rows) fun x hx => hr x (List.mem_cons_of_mem _ hx)
  rw [List.flatten_cons, takeAt_ok (by rw [List.length_append, hrl, hfl, Nat.one_mul]; omega), Nat.one_mul, ← hrl, List.drop_left, hrl, ← hfl, List.take_length]
theorem write_hs {q : Nat} {vs : List AV} (hH : Hs H ([(b, some (.cells c true))] ++ R)) (hf : q + vs.length ≤ c.length) : ∃ H', H.write b q vs = some H' ∧ Hs H' ([(b, some (.cells (putAt c q vs) true))] ++ R) := by
  cases vs with
  | nil => exact ⟨H, by unfold AH.write; rw [if_pos rfl], hH⟩
  | cons v vs =>
    refine ⟨H.set b (.cells (putAt c q (v :: vs)) true), ?_, hH.wr ⟨rfl, AH.set_same _ _ _, fun m h => AH.set_other _ _ (Ne.symm h)⟩⟩
    unfold AH.write
    rw [if_neg (List.cons_ne_nil _ _), hH.get]
    simp only
    rw [if_pos hf]
theorem del_app {bytes : Nat} {r : List AV} (hH : Hs H ([(b, some (.cells c true))] ++ R)) (hr : ∀ x ∈ r :: rows, x.length = sz) (hl : takeAt c o ((rows.length + 1) * sz) = some (r :: rows).flatten) (hnc : rows.length + 1 ≤ cap) (hc : o + cap * sz ≤ c.length)
    (hs : s.ev T = .sl (some (b, o)) 0 cap g) (hx : x.ev T = .sl (if cap = 1 ∧ g = 0 then some (b, o) else some (b, o + 1 * sz)) (rows.length + 1 - 1) (cap - 1) g) :
    ∃ v H', (XOp.append sz bytes s x).run cf T H = some (v, H') ∧ (v = .sl (some (b, o)) (rows.length + 1 - 1) cap g ∧ ∃ c', Hs H' ([(b, some (.cells c' true))] ++ R) ∧ takeAt c' o (rows.length * sz) = some rows.flatten ∧ c'.length = c.length) := by
  have hfl := flat_len (sz := sz) (R := rows) fun x hx => hr x (List.mem_cons_of_mem _ hx)
  have hsrc : XOp.src H sz (rows.length + 1 - 1) (.sl (if cap = 1 ∧ g = 0 then some (b, o) else some (b, o + 1 * sz)) (rows.length + 1 - 1) (cap - 1) g) = some rows.flatten := by
    rw [Nat.add_sub_cancel]
    by_cases h0 : rows.length = 0
    · have : rows = [] := List.length_eq_zero_iff.1 h0
      subst this
      by_cases hq : cap = 1 ∧ g = 0
      · rw [if_pos hq]; simp [XOp.src]
      · rw [if_neg hq]; simp [XOp.src]
    · rw [if_neg (by omega)]
      exact src_blk hH.get (rows_tail hr hl)
  have hle : rows.length * sz ≤ cap * sz := Nat.mul_le_mul_right sz (by omega)
  obtain ⟨H', hw, hH'⟩ := write_hs (q := o + 0 * sz) (vs := rows.flatten) hH (by rw [Nat.zero_mul]; omega)
  refine ⟨_, H', ?_, rfl, _, hH', ?_, ?_⟩
  · simp only [XOp.run, XOp.turn, hs, hx, lenOfA, hsrc]
    rw [if_pos (by omega), hw]
    simp only [Option.map_some, Nat.zero_add]
  · have h2 := putAt_take (cs := c) (vs := rows.flatten) (l := []) (o := o) (m := 0) (by rw [takeAt_ok (by omega), List.take_zero]) (by omega)
    rw [Nat.zero_mul]
    rw [Nat.zero_add, hfl, List.nil_append] at h2
    exact h2
  · rw [Nat.zero_mul, putAt_eq _ _ _ (by omega), List.length_append, List.length_append, List.length_take, List.length_drop]; omega
theorem del_clr {zs : List AV} {q cap' : Nat} (hH : Hs H ([(b, some (.cells c true))] ++ R)) (hx : x.ev T = .sl (some (b, q)) 1 cap' g) (hq : q + zs.length ≤ c.length) : ∃ v H', (XOp.clrs zs x).run cf T H = some (v, H') ∧ Hs H' ([(b, some (.cells (putAt c q zs) true))] ++ R) := by
  have hrep : repl 1 zs = zs := by simp [repl]
  obtain ⟨H', hw, hH'⟩ := write_hs (q := q) (vs := zs) hH hq
  refine ⟨und, H', ?_, hH'⟩
  simp only [XOp.run, XOp.turn, hx, Nat.one_ne_zero, if_false, hrep, hw, Option.map_some]
theorem take_out {vs l : List AV} {m q : Nat} (h : takeAt c o m = some l) (hq : o + m ≤ q) (hf : q + vs.length ≤ c.length) : takeAt (putAt c q vs) o m = some l := by
  obtain ⟨h1, h2⟩ := takeAt_len h
  rw [takeAt_ok h2] at h
  rw [putAt_eq _ _ _ hf, takeAt_ok (by simp; omega), List.append_assoc, List.drop_append_of_le_length (by rw [List.length_take]; omega), List.take_append_of_le_length (by rw [List.length_drop, List.length_take]; omega), List.drop_take, List.take_take, Nat.min_eq_left (by omega)]
  exact h
end
theorem O_nh {tab : Nat → Option XFun} {sp : Nat → List AV → AH → Option (AV × AH)} {T : Tm} {H : AH} {R : Tm → AH → Prop} {op : XOp} {ix : Nat} {bef : List Nat} {l : List XOper} {P : AH → Prop} (h : ∃ v H', op.run noCall T H = some (v, H') ∧ P H') (k : ∀ H', P H' → O tab sp l T H' R) : O tab sp (⟨none, op, none, ix, bef⟩ :: l) T H R := by
  obtain ⟨v, H', h, p⟩ := h; exact O_n h (k H' p)
end Go.Proofs.Ytjheedfobmlalaa.E
