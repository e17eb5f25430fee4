/- WindowStays: its functions, walked. It bears no condition. -/
import Derived.Test.YtjnceigeejdleaaX
import Derived.Test.YtjnceigeejdleaaE42
import Derived.Test.YtjnceigeejdleaaE37
namespace Go.Proofs.Ytjnceigeejdleaa.E
set_option linter.unusedVariables false
set_option linter.unusedSimpArgs false
theorem globals0 : Try.prog.globals.size = 0 := by kernel_rfl
theorem mixed : Try.prog.follows .mixedOrders = true := by kernel_rfl
theorem laid : laidOutB Try.prog = true := by kernel_rfl
def tabA := without [7] tab
theorem tabA_ok : TabOK Try.prog tabA := without_ok tab_ok
def spA := withSp 7 [] (.b true) noSp
theorem spA_ok : SpOK Try.prog tabA spA := withSp_ok (k := 300) (f := 7) (args := []) (v := .b true) mixed globals0 tab_ok noSp_ok (by kernel_rfl) rfl rfl noSp_ok
section
variable {T : Tm} {cf : CallF} {H : AH} {x y : XO} {a b : Int}
theorem r_mini (hx : x.ev T = .i .i64 a) (hy : y.ev T = .i .i64 b) : (XOp.mnmx false [x, y]).run cf T H = some (.i .i64 (min a b), H) := by
  have e : pmnmx false (.i .i64 a) (.i .i64 b) = some (.i .i64 (min a b)) := by
    simp only [pmnmx, Bool.false_eq_true, if_false]
    congr 2
    split <;> omega
  simp only [XOp.run, XOp.look, List.foldl_cons, List.foldl_nil, hx, hy, e, Option.map_some]
theorem r_maxi (hx : x.ev T = .i .i64 a) (hy : y.ev T = .i .i64 b) : (XOp.mnmx true [x, y]).run cf T H = some (.i .i64 (max a b), H) := by
  have e : pmnmx true (.i .i64 a) (.i .i64 b) = some (.i .i64 (max a b)) := by
    simp only [pmnmx, if_true]
    congr 2
    split <;> omega
  simp only [XOp.run, XOp.look, List.foldl_cons, List.foldl_nil, hx, hy, e, Option.map_some]
end
/-- A state that may be. -/
def WOk (a b c d : Int) : Prop := (1 ≤ d ∧ d ≤ 65536) ∧ (d ≤ a ∧ a ≤ 1073741824) ∧ (0 ≤ b ∧ b ≤ 1073741824) ∧ (0 ≤ c ∧ c ≤ 1073741824)
theorem between_ev {H : AH} {R : HL} (lo n hi : Int) (hH0 : Hs H R) : Ev tabA spA (.fn (.func 16) [] []) [.i .i64 lo, .i .i64 n, .i .i64 hi] H (fun r H' => r = .b (decide (lo ≤ n) && decide (n ≤ hi)) ∧ Hs H' R) := by
  refine Ev_C (F := x16) rfl ?_
  refine C_seq ?_
  refine C_region ?_
  refine O_p (.b false) (r_mv rfl) ?_
  refine O_nil ?_
  refine C_seq ?_
  refine C_region ?_
  refine O_p (.i .i64 lo) (r_mv rfl) ?_
  refine O_p (.i .i64 n) (r_mv rfl) ?_
  refine O_p (.b (decide (lo ≤ n))) (r_leq rfl rfl) ?_
  refine O_p (.b (decide (lo ≤ n))) (r_mv rfl) ?_
  refine O_gx (e := (decide (lo ≤ n))) (v := (.i .i64 n)) (wt rfl) (fun he => (r_mv rfl)) ?_
  refine O_gx (e := (decide (lo ≤ n))) (v := (.i .i64 hi)) (wt rfl) (fun he => (r_mv rfl)) ?_
  refine O_gx (e := (decide (lo ≤ n))) (v := (.b (decide (n ≤ hi)))) (wt rfl) (fun he => (r_leq (cond_pos he) (cond_pos he))) ?_
  refine O_p (.b ((decide (lo ≤ n)) && (decide (n ≤ hi)))) (r_pick_and rfl rfl rfl rfl) ?_
  refine O_p (.b ((decide (lo ≤ n)) && (decide (n ≤ hi)))) (r_mv rfl) ?_
  refine O_nil ?_
  refine C_ret ?_
  exact ⟨.inr rfl, _, resL_one (r_tmp (v := (.b ((decide (lo ≤ n)) && (decide (n ≤ hi))))) rfl), rfl, hH0⟩
theorem between_true {H : AH} {R : HL} {lo n hi : Int} (h1 : lo ≤ n) (h2 : n ≤ hi) (hH0 : Hs H R) : Ev tabA spA (.fn (.func 16) [] []) [.i .i64 lo, .i .i64 n, .i .i64 hi] H (fun r H' => r = .b true ∧ Hs H' R) := by
  have h := between_ev lo n hi hH0
  rw [decide_eq_true h1, decide_eq_true h2] at h; exact h
theorem between_false {H : AH} {R : HL} {lo n hi : Int} (h1 : ¬ (lo ≤ n ∧ n ≤ hi)) (hH0 : Hs H R) : Ev tabA spA (.fn (.func 16) [] []) [.i .i64 lo, .i .i64 n, .i .i64 hi] H (fun r H' => r = .b false ∧ Hs H' R) := by
  have h := between_ev lo n hi hH0
  rw [show (decide (lo ≤ n) && decide (n ≤ hi)) = false by rw [Bool.eq_false_iff]; intro h; simp only [Bool.and_eq_true, decide_eq_true_eq] at h; exact h1 h] at h; exact h

theorem may_ev {H : AH} {R : HL} {a b c d x : Int} {e : Bool} (hok : WOk a b c d) (hH0 : Hs H R) : Ev tabA spA (.fn (.func 17) [] []) [.agg [(.i .i64 a), (.i .i64 b), (.i .i64 c), (.i .i64 d), (.b e), (.i .u32 x)]] H (fun r H' => r = .b true ∧ Hs H' R) := by
  refine Ev_C (F := x17) rfl ?_
  obtain ⟨⟨hd1, hd2⟩, ⟨ha1, ha2⟩, ⟨hb1, hb2⟩, ⟨hc1, hc2⟩⟩ := hok
  refine C_seq ?_
  refine C_region ?_
  refine O_box (z := [(.i .i64 a), (.i .i64 b), (.i .i64 c), (.i .i64 d), (.b e), (.i .u32 x)]) rfl fun n1 H2 hN3 => ?_
  have hH4 := hH0.new hN3
  refine O_p (.b false) (r_mv rfl) ?_
  refine O_nil ?_
  refine C_seq ?_
  refine C_region ?_
  refine O_p (.p (some (n1, 3))) (r_fadd' rfl rfl) ?_
  refine O_p (.i .i64 d) (r_ld rfl hH4.get0 rfl) ?_
  refine O_call (Ev.mono (between_true (by omega) (by omega) hH4) fun v5 H6 hq7 => ?_)
  obtain ⟨rfl, hH8⟩ := hq7
  refine O_p (.b true) (r_mv rfl) ?_
  refine O_gk rfl ?_
  refine O_p (.p (some (n1, 3))) (r_fadd' rfl rfl) ?_
  refine O_gk rfl ?_
  refine O_p (.i .i64 d) (r_ld rfl hH8.get0 rfl) ?_
  refine O_gk rfl ?_
  refine O_p (.p (some (n1, 0))) (r_fadd' rfl rfl) ?_
  refine O_gk rfl ?_
  refine O_p (.i .i64 a) (r_ld rfl hH8.get0 rfl) ?_
  refine O_gk rfl ?_
  refine O_call (Ev.mono (between_true (by omega) (by omega) hH8) fun v9 H10 hq11 => ?_)
  obtain ⟨rfl, hH12⟩ := hq11
  refine O_p (.b true) (r_pick_t rfl rfl) ?_
  refine O_p (.b true) (r_mv rfl) ?_
  refine O_gk rfl ?_
  refine O_p (.p (some (n1, 1))) (r_fadd' rfl rfl) ?_
  refine O_gk rfl ?_
  refine O_p (.i .i64 b) (r_ld rfl hH12.get0 rfl) ?_
  refine O_gk rfl ?_
  refine O_call (Ev.mono (between_true (by omega) (by omega) hH12) fun v13 H14 hq15 => ?_)
  obtain ⟨rfl, hH16⟩ := hq15
  refine O_p (.b true) (r_pick_t rfl rfl) ?_
  refine O_p (.b true) (r_mv rfl) ?_
  refine O_gk rfl ?_
  refine O_p (.p (some (n1, 2))) (r_fadd' rfl rfl) ?_
  refine O_gk rfl ?_
  refine O_p (.i .i64 c) (r_ld rfl hH16.get0 rfl) ?_
  refine O_gk rfl ?_
  refine O_call (Ev.mono (between_true (by omega) (by omega) hH16) fun v17 H18 hq19 => ?_)
  obtain ⟨rfl, hH20⟩ := hq19
  refine O_p (.b true) (r_pick_t rfl rfl) ?_
  refine O_p (.b true) (r_mv rfl) ?_
  refine O_nil ?_
  refine C_ret ?_
  have hH21 := (hH20.sub0)
  exact ⟨.inr rfl, _, resL_one (r_tmp (v := (.b true)) rfl), rfl, hH21⟩
theorem rmay_ev {H : AH} {R : HL} {a b c d x : Int} {e : Bool} (hok : WOk a b c d) (hH0 : Hs H R) : Ev tabA spA (.fn (.func 12) [] []) [.agg [(.i .i64 a), (.i .i64 b), (.i .i64 c), (.i .i64 d), (.b e), (.i .u32 x)]] H (fun r H' => r = .b true ∧ Hs H' R) := by
  refine Ev_C (F := x12) rfl ?_
  obtain ⟨⟨hd1, hd2⟩, ⟨ha1, ha2⟩, ⟨hb1, hb2⟩, ⟨hc1, hc2⟩⟩ := hok
  refine C_seq ?_
  refine C_region ?_
  refine O_box (z := [(.i .i64 a), (.i .i64 b), (.i .i64 c), (.i .i64 d), (.b e), (.i .u32 x)]) rfl fun n1 H2 hN3 => ?_
  have hH4 := hH0.new hN3
  refine O_p (.b false) (r_mv rfl) ?_
  refine O_nil ?_
  refine C_seq ?_
  refine C_region ?_
  refine O_p (.p (some (n1, 3))) (r_fadd' rfl rfl) ?_
  refine O_p (.i .i64 d) (r_ld rfl hH4.get0 rfl) ?_
  refine O_p (.b true) (by exact (by rw [r_geq rfl rfl, decide_eq_true (by omega)])) ?_
  refine O_p (.b true) (r_mv rfl) ?_
  refine O_gk rfl ?_
  refine O_p (.p (some (n1, 3))) (r_fadd' rfl rfl) ?_
  refine O_gk rfl ?_
  refine O_p (.i .i64 d) (r_ld rfl hH4.get0 rfl) ?_
  refine O_gk rfl ?_
  refine O_p (.b true) (by exact (by rw [r_leq rfl rfl, decide_eq_true (by omega)])) ?_
  refine O_p (.b true) (r_pick_t rfl rfl) ?_
  refine O_p (.b true) (r_mv rfl) ?_
  refine O_gk rfl ?_
  refine O_p (.p (some (n1, 0))) (r_fadd' rfl rfl) ?_
  refine O_gk rfl ?_
  refine O_p (.i .i64 a) (r_ld rfl hH4.get0 rfl) ?_
  refine O_gk rfl ?_
  refine O_p (.p (some (n1, 3))) (r_fadd' rfl rfl) ?_
  refine O_gk rfl ?_
  refine O_p (.i .i64 d) (r_ld rfl hH4.get0 rfl) ?_
  refine O_gk rfl ?_
  refine O_p (.b true) (by exact (by rw [r_geq rfl rfl, decide_eq_true (by omega)])) ?_
  refine O_p (.b true) (r_pick_t rfl rfl) ?_
  refine O_p (.b true) (r_mv rfl) ?_
  refine O_gk rfl ?_
  refine O_p (.p (some (n1, 0))) (r_fadd' rfl rfl) ?_
  refine O_gk rfl ?_
  refine O_p (.i .i64 a) (r_ld rfl hH4.get0 rfl) ?_
  refine O_gk rfl ?_
  refine O_p (.b true) (by exact (by rw [r_leq rfl rfl, decide_eq_true (by omega)])) ?_
  refine O_p (.b true) (r_pick_t rfl rfl) ?_
  refine O_p (.b true) (r_mv rfl) ?_
  refine O_gk rfl ?_
  refine O_p (.p (some (n1, 1))) (r_fadd' rfl rfl) ?_
  refine O_gk rfl ?_
  refine O_p (.i .i64 b) (r_ld rfl hH4.get0 rfl) ?_
  refine O_gk rfl ?_
  refine O_p (.b true) (by exact (by rw [r_geq rfl rfl, decide_eq_true (by omega)])) ?_
  refine O_p (.b true) (r_pick_t rfl rfl) ?_
  refine O_p (.b true) (r_mv rfl) ?_
  refine O_gk rfl ?_
  refine O_p (.p (some (n1, 1))) (r_fadd' rfl rfl) ?_
  refine O_gk rfl ?_
  refine O_p (.i .i64 b) (r_ld rfl hH4.get0 rfl) ?_
  refine O_gk rfl ?_
  refine O_p (.b true) (by exact (by rw [r_leq rfl rfl, decide_eq_true (by omega)])) ?_
  refine O_p (.b true) (r_pick_t rfl rfl) ?_
  refine O_p (.b true) (r_mv rfl) ?_
  refine O_gk rfl ?_
  refine O_p (.p (some (n1, 2))) (r_fadd' rfl rfl) ?_
  refine O_gk rfl ?_
  refine O_p (.i .i64 c) (r_ld rfl hH4.get0 rfl) ?_
  refine O_gk rfl ?_
  refine O_p (.b true) (by exact (by rw [r_geq rfl rfl, decide_eq_true (by omega)])) ?_
  refine O_p (.b true) (r_pick_t rfl rfl) ?_
  refine O_p (.b true) (r_mv rfl) ?_
  refine O_gk rfl ?_
  refine O_p (.p (some (n1, 2))) (r_fadd' rfl rfl) ?_
  refine O_gk rfl ?_
  refine O_p (.i .i64 c) (r_ld rfl hH4.get0 rfl) ?_
  refine O_gk rfl ?_
  refine O_p (.b true) (by exact (by rw [r_leq rfl rfl, decide_eq_true (by omega)])) ?_
  refine O_p (.b true) (r_pick_t rfl rfl) ?_
  refine O_p (.b true) (r_mv rfl) ?_
  refine O_nil ?_
  refine C_ret ?_
  have hH5 := (hH4.sub0)
  exact ⟨.inr rfl, _, resL_one (r_tmp (v := (.b true)) rfl), rfl, hH5⟩
theorem theirs_ev {H : AH} {R : HL} {a b c d x : Int} {e : Bool} (hH0 : Hs H R) : Ev tabA spA (.fn (.func 13) [] []) [.agg [(.i .i64 a), (.i .i64 b), (.i .i64 c), (.i .i64 d), (.b e), (.i .u32 x)]] H (fun r H' => r = .agg [(.i .i64 a), (.i .i64 b), (.i .i64 c), (.i .i64 d), (.b e), (.i .u32 x)] ∧ Hs H' R) := by
  refine Ev_C (F := x13) rfl ?_
  refine C_seq ?_
  refine C_region ?_
  refine O_box (z := [(.i .i64 a), (.i .i64 b), (.i .i64 c), (.i .i64 d), (.b e), (.i .u32 x)]) rfl fun n1 H2 hN3 => ?_
  have hH4 := hH0.new hN3
  refine O_alloc fun n5 H6 hN7 => ?_
  have hH8 := hH4.new hN7
  refine O_nil ?_
  refine C_seq ?_
  refine C_region ?_
  refine O_p (.p (some (n1, 0))) (r_fadd' rfl rfl) ?_
  refine O_p (.i .i64 a) (r_ld rfl hH8.get1 rfl) ?_
  refine O_p (.p (some (n1, 1))) (r_fadd' rfl rfl) ?_
  refine O_p (.i .i64 b) (r_ld rfl hH8.get1 rfl) ?_
  refine O_p (.p (some (n1, 2))) (r_fadd' rfl rfl) ?_
  refine O_p (.i .i64 c) (r_ld rfl hH8.get1 rfl) ?_
  refine O_p (.p (some (n1, 3))) (r_fadd' rfl rfl) ?_
  refine O_p (.i .i64 d) (r_ld rfl hH8.get1 rfl) ?_
  refine O_p (.p (some (n1, 4))) (r_fadd' rfl rfl) ?_
  refine O_p (.b e) (r_ld rfl hH8.get1 rfl) ?_
  refine O_p (.p (some (n1, 5))) (r_fadd' rfl rfl) ?_
  refine O_p (.i .u32 x) (r_ld rfl hH8.get1 rfl) ?_
  refine O_p (.agg [(.i .i64 a), (.i .i64 b), (.i .i64 c), (.i .i64 d), (.b e), (.i .u32 x)]) (r_build rfl) ?_
  refine O_store (vs := [(.i .i64 a), (.i .i64 b), (.i .i64 c), (.i .i64 d), (.b e), (.i .u32 x)]) (c' := [(.i .i64 a), (.i .i64 b), (.i .i64 c), (.i .i64 d), (.b e), (.i .u32 x)]) rfl (by rfl) hH8.get0 rfl (List.cons_ne_nil _ _) (Nat.le_of_ble_eq_true rfl) rfl fun H9 hW10 => ?_
  have hH11 := hH8.wr0 hW10
  refine O_nil ?_
  refine C_ret ?_
  have hcell := hH11.get0
  have hH12 := ((hH11.sub0).sub0)
  exact ⟨.inr rfl, _, resL_one (r_cellA rfl hcell rfl), rfl, hH12⟩
theorem start_in {H : AH} {R : HL} {m : Int} (h1 : 1 ≤ m ∧ m ≤ 65536) (hH0 : Hs H R) : Ev tabA spA (.fn (.func 8) [] []) [.i .i64 m] H (fun r H' => r = .agg [.i .i64 (3 * m), .i .i64 1073741824, .i .i64 0, .i .i64 m, .b false, .i .u32 0] ∧ Hs H' R) := by
  refine Ev_C (F := x8) rfl ?_
  refine C_seq ?_
  refine C_region ?_
  refine O_alloc fun n1 H2 hN3 => ?_
  have hH4 := hH0.new hN3
  refine O_nil ?_
  refine C_seq ?_
  refine C_seq ?_
  refine C_region ?_
  refine O_p (.i .i64 m) (r_mv rfl) ?_
  refine O_call (Ev.mono (between_true (by omega) (by omega) hH4) fun v5 H6 hq7 => ?_)
  obtain ⟨rfl, hH8⟩ := hq7
  refine O_p (.b false) (r_un rfl rfl) ?_
  refine O_nil ?_
  refine C_cond (x := false) rfl (fun h => by cases h) (fun _ => ?_)
  refine C_skip ?_
  refine C_seq ?_
  refine C_region ?_
  refine O_p (.i .i64 m) (r_mv rfl) ?_
  refine O_p (.i .i64 (3 * m)) (by exact (r_muli rfl rfl (wrap_i64 (by omega) (by omega)))) ?_
  refine O_p (.i .i64 m) (r_mv rfl) ?_
  refine O_p (.agg [(.i .i64 (3 * m)), (.i .i64 1073741824), (.i .i64 0), (.i .i64 m), (.b false), (.i .u32 0)]) (r_build rfl) ?_
  refine O_store (vs := [(.i .i64 (3 * m)), (.i .i64 1073741824), (.i .i64 0), (.i .i64 m), (.b false), (.i .u32 0)]) (c' := [(.i .i64 (3 * m)), (.i .i64 1073741824), (.i .i64 0), (.i .i64 m), (.b false), (.i .u32 0)]) rfl (by rfl) hH8.get0 rfl (List.cons_ne_nil _ _) (Nat.le_of_ble_eq_true rfl) rfl fun H9 hW10 => ?_
  have hH11 := hH8.wr0 hW10
  refine O_nil ?_
  refine C_ret ?_
  have hcell := hH11.get0
  have hH12 := (hH11.sub0)
  exact ⟨.inr rfl, _, resL_one (r_cellA rfl hcell rfl), rfl, hH12⟩
theorem start_out {H : AH} {R : HL} {m : Int} (h1 : ¬ (1 ≤ m ∧ m ≤ 65536)) (hH0 : Hs H R) : Ev tabA spA (.fn (.func 8) [] []) [.i .i64 m] H (fun r H' => r = .agg [.i .i64 (3 * 1200), .i .i64 1073741824, .i .i64 0, .i .i64 1200, .b false, .i .u32 0] ∧ Hs H' R) := by
  refine Ev_C (F := x8) rfl ?_
  refine C_seq ?_
  refine C_region ?_
  refine O_alloc fun n1 H2 hN3 => ?_
  have hH4 := hH0.new hN3
  refine O_nil ?_
  refine C_seq ?_
  refine C_seq ?_
  refine C_region ?_
  refine O_p (.i .i64 m) (r_mv rfl) ?_
  refine O_call (Ev.mono (between_false (by omega) hH4) fun v5 H6 hq7 => ?_)
  obtain ⟨rfl, hH8⟩ := hq7
  refine O_p (.b true) (r_un rfl rfl) ?_
  refine O_nil ?_
  refine C_cond (x := true) rfl (fun _ => ?_) (fun h => by cases h)
  refine C_region ?_
  refine O_p (.i .i64 1200) (r_mv rfl) ?_
  refine O_nil ?_
  refine C_seq ?_
  refine C_region ?_
  refine O_p (.i .i64 1200) (r_mv rfl) ?_
  refine O_p (.i .i64 3600) (r_bin rfl rfl rfl) ?_
  refine O_p (.i .i64 1200) (r_mv rfl) ?_
  refine O_p (.agg [(.i .i64 3600), (.i .i64 1073741824), (.i .i64 0), (.i .i64 1200), (.b false), (.i .u32 0)]) (r_build rfl) ?_
  refine O_store (vs := [(.i .i64 3600), (.i .i64 1073741824), (.i .i64 0), (.i .i64 1200), (.b false), (.i .u32 0)]) (c' := [(.i .i64 3600), (.i .i64 1073741824), (.i .i64 0), (.i .i64 1200), (.b false), (.i .u32 0)]) rfl (by rfl) hH8.get0 rfl (List.cons_ne_nil _ _) (Nat.le_of_ble_eq_true rfl) rfl fun H9 hW10 => ?_
  have hH11 := hH8.wr0 hW10
  refine O_nil ?_
  refine C_ret ?_
  have hcell := hH11.get0
  have hH12 := (hH11.sub0)
  exact ⟨.inr rfl, _, resL_one (r_cellA rfl hcell rfl), rfl, hH12⟩
theorem start_ev {H : AH} {R : HL} {m : Int} (hH0 : Hs H R) : Ev tabA spA (.fn (.func 8) [] []) [.i .i64 m] H (fun r H' => ∃ a b c d x e, r = .agg [.i .i64 a, .i .i64 b, .i .i64 c, .i .i64 d, .b e, .i .u32 x] ∧ WOk a b c d ∧ Hs H' R) := by
  by_cases h1 : 1 ≤ m ∧ m ≤ 65536
  · refine Ev.mono (start_in h1 hH0) fun r H2 hq => ?_
    obtain ⟨rfl, hh⟩ := hq
    exact ⟨_, _, _, _, _, _, rfl, by unfold WOk; omega, hh⟩
  · refine Ev.mono (start_out h1 hH0) fun r H2 hq => ?_
    obtain ⟨rfl, hh⟩ := hq
    exact ⟨_, _, _, _, _, _, rfl, by unfold WOk; omega, hh⟩

theorem less_ev {H : AH} {R : HL} (p q : Int) (hH0 : Hs H R) : Ev tabA spA (.fn (.func 23) [] []) [.i .u32 p, .i .u32 q] H (fun r H' => ∃ b, r = .b b ∧ Hs H' R) := by
  refine Ev_C (F := x23) rfl ?_
  refine C_seq ?_
  refine C_region ?_
  refine O_p (.b false) (r_mv rfl) ?_
  refine O_nil ?_
  refine C_seq ?_
  refine C_region ?_
  refine O_p (.i .u32 q) (r_mv rfl) ?_
  refine O_p (.i .u32 p) (r_mv rfl) ?_
  refine O_p (.i .u32 (IntKind.u32.wrap (q - p))) (r_bin rfl rfl rfl) ?_
  refine O_p (.i .u32 (IntKind.u32.wrap (q - p))) (r_mv rfl) ?_
  refine O_nil ?_
  refine C_seq ?_
  refine C_region ?_
  refine O_p (.i .u32 (IntKind.u32.wrap (q - p))) (r_mv rfl) ?_
  refine O_p (.b (!decide ((IntKind.u32.wrap (q - p)) = 0))) (r_neq rfl rfl) ?_
  refine O_p (.b (!decide ((IntKind.u32.wrap (q - p)) = 0))) (r_mv rfl) ?_
  refine O_gx (e := (!decide ((IntKind.u32.wrap (q - p)) = 0))) (v := (.i .u32 (IntKind.u32.wrap (q - p)))) (wt rfl) (fun he => (r_mv rfl)) ?_
  refine O_gx (e := (!decide ((IntKind.u32.wrap (q - p)) = 0))) (v := (.i .u32 (IntKind.u32.wrap 0))) (wt rfl) (fun he => (r_cint rfl)) ?_
  refine O_gx (e := (!decide ((IntKind.u32.wrap (q - p)) = 0))) (v := (.i .u32 4294967295)) (wt rfl) (fun he => (r_un (v := .i .u32 4294967295) (cond_pos he) rfl)) ?_
  refine O_gx (e := (!decide ((IntKind.u32.wrap (q - p)) = 0))) (v := (.i .u32 (Int.fdiv 4294967295 (2 ^ 1)))) (wt rfl) (fun he => (r_bin (cond_pos he) rfl rfl)) ?_
  refine O_gx (e := (!decide ((IntKind.u32.wrap (q - p)) = 0))) (v := (.b (decide ((IntKind.u32.wrap (q - p)) ≤ (Int.fdiv 4294967295 (2 ^ 1)))))) (wt rfl) (fun he => (r_leq (cond_pos he) (cond_pos he))) ?_
  refine O_p (.b ((!decide ((IntKind.u32.wrap (q - p)) = 0)) && (decide ((IntKind.u32.wrap (q - p)) ≤ (Int.fdiv 4294967295 (2 ^ 1)))))) (r_pick_and rfl rfl rfl rfl) ?_
  refine O_p (.b ((!decide ((IntKind.u32.wrap (q - p)) = 0)) && (decide ((IntKind.u32.wrap (q - p)) ≤ (Int.fdiv 4294967295 (2 ^ 1)))))) (r_mv rfl) ?_
  refine O_nil ?_
  refine C_ret ?_
  exact ⟨.inr rfl, _, resL_one (r_tmp (v := (.b ((!decide ((IntKind.u32.wrap (q - p)) = 0)) && (decide ((IntKind.u32.wrap (q - p)) ≤ (Int.fdiv 4294967295 (2 ^ 1))))))) rfl), _, rfl, hH0⟩
theorem Less_ev {H : AH} {R : HL} (p q : Int) (hH0 : Hs H R) : Ev tabA spA (.fn (.func 18) [] []) [.i .u32 p, .i .u32 q] H (fun r H' => ∃ b, r = .b b ∧ Hs H' R) := by
  refine Ev_C (F := x18) rfl ?_
  refine C_seq ?_
  refine C_region ?_
  refine O_p (.b false) (r_mv rfl) ?_
  refine O_nil ?_
  refine C_seq ?_
  refine C_region ?_
  refine O_p (.i .u32 p) (r_mv rfl) ?_
  refine O_p (.i .u32 q) (r_mv rfl) ?_
  refine O_call (Ev.mono (less_ev p q hH0) fun v1 H2 hq3 => ?_)
  obtain ⟨b4, rfl, hH5⟩ := hq3
  refine O_p (.b b4) (r_mv rfl) ?_
  refine O_nil ?_
  refine C_ret ?_
  exact ⟨.inr rfl, _, resL_one (r_tmp (v := (.b b4)) rfl), _, rfl, hH5⟩
theorem grow_ev {H : AH} {R : HL} {P : Nat} {n : Int} {a b c d x : Int} {e : Bool} (hok : WOk a b c d) (hn : 0 ≤ n ∧ n ≤ 1073741824) (hH0 : Hs H ([(P, some (.cells [(.i .i64 a), (.i .i64 b), (.i .i64 c), (.i .i64 d), (.b e), (.i .u32 x)] true))] ++ R)) : Ev tabA spA (.fn (.func 19) [] []) [.p (some (P, 0)), .i .i64 n] H (fun r H' => ∃ a2 b2 c2, WOk a2 b2 c2 d ∧ r = .tup [] ∧ Hs H' ([(P, some (.cells [.i .i64 a2, .i .i64 b2, .i .i64 c2, .i .i64 d, .b e, .i .u32 x] true))] ++ R)) := by
  refine Ev_C (F := x19) rfl ?_
  obtain ⟨⟨hd1, hd2⟩, ⟨ha1, ha2⟩, ⟨hb1, hb2⟩, ⟨hc1, hc2⟩⟩ := hok
  refine C_seq ?_
  refine C_seq ?_
  refine C_draw fun b1 H2 hbase3 hA4 => ?_
  have hH5 := hH0.keep (by have := hA4.1; omega) (fun q _ => hA4.2 q) ((hH0.old).aside hA4).ok
  refine D_l (v := (.p (some (P, 0)))) rfl rfl rfl (r_mv rfl) ?_
  refine D_l (v := (.p (some (P, 0)))) rfl rfl rfl (r_nilc rfl) ?_
  refine D_l (v := (.p (some (P, 0)))) rfl rfl rfl (r_fadd' rfl rfl) ?_
  refine D_l (v := (.p (some (P, 0)))) rfl rfl rfl (r_mv rfl) ?_
  refine D_l (v := (.p (some (P, 0)))) rfl rfl rfl (r_nilc rfl) ?_
  refine D_l (v := (.p (some (P, 1)))) rfl rfl rfl (r_fadd' rfl rfl) ?_
  refine D_r (v := (.i .i64 a)) rfl rfl rfl (r_ld rfl hH5.get0 rfl) ?_
  refine D_r (v := (.i .i64 b)) rfl rfl rfl (r_ld rfl hH5.get0 rfl) ?_
  refine D_l (v := (.b (decide (a ≤ b)))) rfl rfl rfl (r_leq rfl rfl) ?_
  refine D_nil ?_
  refine C_cond (x := (decide (a ≤ b))) rfl (fun hc6 => ?_) (fun hc6 => ?_)
  ·
    try simp only [decide_eq_true_eq, decide_eq_false_iff_not, Bool.not_eq_true', Bool.not_eq_false', Bool.and_eq_true, Bool.or_eq_true, Bool.or_eq_false_iff, Bool.not_not, Bool.and_eq_false_iff] at hc6
    refine C_seq ?_
    refine C_draw fun b7 H8 hbase9 hA10 => ?_
    have hH11 := hH5.keep (by have := hA10.1; omega) (fun q _ => hA10.2 q) ((hH5.old).aside hA10).ok
    refine D_l (v := (.p (some (P, 0)))) rfl rfl rfl (r_mv rfl) ?_
    refine D_l (v := (.p (some (P, 0)))) rfl rfl rfl (r_mv rfl) ?_
    refine D_l (v := (.p (some (P, 0)))) rfl rfl rfl (r_nilc rfl) ?_
    refine D_l (v := (.p (some (P, 0)))) rfl rfl rfl (r_fadd' rfl rfl) ?_
    refine D_l (v := (.i .i64 n)) rfl rfl rfl (r_mv rfl) ?_
    refine D_l (v := (.p (some (P, 0)))) rfl rfl rfl (r_mv rfl) ?_
    refine D_l (v := (.p (some (P, 0)))) rfl rfl rfl (r_nilc rfl) ?_
    refine D_l (v := (.p (some (P, 3)))) rfl rfl rfl (r_fadd' rfl rfl) ?_
    refine D_r (v := (.i .i64 a)) rfl rfl rfl (r_ld rfl hH11.get0 rfl) ?_
    refine D_r (v := (.i .i64 d)) rfl rfl rfl (r_ld rfl hH11.get0 rfl) ?_
    refine D_l (v := (.i .i64 (min n d))) rfl rfl rfl (r_mini rfl rfl) ?_
    refine D_l (v := (.i .i64 (a + (min n d)))) rfl rfl rfl (by exact (r_addi rfl rfl (wrap_i64 (by omega) (by omega)))) ?_
    refine D_l (v := (.i .i64 (min 1073741824 (a + (min n d))))) rfl rfl rfl (r_mini rfl rfl) ?_
    refine D_l (v := (.p (some (P, 0)))) rfl rfl rfl (r_nilc rfl) ?_
    refine D_l (v := (.p (some (P, 0)))) rfl rfl rfl (r_fadd' rfl rfl) ?_
    refine D_store (vs := [(.i .i64 (min 1073741824 (a + (min n d))))]) (c' := [(.i .i64 (min 1073741824 (a + (min n d)))), (.i .i64 b), (.i .i64 c), (.i .i64 d), (.b e), (.i .u32 x)]) rfl (by rfl) hH11.get0 rfl (List.cons_ne_nil _ _) (Nat.le_of_ble_eq_true rfl) rfl fun H12 hW13 => ?_
    have hH14 := hH11.wr0 hW13
    refine And.intro (And.intro (Or.inl rfl) (And.intro (Or.inl rfl) True.intro)) ?_
    refine D_nil ?_
    refine C_ret ?_
    refine nx_ret ?_
    exact ⟨.inr rfl, _, rfl, _, _, _, by unfold WOk; omega, rfl, hH14⟩
  ·
    try simp only [decide_eq_true_eq, decide_eq_false_iff_not, Bool.not_eq_true', Bool.not_eq_false', Bool.and_eq_true, Bool.or_eq_true, Bool.or_eq_false_iff, Bool.not_not, Bool.and_eq_false_iff] at hc6
    refine C_skip ?_
    refine C_seq ?_
    refine C_region ?_
    refine O_p (.p (some (P, 0))) (r_mv rfl) ?_
    refine O_p (.p (some (P, 0))) (r_mv rfl) ?_
    refine O_p (.p (some (P, 0))) (r_nilc rfl) ?_
    refine O_p (.p (some (P, 2))) (r_fadd' rfl rfl) ?_
    refine O_p (.i .i64 c) (r_ld rfl hH5.get0 rfl) ?_
    refine O_p (.i .i64 n) (r_mv rfl) ?_
    refine O_p (.i .i64 (c + n)) (by exact (r_addi rfl rfl (wrap_i64 (by omega) (by omega)))) ?_
    refine O_p (.i .i64 (min 1073741824 (c + n))) (r_mini rfl rfl) ?_
    refine O_p (.p (some (P, 0))) (r_nilc rfl) ?_
    refine O_p (.p (some (P, 2))) (r_fadd' rfl rfl) ?_
    refine O_store (vs := [(.i .i64 (min 1073741824 (c + n)))]) (c' := [(.i .i64 a), (.i .i64 b), (.i .i64 (min 1073741824 (c + n))), (.i .i64 d), (.b e), (.i .u32 x)]) rfl (by rfl) hH5.get0 rfl (List.cons_ne_nil _ _) (Nat.le_of_ble_eq_true rfl) rfl fun H15 hW16 => ?_
    have hH17 := hH5.wr0 hW16
    refine O_nil ?_
    refine C_seq ?_
    refine C_draw fun b18 H19 hbase20 hA21 => ?_
    have hH22 := hH17.keep (by have := hA21.1; omega) (fun q _ => hA21.2 q) ((hH17.old).aside hA21).ok
    refine D_l (v := (.p (some (P, 0)))) rfl rfl rfl (r_mv rfl) ?_
    refine D_l (v := (.p (some (P, 0)))) rfl rfl rfl (r_nilc rfl) ?_
    refine D_l (v := (.p (some (P, 2)))) rfl rfl rfl (r_fadd' rfl rfl) ?_
    refine D_l (v := (.p (some (P, 0)))) rfl rfl rfl (r_mv rfl) ?_
    refine D_l (v := (.p (some (P, 0)))) rfl rfl rfl (r_nilc rfl) ?_
    refine D_l (v := (.p (some (P, 0)))) rfl rfl rfl (r_fadd' rfl rfl) ?_
    refine D_r (v := (.i .i64 (min 1073741824 (c + n)))) rfl rfl rfl (r_ld rfl hH22.get0 rfl) ?_
    refine D_r (v := (.i .i64 a)) rfl rfl rfl (r_ld rfl hH22.get0 rfl) ?_
    refine D_l (v := (.b (decide (a ≤ (min 1073741824 (c + n)))))) rfl rfl rfl (r_geq rfl rfl) ?_
    refine D_nil ?_
    refine C_cond (x := (decide (a ≤ (min 1073741824 (c + n))))) rfl (fun hc23 => ?_) (fun hc23 => ?_)
    ·
      try simp only [decide_eq_true_eq, decide_eq_false_iff_not, Bool.not_eq_true', Bool.not_eq_false', Bool.and_eq_true, Bool.or_eq_true, Bool.or_eq_false_iff, Bool.not_not, Bool.and_eq_false_iff] at hc23
      refine C_seq ?_
      refine C_draw fun b24 H25 hbase26 hA27 => ?_
      have hH28 := hH22.keep (by have := hA27.1; omega) (fun q _ => hA27.2 q) ((hH22.old).aside hA27).ok
      refine D_l (v := (.p (some (P, 0)))) rfl rfl rfl (r_mv rfl) ?_
      refine D_l (v := (.p (some (P, 0)))) rfl rfl rfl (r_nilc rfl) ?_
      refine D_l (v := (.p (some (P, 2)))) rfl rfl rfl (r_fadd' rfl rfl) ?_
      refine D_l (v := (.p (some (P, 0)))) rfl rfl rfl (r_mv rfl) ?_
      refine D_l (v := (.p (some (P, 0)))) rfl rfl rfl (r_nilc rfl) ?_
      refine D_l (v := (.p (some (P, 0)))) rfl rfl rfl (r_fadd' rfl rfl) ?_
      refine D_r (v := (.i .i64 (min 1073741824 (c + n)))) rfl rfl rfl (r_ld rfl hH28.get0 rfl) ?_
      refine D_r (v := (.i .i64 a)) rfl rfl rfl (r_ld rfl hH28.get0 rfl) ?_
      refine D_l (v := (.i .i64 ((min 1073741824 (c + n)) - a))) rfl rfl rfl (by exact (r_subi rfl rfl (wrap_i64 (by omega) (by omega)))) ?_
      refine D_l (v := (.p (some (P, 0)))) rfl rfl rfl (r_nilc rfl) ?_
      refine D_l (v := (.p (some (P, 2)))) rfl rfl rfl (r_fadd' rfl rfl) ?_
      refine D_store (vs := [(.i .i64 ((min 1073741824 (c + n)) - a))]) (c' := [(.i .i64 a), (.i .i64 b), (.i .i64 ((min 1073741824 (c + n)) - a)), (.i .i64 d), (.b e), (.i .u32 x)]) rfl (by rfl) hH28.get0 rfl (List.cons_ne_nil _ _) (Nat.le_of_ble_eq_true rfl) rfl fun H29 hW30 => ?_
      have hH31 := hH28.wr0 hW30
      refine And.intro (And.intro (Or.inl rfl) (And.intro (Or.inl rfl) True.intro)) ?_
      refine D_nil ?_
      refine C_draw fun b32 H33 hbase34 hA35 => ?_
      have hH36 := hH31.keep (by have := hA35.1; omega) (fun q _ => hA35.2 q) ((hH31.old).aside hA35).ok
      refine D_l (v := (.p (some (P, 0)))) rfl rfl rfl (r_mv rfl) ?_
      refine D_l (v := (.p (some (P, 0)))) rfl rfl rfl (r_mv rfl) ?_
      refine D_l (v := (.p (some (P, 0)))) rfl rfl rfl (r_nilc rfl) ?_
      refine D_l (v := (.p (some (P, 0)))) rfl rfl rfl (r_fadd' rfl rfl) ?_
      refine D_l (v := (.p (some (P, 0)))) rfl rfl rfl (r_mv rfl) ?_
      refine D_l (v := (.p (some (P, 0)))) rfl rfl rfl (r_nilc rfl) ?_
      refine D_l (v := (.p (some (P, 3)))) rfl rfl rfl (r_fadd' rfl rfl) ?_
      refine D_r (v := (.i .i64 a)) rfl rfl rfl (r_ld rfl hH36.get0 rfl) ?_
      refine D_r (v := (.i .i64 d)) rfl rfl rfl (r_ld rfl hH36.get0 rfl) ?_
      refine D_l (v := (.i .i64 (a + d))) rfl rfl rfl (by exact (r_addi rfl rfl (wrap_i64 (by omega) (by omega)))) ?_
      refine D_l (v := (.i .i64 (min 1073741824 (a + d)))) rfl rfl rfl (r_mini rfl rfl) ?_
      refine D_l (v := (.p (some (P, 0)))) rfl rfl rfl (r_nilc rfl) ?_
      refine D_l (v := (.p (some (P, 0)))) rfl rfl rfl (r_fadd' rfl rfl) ?_
      refine D_store (vs := [(.i .i64 (min 1073741824 (a + d)))]) (c' := [(.i .i64 (min 1073741824 (a + d))), (.i .i64 b), (.i .i64 ((min 1073741824 (c + n)) - a)), (.i .i64 d), (.b e), (.i .u32 x)]) rfl (by rfl) hH36.get0 rfl (List.cons_ne_nil _ _) (Nat.le_of_ble_eq_true rfl) rfl fun H37 hW38 => ?_
      have hH39 := hH36.wr0 hW38
      refine And.intro (And.intro (Or.inl rfl) (And.intro (Or.inl rfl) True.intro)) ?_
      refine D_nil ?_
      exact ⟨.inl rfl, _, rfl, _, _, _, by unfold WOk; omega, rfl, hH39⟩
    ·
      try simp only [decide_eq_true_eq, decide_eq_false_iff_not, Bool.not_eq_true', Bool.not_eq_false', Bool.and_eq_true, Bool.or_eq_true, Bool.or_eq_false_iff, Bool.not_not, Bool.and_eq_false_iff] at hc23
      refine C_skip ?_
      exact ⟨.inl rfl, _, rfl, _, _, _, by unfold WOk; omega, rfl, hH22⟩
theorem halved_ev {H : AH} {R : HL} {a b c d x : Int} {e : Bool} (hok : WOk a b c d) (hH0 : Hs H R) : Ev tabA spA (.fn (.func 20) [] []) [.agg [(.i .i64 a), (.i .i64 b), (.i .i64 c), (.i .i64 d), (.b e), (.i .u32 x)]] H (fun r H' => ∃ tb P, r = .fn (.func 24) [] [.p (some (tb, 0)), .p (some (P, 0))] ∧ Hs H' ([(tb, some (.cells [.i .i64 (min 1073741824 (max (a / 2) (4 * d)))] true))] ++ ([(P, some (.cells [(.i .i64 a), (.i .i64 b), (.i .i64 c), (.i .i64 d), (.b e), (.i .u32 x)] true))] ++ R))) := by
  refine Ev_C (F := x20) rfl ?_
  obtain ⟨⟨hd1, hd2⟩, ⟨ha1, ha2⟩, ⟨hb1, hb2⟩, ⟨hc1, hc2⟩⟩ := hok
  refine C_seq ?_
  refine C_region ?_
  refine O_box (z := [(.i .i64 a), (.i .i64 b), (.i .i64 c), (.i .i64 d), (.b e), (.i .u32 x)]) rfl fun n1 H2 hN3 => ?_
  have hH4 := hH0.new hN3
  refine O_p .nf (r_mv rfl) ?_
  refine O_nil ?_
  refine C_seq ?_
  refine C_region ?_
  refine O_p (.p (some (n1, 0))) (r_fadd' rfl rfl) ?_
  refine O_p (.i .i64 a) (r_ld rfl hH4.get0 rfl) ?_
  refine O_p (.i .i64 (a / 2)) (by exact (r_quoi rfl rfl (by omega) (by omega) (by omega))) ?_
  refine O_p (.p (some (n1, 3))) (r_fadd' rfl rfl) ?_
  refine O_p (.i .i64 d) (r_ld rfl hH4.get0 rfl) ?_
  refine O_p (.i .i64 (4 * d)) (by exact (r_muli rfl rfl (wrap_i64 (by omega) (by omega)))) ?_
  refine O_p (.i .i64 (max (a / 2) (4 * d))) (r_maxi rfl rfl) ?_
  refine O_p (.i .i64 (min 1073741824 (max (a / 2) (4 * d)))) (r_mini rfl rfl) ?_
  refine O_alloc fun n5 H6 hN7 => ?_
  have hH8 := hH4.new hN7
  refine O_store (vs := [(.i .i64 (min 1073741824 (max (a / 2) (4 * d))))]) (c' := [(.i .i64 (min 1073741824 (max (a / 2) (4 * d))))]) rfl (by rfl) hH8.get0 rfl (List.cons_ne_nil _ _) (Nat.le_of_ble_eq_true rfl) rfl fun H9 hW10 => ?_
  have hH11 := hH8.wr0 hW10
  refine O_nil ?_
  refine C_seq ?_
  refine C_region ?_
  refine O_p (.fn (.func 24) [] [(.p (some (n5, 0))), (.p (some (n1, 0)))]) rfl ?_
  refine O_p (.fn (.func 24) [] [(.p (some (n5, 0))), (.p (some (n1, 0)))]) (r_mv rfl) ?_
  refine O_nil ?_
  refine C_ret ?_
  have hH12 := ((hH11.top1).top1)
  exact ⟨.inr rfl, _, resL_one (r_tmp (v := (.fn (.func 24) [] [(.p (some (n5, 0))), (.p (some (n1, 0)))])) rfl), n5, n1, rfl, hH12⟩
theorem lost1_ev {H : AH} {R : HL} {t : Int} (hH0 : Hs H R) : Ev tabA spA (.fn (.func 21) [] []) [.i .i64 t] H (fun r H' => r = .i .i64 t ∧ Hs H' R) := by
  refine Ev_C (F := x21) rfl ?_
  refine C_seq ?_
  refine C_region ?_
  refine O_p (.i .i64 0) (r_mv rfl) ?_
  refine O_nil ?_
  refine C_seq ?_
  refine C_region ?_
  refine O_p (.i .i64 t) (r_mv rfl) ?_
  refine O_p (.i .i64 t) (r_mv rfl) ?_
  refine O_nil ?_
  refine C_ret ?_
  exact ⟨.inr rfl, _, resL_one (r_tmp (v := (.i .i64 t)) rfl), rfl, hH0⟩
theorem timeout1_ev {H : AH} {R : HL} {t : Int} {Q : Nat} {a b c d x : Int} {e : Bool} (hH0 : Hs H ([(Q, some (.cells [(.i .i64 a), (.i .i64 b), (.i .i64 c), (.i .i64 d), (.b e), (.i .u32 x)] true))] ++ R)) : Ev tabA spA (.fn (.func 22) [] [.p (some (Q, 0))]) [.i .i64 t] H (fun r H' => r = .i .i64 d ∧ Hs H' ([(Q, some (.cells [(.i .i64 a), (.i .i64 b), (.i .i64 c), (.i .i64 d), (.b e), (.i .u32 x)] true))] ++ R)) := by
  refine Ev_C (F := x22) rfl ?_
  refine C_seq ?_
  refine C_region ?_
  refine O_p (.i .i64 0) (r_mv rfl) ?_
  refine O_nil ?_
  refine C_seq ?_
  refine C_region ?_
  refine O_p (.p (some (Q, 3))) (r_fadd' rfl rfl) ?_
  refine O_p (.i .i64 d) (r_ld rfl hH0.get0 rfl) ?_
  refine O_p (.i .i64 d) (r_mv rfl) ?_
  refine O_nil ?_
  refine C_ret ?_
  exact ⟨.inr rfl, _, resL_one (r_tmp (v := (.i .i64 d)) rfl), rfl, hH0⟩
theorem halved_lost {H : AH} {R : HL} {tb P : Nat} {a b c d x : Int} {e : Bool} (hH0 : Hs H ([(tb, some (.cells ([(.i .i64 (min 1073741824 (max (a / 2) (4 * d))))]) true))] ++ ([(P, some (.cells ([(.i .i64 a), (.i .i64 b), (.i .i64 c), (.i .i64 d), (.b e), (.i .u32 x)]) true))] ++ (R)))) : Ev tabA spA (.fn (.func 24) [] [.p (some (tb, 0)), .p (some (P, 0))]) [.fn (.func 21) [] []] H (fun r H' => r = .agg [.i .i64 (min 1073741824 (max (a / 2) (4 * d))), .i .i64 (min 1073741824 (max (a / 2) (4 * d))), .i .i64 0, .i .i64 d, .b false, .i .u32 0] ∧ Hs H' (R)) := by
  refine Ev_C (F := x24) rfl ?_
  refine C_seq ?_
  refine C_region ?_
  refine O_alloc fun n1 H2 hN3 => ?_
  have hH4 := hH0.new hN3
  refine O_nil ?_
  refine C_seq ?_
  refine C_draw fun b5 H6 hbase7 hA8 => ?_
  have hH9 := hH4.keep (by have := hA8.1; omega) (fun q _ => hA8.2 q) ((hH4.old).aside hA8).ok
  refine D_l (v := (.fn (.func 21) [] [])) rfl rfl rfl (r_mv rfl) ?_
  refine D_l (v := (.p (some (P, 3)))) rfl rfl rfl (r_fadd' rfl rfl) ?_
  refine D_r (v := (.i .i64 (min 1073741824 (max (a / 2) (4 * d))))) rfl rfl rfl (r_ld rfl hH9.get1 rfl) ?_
  refine D_r (v := (.i .i64 (min 1073741824 (max (a / 2) (4 * d))))) rfl rfl rfl (r_ld rfl hH9.get1 rfl) ?_
  refine D_r (v := (.i .i64 d)) rfl rfl rfl (r_ld rfl hH9.get2 rfl) ?_
  refine D_call (Ev.mono (lost1_ev hH9) fun v10 H11 hq12 => ?_)
  obtain ⟨rfl, hH13⟩ := hq12
  refine And.intro (And.intro (Or.inr (look_run rfl rfl (r_ld rfl hH13.get2 rfl))) (And.intro (Or.inr (look_run rfl rfl (r_ld rfl hH13.get1 rfl))) (And.intro (Or.inl rfl) True.intro))) ?_
  refine D_l (v := (.agg [(.i .i64 (min 1073741824 (max (a / 2) (4 * d)))), (.i .i64 (min 1073741824 (max (a / 2) (4 * d)))), (.i .i64 0), (.i .i64 d), (.b false), (.i .u32 0)])) rfl rfl rfl (r_build rfl) ?_
  refine D_store (vs := [(.i .i64 (min 1073741824 (max (a / 2) (4 * d)))), (.i .i64 (min 1073741824 (max (a / 2) (4 * d)))), (.i .i64 0), (.i .i64 d), (.b false), (.i .u32 0)]) (c' := [(.i .i64 (min 1073741824 (max (a / 2) (4 * d)))), (.i .i64 (min 1073741824 (max (a / 2) (4 * d)))), (.i .i64 0), (.i .i64 d), (.b false), (.i .u32 0)]) rfl (by rfl) hH13.get0 rfl (List.cons_ne_nil _ _) (Nat.le_of_ble_eq_true rfl) rfl fun H14 hW15 => ?_
  have hH16 := hH13.wr0 hW15
  refine And.intro (And.intro (Or.inl rfl) (And.intro (Or.inl rfl) True.intro)) ?_
  refine D_nil ?_
  refine C_ret ?_
  have hcell := hH16.get0
  have hH17 := (hH16.sub0)
  have hH18 := ((hH17.top1).top1)
  have hH19 := ((hH18.sub0).sub0)
  exact ⟨.inr rfl, _, resL_one (r_cellA rfl hcell rfl), rfl, hH19⟩
theorem halved_timeout {H : AH} {R : HL} {tb P Q : Nat} {a b c d x : Int} {e : Bool} (hH0 : Hs H ([(tb, some (.cells ([(.i .i64 (min 1073741824 (max (a / 2) (4 * d))))]) true))] ++ ([(P, some (.cells ([(.i .i64 a), (.i .i64 b), (.i .i64 c), (.i .i64 d), (.b e), (.i .u32 x)]) true))] ++ ([(Q, some (.cells ([(.i .i64 a), (.i .i64 b), (.i .i64 c), (.i .i64 d), (.b e), (.i .u32 x)]) true))] ++ (R))))) : Ev tabA spA (.fn (.func 24) [] [.p (some (tb, 0)), .p (some (P, 0))]) [.fn (.func 22) [] [.p (some (Q, 0))]] H (fun r H' => r = .agg [.i .i64 d, .i .i64 (min 1073741824 (max (a / 2) (4 * d))), .i .i64 0, .i .i64 d, .b false, .i .u32 0] ∧ Hs H' ([(Q, some (.cells ([(.i .i64 a), (.i .i64 b), (.i .i64 c), (.i .i64 d), (.b e), (.i .u32 x)]) true))] ++ (R))) := by
  refine Ev_C (F := x24) rfl ?_
  refine C_seq ?_
  refine C_region ?_
  refine O_alloc fun n1 H2 hN3 => ?_
  have hH4 := hH0.new hN3
  refine O_nil ?_
  refine C_seq ?_
  refine C_draw fun b5 H6 hbase7 hA8 => ?_
  have hH9 := hH4.keep (by have := hA8.1; omega) (fun q _ => hA8.2 q) ((hH4.old).aside hA8).ok
  refine D_l (v := (.fn (.func 22) [] [.p (some (Q, 0))])) rfl rfl rfl (r_mv rfl) ?_
  refine D_l (v := (.p (some (P, 3)))) rfl rfl rfl (r_fadd' rfl rfl) ?_
  refine D_r (v := (.i .i64 (min 1073741824 (max (a / 2) (4 * d))))) rfl rfl rfl (r_ld rfl hH9.get1 rfl) ?_
  refine D_r (v := (.i .i64 (min 1073741824 (max (a / 2) (4 * d))))) rfl rfl rfl (r_ld rfl hH9.get1 rfl) ?_
  refine D_r (v := (.i .i64 d)) rfl rfl rfl (r_ld rfl hH9.get2 rfl) ?_
  have hH10 := (hH9.top3)
  refine D_call (Ev.mono (timeout1_ev (Q := Q) hH10) fun v11 H12 hq13 => ?_)
  obtain ⟨rfl, hH14⟩ := hq13
  refine And.intro (And.intro (Or.inr (look_run rfl rfl (r_ld rfl hH14.get3 rfl))) (And.intro (Or.inr (look_run rfl rfl (r_ld rfl hH14.get2 rfl))) (And.intro (Or.inl rfl) True.intro))) ?_
  refine D_l (v := (.agg [(.i .i64 d), (.i .i64 (min 1073741824 (max (a / 2) (4 * d)))), (.i .i64 0), (.i .i64 d), (.b false), (.i .u32 0)])) rfl rfl rfl (r_build rfl) ?_
  refine D_store (vs := [(.i .i64 d), (.i .i64 (min 1073741824 (max (a / 2) (4 * d)))), (.i .i64 0), (.i .i64 d), (.b false), (.i .u32 0)]) (c' := [(.i .i64 d), (.i .i64 (min 1073741824 (max (a / 2) (4 * d)))), (.i .i64 0), (.i .i64 d), (.b false), (.i .u32 0)]) rfl (by rfl) hH14.get1 rfl (List.cons_ne_nil _ _) (Nat.le_of_ble_eq_true rfl) rfl fun H15 hW16 => ?_
  have hH17 := hH14.wr1 hW16
  refine And.intro (And.intro (Or.inl rfl) (And.intro (Or.inl rfl) True.intro)) ?_
  refine D_nil ?_
  refine C_ret ?_
  have hcell := hH17.get1
  have hH18 := (hH17.sub1)
  have hH19 := ((hH18.top2).top2)
  have hH20 := ((hH19.sub0).sub0)
  exact ⟨.inr rfl, _, resL_one (r_cellA rfl hcell rfl), rfl, hH20⟩
theorem lost_ev {H : AH} {R : HL} {y : Int} {a b c d x : Int} {e : Bool} (hok : WOk a b c d) (hH0 : Hs H R) : Ev tabA spA (.fn (.func 10) [] []) [.agg [(.i .i64 a), (.i .i64 b), (.i .i64 c), (.i .i64 d), (.b e), (.i .u32 x)], .i .u32 y] H (fun r H' => ∃ a2 b2 c2 x2 e2, r = .agg [.i .i64 a2, .i .i64 b2, .i .i64 c2, .i .i64 d, .b e2, .i .u32 x2] ∧ WOk a2 b2 c2 d ∧ Hs H' R) := by
  refine Ev_C (F := x10) rfl ?_
  have hok0 := hok; obtain ⟨⟨hd1, hd2⟩, ⟨ha1, ha2⟩, ⟨hb1, hb2⟩, ⟨hc1, hc2⟩⟩ := hok0
  refine C_seq ?_
  refine C_region ?_
  refine O_box (z := [(.i .i64 a), (.i .i64 b), (.i .i64 c), (.i .i64 d), (.b e), (.i .u32 x)]) rfl fun n1 H2 hN3 => ?_
  have hH4 := hH0.new hN3
  refine O_alloc fun n5 H6 hN7 => ?_
  have hH8 := hH4.new hN7
  refine O_nil ?_
  refine C_seq ?_
  refine C_seq ?_
  refine C_region ?_
  refine O_p (.agg [(.i .i64 a), (.i .i64 b), (.i .i64 c), (.i .i64 d), (.b e), (.i .u32 x)]) (r_ldA rfl hH8.get1 rfl) ?_
  refine O_call (Ev.mono (may_ev hok hH8) fun v9 H10 hq11 => ?_)
  obtain ⟨rfl, hH12⟩ := hq11
  refine O_p (.b false) (r_un rfl rfl) ?_
  refine O_p (.b false) (r_mv rfl) ?_
  refine O_gk rfl ?_
  refine O_p (.p (some (n1, 4))) (r_fadd' rfl rfl) ?_
  refine O_gk rfl ?_
  refine O_p (.b e) (r_ld rfl hH12.get1 rfl) ?_
  refine O_p (.b e) (r_pick_f rfl rfl) ?_
  refine O_nil ?_
  refine C_cond (x := e) rfl (fun hc13 => ?_) (fun hc13 => ?_)
  ·
    try simp only [decide_eq_true_eq, decide_eq_false_iff_not, Bool.not_eq_true', Bool.not_eq_false', Bool.and_eq_true, Bool.or_eq_true, Bool.or_eq_false_iff, Bool.not_not, Bool.and_eq_false_iff] at hc13
    refine C_seq ?_
    refine C_region ?_
    refine O_p (.agg [(.i .i64 a), (.i .i64 b), (.i .i64 c), (.i .i64 d), (.b e), (.i .u32 x)]) (r_ldA rfl hH12.get1 rfl) ?_
    refine O_store (vs := [(.i .i64 a), (.i .i64 b), (.i .i64 c), (.i .i64 d), (.b e), (.i .u32 x)]) (c' := [(.i .i64 a), (.i .i64 b), (.i .i64 c), (.i .i64 d), (.b e), (.i .u32 x)]) rfl (by rfl) hH12.get0 rfl (List.cons_ne_nil _ _) (Nat.le_of_ble_eq_true rfl) rfl fun H14 hW15 => ?_
    have hH16 := hH12.wr0 hW15
    refine O_nil ?_
    refine C_ret ?_
    refine nx_ret ?_
    have hcell := hH16.get0
    have hH17 := ((hH16.sub0).sub0)
    exact ⟨.inr rfl, _, resL_one (r_cellA (l := [(.i .i64 a), (.i .i64 b), (.i .i64 c), (.i .i64 d), (.b e), (.i .u32 x)]) rfl hcell rfl), _, _, _, _, _, rfl, by unfold WOk; omega, hH17⟩
  ·
    try simp only [decide_eq_true_eq, decide_eq_false_iff_not, Bool.not_eq_true', Bool.not_eq_false', Bool.and_eq_true, Bool.or_eq_true, Bool.or_eq_false_iff, Bool.not_not, Bool.and_eq_false_iff] at hc13
    refine C_skip ?_
    refine C_seq ?_
    refine C_region ?_
    refine O_p (.agg [(.i .i64 a), (.i .i64 b), (.i .i64 c), (.i .i64 d), (.b e), (.i .u32 x)]) (r_ldA rfl hH12.get1 rfl) ?_
    refine O_call (Ev.mono (halved_ev hok hH12) fun v18 H19 hq20 => ?_)
    obtain ⟨tb21, P22, rfl, hH23⟩ := hq20
    have hH24 := ((hH23.top1).top1)
    refine O_call (Ev.mono (halved_lost (tb := tb21) (P := P22) hH24) fun v25 H26 hq27 => ?_)
    obtain ⟨rfl, hH28⟩ := hq27
    refine O_store (vs := [(.i .i64 (min 1073741824 (max (a / 2) (4 * d)))), (.i .i64 (min 1073741824 (max (a / 2) (4 * d)))), (.i .i64 0), (.i .i64 d), (.b false), (.i .u32 0)]) (c' := [(.i .i64 (min 1073741824 (max (a / 2) (4 * d)))), (.i .i64 (min 1073741824 (max (a / 2) (4 * d)))), (.i .i64 0), (.i .i64 d), (.b false), (.i .u32 0)]) rfl (by rfl) hH28.get1 rfl (List.cons_ne_nil _ _) (Nat.le_of_ble_eq_true rfl) rfl fun H29 hW30 => ?_
    have hH31 := hH28.wr1 hW30
    refine O_nil ?_
    refine C_seq ?_
    refine C_region ?_
    refine O_p (.i .u32 y) (r_mv rfl) ?_
    refine O_p (.p (some (n1, 4))) (r_fadd' rfl rfl) ?_
    refine O_store (vs := [(.b true)]) (c' := [(.i .i64 (min 1073741824 (max (a / 2) (4 * d)))), (.i .i64 (min 1073741824 (max (a / 2) (4 * d)))), (.i .i64 0), (.i .i64 d), (.b true), (.i .u32 0)]) rfl (by rfl) hH31.get1 rfl (List.cons_ne_nil _ _) (Nat.le_of_ble_eq_true rfl) rfl fun H32 hW33 => ?_
    have hH34 := hH31.wr1 hW33
    refine O_p (.p (some (n1, 5))) (r_fadd' rfl rfl) ?_
    refine O_store (vs := [(.i .u32 y)]) (c' := [(.i .i64 (min 1073741824 (max (a / 2) (4 * d)))), (.i .i64 (min 1073741824 (max (a / 2) (4 * d)))), (.i .i64 0), (.i .i64 d), (.b true), (.i .u32 y)]) rfl (by rfl) hH34.get1 rfl (List.cons_ne_nil _ _) (Nat.le_of_ble_eq_true rfl) rfl fun H35 hW36 => ?_
    have hH37 := hH34.wr1 hW36
    refine O_nil ?_
    refine C_seq ?_
    refine C_region ?_
    refine O_p (.agg [(.i .i64 (min 1073741824 (max (a / 2) (4 * d)))), (.i .i64 (min 1073741824 (max (a / 2) (4 * d)))), (.i .i64 0), (.i .i64 d), (.b true), (.i .u32 y)]) (r_ldA rfl hH37.get1 rfl) ?_
    refine O_store (vs := [(.i .i64 (min 1073741824 (max (a / 2) (4 * d)))), (.i .i64 (min 1073741824 (max (a / 2) (4 * d)))), (.i .i64 0), (.i .i64 d), (.b true), (.i .u32 y)]) (c' := [(.i .i64 (min 1073741824 (max (a / 2) (4 * d)))), (.i .i64 (min 1073741824 (max (a / 2) (4 * d)))), (.i .i64 0), (.i .i64 d), (.b true), (.i .u32 y)]) rfl (by rfl) hH37.get0 rfl (List.cons_ne_nil _ _) (Nat.le_of_ble_eq_true rfl) rfl fun H38 hW39 => ?_
    have hH40 := hH37.wr0 hW39
    refine O_nil ?_
    refine C_ret ?_
    have hcell := hH40.get0
    have hH41 := ((hH40.sub0).sub0)
    exact ⟨.inr rfl, _, resL_one (r_cellA (l := [(.i .i64 (min 1073741824 (max (a / 2) (4 * d)))), (.i .i64 (min 1073741824 (max (a / 2) (4 * d)))), (.i .i64 0), (.i .i64 d), (.b true), (.i .u32 y)]) rfl hcell rfl), _, _, _, _, _, rfl, by unfold WOk; omega, hH41⟩
theorem timeout_ev {H : AH} {R : HL} {a b c d x : Int} {e : Bool} (hok : WOk a b c d) (hH0 : Hs H R) : Ev tabA spA (.fn (.func 11) [] []) [.agg [(.i .i64 a), (.i .i64 b), (.i .i64 c), (.i .i64 d), (.b e), (.i .u32 x)]] H (fun r H' => ∃ a2 b2 c2 x2 e2, r = .agg [.i .i64 a2, .i .i64 b2, .i .i64 c2, .i .i64 d, .b e2, .i .u32 x2] ∧ WOk a2 b2 c2 d ∧ Hs H' R) := by
  refine Ev_C (F := x11) rfl ?_
  have hok0 := hok; obtain ⟨⟨hd1, hd2⟩, ⟨ha1, ha2⟩, ⟨hb1, hb2⟩, ⟨hc1, hc2⟩⟩ := hok0
  refine C_seq ?_
  refine C_region ?_
  refine O_box (z := [(.i .i64 a), (.i .i64 b), (.i .i64 c), (.i .i64 d), (.b e), (.i .u32 x)]) rfl fun n1 H2 hN3 => ?_
  have hH4 := hH0.new hN3
  refine O_alloc fun n5 H6 hN7 => ?_
  have hH8 := hH4.new hN7
  refine O_nil ?_
  refine C_seq ?_
  refine C_seq ?_
  refine C_region ?_
  refine O_p (.agg [(.i .i64 a), (.i .i64 b), (.i .i64 c), (.i .i64 d), (.b e), (.i .u32 x)]) (r_ldA rfl hH8.get1 rfl) ?_
  refine O_call (Ev.mono (may_ev hok hH8) fun v9 H10 hq11 => ?_)
  obtain ⟨rfl, hH12⟩ := hq11
  refine O_p (.b false) (r_un rfl rfl) ?_
  refine O_nil ?_
  refine C_cond (x := false) rfl (fun h => by cases h) (fun _ => ?_)
  refine C_skip ?_
  refine C_seq ?_
  refine C_region ?_
  refine O_p (.agg [(.i .i64 a), (.i .i64 b), (.i .i64 c), (.i .i64 d), (.b e), (.i .u32 x)]) (r_ldA rfl hH12.get1 rfl) ?_
  refine O_call (Ev.mono (halved_ev hok hH12) fun v13 H14 hq15 => ?_)
  obtain ⟨tb16, P17, rfl, hH18⟩ := hq15
  refine O_p (.fn (.func 22) [] [(.p (some (n1, 0)))]) rfl ?_
  have hH19 := (((hH18.top3).top2).top2)
  refine O_call (Ev.mono (halved_timeout (tb := tb16) (P := P17) (Q := n1) hH19) fun v20 H21 hq22 => ?_)
  obtain ⟨rfl, hH23⟩ := hq22
  refine O_store (vs := [(.i .i64 d), (.i .i64 (min 1073741824 (max (a / 2) (4 * d)))), (.i .i64 0), (.i .i64 d), (.b false), (.i .u32 0)]) (c' := [(.i .i64 d), (.i .i64 (min 1073741824 (max (a / 2) (4 * d)))), (.i .i64 0), (.i .i64 d), (.b false), (.i .u32 0)]) rfl (by rfl) hH23.get1 rfl (List.cons_ne_nil _ _) (Nat.le_of_ble_eq_true rfl) rfl fun H24 hW25 => ?_
  have hH26 := hH23.wr1 hW25
  refine O_nil ?_
  refine C_ret ?_
  have hcell := hH26.get1
  have hH27 := ((hH26.sub0).sub0)
  exact ⟨.inr rfl, _, resL_one (r_cellA (l := [(.i .i64 d), (.i .i64 (min 1073741824 (max (a / 2) (4 * d)))), (.i .i64 0), (.i .i64 d), (.b false), (.i .u32 0)]) rfl hcell rfl), _, _, _, _, _, rfl, by unfold WOk; omega, hH27⟩
set_option maxHeartbeats 1000000 in
theorem acked_ev {H : AH} {R : HL} {n y : Int} {fl : Bool} {a b c d x : Int} {e : Bool} (hok : WOk a b c d) (hH0 : Hs H R) : Ev tabA spA (.fn (.func 9) [] []) [.agg [(.i .i64 a), (.i .i64 b), (.i .i64 c), (.i .i64 d), (.b e), (.i .u32 x)], .i .i64 n, .b fl, .i .u32 y] H (fun r H' => ∃ a2 b2 c2 x2 e2, r = .agg [.i .i64 a2, .i .i64 b2, .i .i64 c2, .i .i64 d, .b e2, .i .u32 x2] ∧ WOk a2 b2 c2 d ∧ Hs H' R) := by
  refine Ev_C (F := x9) rfl ?_
  have hok0 := hok; obtain ⟨⟨hd1, hd2⟩, ⟨ha1, ha2⟩, ⟨hb1, hb2⟩, ⟨hc1, hc2⟩⟩ := hok0
  refine C_seq ?_
  refine C_region ?_
  refine O_box (z := [(.i .i64 a), (.i .i64 b), (.i .i64 c), (.i .i64 d), (.b e), (.i .u32 x)]) rfl fun n1 H2 hN3 => ?_
  have hH4 := hH0.new hN3
  refine O_alloc fun n5 H6 hN7 => ?_
  have hH8 := hH4.new hN7
  refine O_nil ?_
  refine C_seq ?_
  refine C_block ?_
  refine C_seq ?_
  by_cases hn : 0 ≤ n ∧ n ≤ 1073741824
  ·
    refine C_region ?_
    refine O_p (.agg [(.i .i64 a), (.i .i64 b), (.i .i64 c), (.i .i64 d), (.b e), (.i .u32 x)]) (r_ldA rfl hH8.get1 rfl) ?_
    refine O_call (Ev.mono (may_ev hok hH8) fun v9 H10 hq11 => ?_)
    obtain ⟨rfl, hH12⟩ := hq11
    refine O_p (.b false) (r_un rfl rfl) ?_
    refine O_p (.b false) (r_mv rfl) ?_
    refine O_gk rfl ?_
    refine O_p (.i .i64 n) (r_mv rfl) ?_
    refine O_gk rfl ?_
    refine O_call (Ev.mono (between_true hn.1 hn.2 hH12) fun v13 H14 hq15 => ?_)
    obtain ⟨rfl, hH16⟩ := hq15
    refine O_gk rfl ?_
    refine O_p (.b false) (r_un rfl rfl) ?_
    refine O_p (.b false) (r_pick_f rfl rfl) ?_
    refine O_p (.b false) (r_mv rfl) ?_
    refine O_nil ?_
    refine C_cond (x := false) rfl (fun h => by cases h) (fun _ => ?_)
    refine C_seq ?_
    refine C_region ?_
    refine O_p (.p (some (n1, 4))) (r_fadd' rfl rfl) ?_
    refine O_p (.b e) (r_ld rfl hH16.get1 rfl) ?_
    refine O_p (.b e) (r_mv rfl) ?_
    refine O_nil ?_
    refine C_cond (x := e) rfl (fun hc17 => ?_) (fun hc17 => ?_)
    ·
      try simp only [decide_eq_true_eq, decide_eq_false_iff_not, Bool.not_eq_true', Bool.not_eq_false', Bool.and_eq_true, Bool.or_eq_true, Bool.or_eq_false_iff, Bool.not_not, Bool.and_eq_false_iff] at hc17
      by_cases hx : x = y
      ·
        refine C_region ?_
        refine O_p (.p (some (n1, 5))) (r_fadd' rfl rfl) ?_
        refine O_p (.i .u32 x) (r_ld rfl hH16.get1 rfl) ?_
        refine O_p (.i .u32 y) (r_mv rfl) ?_
        refine O_p (.b false) (by exact (by rw [r_neq rfl rfl, decide_eq_true hx]; rfl)) ?_
        refine O_p (.b false) (r_mv rfl) ?_
        refine O_gf rfl ?_
        refine O_gf rfl ?_
        refine O_gf rfl ?_
        refine O_gf rfl ?_
        refine O_gf rfl ?_
        refine O_p (.b false) (r_pick_f rfl rfl) ?_
        refine O_p (.p (some (n1, 4))) (r_fadd' rfl rfl) ?_
        refine O_store (vs := [(.b false)]) (c' := [(.i .i64 a), (.i .i64 b), (.i .i64 c), (.i .i64 d), (.b false), (.i .u32 x)]) rfl (by rfl) hH16.get1 rfl (List.cons_ne_nil _ _) (Nat.le_of_ble_eq_true rfl) rfl fun H18 hW19 => ?_
        have hH20 := hH16.wr1 hW19
        refine O_nil ?_
        refine C_seq ?_
        refine C_region ?_
        refine O_p (.agg [(.i .i64 a), (.i .i64 b), (.i .i64 c), (.i .i64 d), (.b false), (.i .u32 x)]) (r_ldA rfl hH20.get1 rfl) ?_
        refine O_store (vs := [(.i .i64 a), (.i .i64 b), (.i .i64 c), (.i .i64 d), (.b false), (.i .u32 x)]) (c' := [(.i .i64 a), (.i .i64 b), (.i .i64 c), (.i .i64 d), (.b false), (.i .u32 x)]) rfl (by rfl) hH20.get0 rfl (List.cons_ne_nil _ _) (Nat.le_of_ble_eq_true rfl) rfl fun H21 hW22 => ?_
        have hH23 := hH20.wr0 hW22
        refine O_nil ?_
        refine C_ret ?_
        have hcell := hH23.get0
        have hH24 := ((hH23.sub0).sub0)
        exact ⟨.inr rfl, _, resL_one (r_cellA (l := [(.i .i64 a), (.i .i64 b), (.i .i64 c), (.i .i64 d), (.b false), (.i .u32 x)]) rfl hcell rfl), _, _, _, _, _, rfl, by unfold WOk; omega, hH24⟩
      ·
        refine C_region ?_
        refine O_p (.p (some (n1, 5))) (r_fadd' rfl rfl) ?_
        refine O_p (.i .u32 x) (r_ld rfl hH16.get1 rfl) ?_
        refine O_p (.i .u32 y) (r_mv rfl) ?_
        refine O_p (.b true) (by exact (by rw [r_neq rfl rfl, decide_eq_false hx]; rfl)) ?_
        refine O_p (.b true) (r_mv rfl) ?_
        refine O_gk rfl ?_
        refine O_p (.p (some (n1, 5))) (r_fadd' rfl rfl) ?_
        refine O_gk rfl ?_
        refine O_p (.i .u32 x) (r_ld rfl hH16.get1 rfl) ?_
        refine O_gk rfl ?_
        refine O_p (.i .u32 y) (r_mv rfl) ?_
        refine O_gk rfl ?_
        refine O_call (Ev.mono (Less_ev x y hH16) fun v25 H26 hq27 => ?_)
        obtain ⟨b28, rfl, hH29⟩ := hq27
        refine O_gk rfl ?_
        refine O_p (.b (!b28)) (r_not rfl) ?_
        refine O_p (.b (!b28)) (r_pick_t rfl rfl) ?_
        refine O_p (.p (some (n1, 4))) (r_fadd' rfl rfl) ?_
        refine O_store (vs := [(.b (!b28))]) (c' := [(.i .i64 a), (.i .i64 b), (.i .i64 c), (.i .i64 d), (.b (!b28)), (.i .u32 x)]) rfl (by rfl) hH29.get1 rfl (List.cons_ne_nil _ _) (Nat.le_of_ble_eq_true rfl) rfl fun H30 hW31 => ?_
        have hH32 := hH29.wr1 hW31
        refine O_nil ?_
        refine C_seq ?_
        refine C_region ?_
        refine O_p (.agg [(.i .i64 a), (.i .i64 b), (.i .i64 c), (.i .i64 d), (.b (!b28)), (.i .u32 x)]) (r_ldA rfl hH32.get1 rfl) ?_
        refine O_store (vs := [(.i .i64 a), (.i .i64 b), (.i .i64 c), (.i .i64 d), (.b (!b28)), (.i .u32 x)]) (c' := [(.i .i64 a), (.i .i64 b), (.i .i64 c), (.i .i64 d), (.b (!b28)), (.i .u32 x)]) rfl (by rfl) hH32.get0 rfl (List.cons_ne_nil _ _) (Nat.le_of_ble_eq_true rfl) rfl fun H33 hW34 => ?_
        have hH35 := hH32.wr0 hW34
        refine O_nil ?_
        refine C_ret ?_
        have hcell := hH35.get0
        have hH36 := ((hH35.sub0).sub0)
        exact ⟨.inr rfl, _, resL_one (r_cellA (l := [(.i .i64 a), (.i .i64 b), (.i .i64 c), (.i .i64 d), (.b (!b28)), (.i .u32 x)]) rfl hcell rfl), _, _, _, _, _, rfl, by unfold WOk; omega, hH36⟩
    ·
      try simp only [decide_eq_true_eq, decide_eq_false_iff_not, Bool.not_eq_true', Bool.not_eq_false', Bool.and_eq_true, Bool.or_eq_true, Bool.or_eq_false_iff, Bool.not_not, Bool.and_eq_false_iff] at hc17
      refine C_seq ?_
      refine C_region ?_
      refine O_p (.i .i64 n) (r_mv rfl) ?_
      refine O_p (.b (decide (0 < n))) (r_gtr rfl rfl) ?_
      refine O_p (.b (decide (0 < n))) (r_mv rfl) ?_
      refine O_gx (e := (decide (0 < n))) (v := (.b fl)) (wt rfl) (fun he => (r_mv rfl)) ?_
      refine O_p (.b ((decide (0 < n)) && fl)) (r_pick_and rfl rfl rfl rfl) ?_
      refine O_p (.b ((decide (0 < n)) && fl)) (r_mv rfl) ?_
      refine O_nil ?_
      refine C_cond (x := ((decide (0 < n)) && fl)) rfl (fun hc37 => ?_) (fun hc37 => ?_)
      ·
        try simp only [decide_eq_true_eq, decide_eq_false_iff_not, Bool.not_eq_true', Bool.not_eq_false', Bool.and_eq_true, Bool.or_eq_true, Bool.or_eq_false_iff, Bool.not_not, Bool.and_eq_false_iff] at hc37
        refine C_region ?_
        refine O_p (.i .i64 n) (r_mv rfl) ?_
        have hH38 := (hH16.top1)
        refine O_call (Ev.mono (grow_ev hok hn hH38) fun v39 H40 hq41 => ?_)
        obtain ⟨a42, b43, c44, hok45, rfl, hH46⟩ := hq41
        unfold WOk at hok45
        refine O_nil ?_
        refine C_seq ?_
        refine C_region ?_
        refine O_p (.agg [(.i .i64 a42), (.i .i64 b43), (.i .i64 c44), (.i .i64 d), (.b e), (.i .u32 x)]) (r_ldA rfl hH46.get0 rfl) ?_
        refine O_store (vs := [(.i .i64 a42), (.i .i64 b43), (.i .i64 c44), (.i .i64 d), (.b e), (.i .u32 x)]) (c' := [(.i .i64 a42), (.i .i64 b43), (.i .i64 c44), (.i .i64 d), (.b e), (.i .u32 x)]) rfl (by rfl) hH46.get1 rfl (List.cons_ne_nil _ _) (Nat.le_of_ble_eq_true rfl) rfl fun H47 hW48 => ?_
        have hH49 := hH46.wr1 hW48
        refine O_nil ?_
        refine C_ret ?_
        have hcell := hH49.get1
        have hH50 := ((hH49.sub0).sub0)
        exact ⟨.inr rfl, _, resL_one (r_cellA (l := [(.i .i64 a42), (.i .i64 b43), (.i .i64 c44), (.i .i64 d), (.b e), (.i .u32 x)]) rfl hcell rfl), _, _, _, _, _, rfl, by unfold WOk; omega, hH50⟩
      ·
        try simp only [decide_eq_true_eq, decide_eq_false_iff_not, Bool.not_eq_true', Bool.not_eq_false', Bool.and_eq_true, Bool.or_eq_true, Bool.or_eq_false_iff, Bool.not_not, Bool.and_eq_false_iff] at hc37
        refine C_skip ?_
        refine C_seq ?_
        refine C_region ?_
        refine O_p (.agg [(.i .i64 a), (.i .i64 b), (.i .i64 c), (.i .i64 d), (.b e), (.i .u32 x)]) (r_ldA rfl hH16.get1 rfl) ?_
        refine O_store (vs := [(.i .i64 a), (.i .i64 b), (.i .i64 c), (.i .i64 d), (.b e), (.i .u32 x)]) (c' := [(.i .i64 a), (.i .i64 b), (.i .i64 c), (.i .i64 d), (.b e), (.i .u32 x)]) rfl (by rfl) hH16.get0 rfl (List.cons_ne_nil _ _) (Nat.le_of_ble_eq_true rfl) rfl fun H51 hW52 => ?_
        have hH53 := hH16.wr0 hW52
        refine O_nil ?_
        refine C_ret ?_
        have hcell := hH53.get0
        have hH54 := ((hH53.sub0).sub0)
        exact ⟨.inr rfl, _, resL_one (r_cellA (l := [(.i .i64 a), (.i .i64 b), (.i .i64 c), (.i .i64 d), (.b e), (.i .u32 x)]) rfl hcell rfl), _, _, _, _, _, rfl, by unfold WOk; omega, hH54⟩
  ·
    refine C_region ?_
    refine O_p (.agg [(.i .i64 a), (.i .i64 b), (.i .i64 c), (.i .i64 d), (.b e), (.i .u32 x)]) (r_ldA rfl hH8.get1 rfl) ?_
    refine O_call (Ev.mono (may_ev hok hH8) fun v55 H56 hq57 => ?_)
    obtain ⟨rfl, hH58⟩ := hq57
    refine O_p (.b false) (r_un rfl rfl) ?_
    refine O_p (.b false) (r_mv rfl) ?_
    refine O_gk rfl ?_
    refine O_p (.i .i64 n) (r_mv rfl) ?_
    refine O_gk rfl ?_
    refine O_call (Ev.mono (between_false hn hH58) fun v59 H60 hq61 => ?_)
    obtain ⟨rfl, hH62⟩ := hq61
    refine O_gk rfl ?_
    refine O_p (.b true) (r_un rfl rfl) ?_
    refine O_p (.b true) (r_pick_f rfl rfl) ?_
    refine O_p (.b true) (r_mv rfl) ?_
    refine O_nil ?_
    refine C_cond (x := true) rfl (fun _ => ?_) (fun h => by cases h)
    refine C_skip ?_
    refine C_seq ?_
    refine C_region ?_
    refine O_p (.agg [(.i .i64 a), (.i .i64 b), (.i .i64 c), (.i .i64 d), (.b e), (.i .u32 x)]) (r_ldA rfl hH62.get1 rfl) ?_
    refine O_store (vs := [(.i .i64 a), (.i .i64 b), (.i .i64 c), (.i .i64 d), (.b e), (.i .u32 x)]) (c' := [(.i .i64 a), (.i .i64 b), (.i .i64 c), (.i .i64 d), (.b e), (.i .u32 x)]) rfl (by rfl) hH62.get0 rfl (List.cons_ne_nil _ _) (Nat.le_of_ble_eq_true rfl) rfl fun H63 hW64 => ?_
    have hH65 := hH62.wr0 hW64
    refine O_nil ?_
    refine C_ret ?_
    have hcell := hH65.get0
    have hH66 := ((hH65.sub0).sub0)
    exact ⟨.inr rfl, _, resL_one (r_cellA (l := [(.i .i64 a), (.i .i64 b), (.i .i64 c), (.i .i64 d), (.b e), (.i .u32 x)]) rfl hcell rfl), _, _, _, _, _, rfl, by unfold WOk; omega, hH66⟩
end Go.Proofs.Ytjnceigeejdleaa.E
