/- Comparisons, walked. It bears no condition. -/
import Derived.Test.YtadloppgokobeaaZ
namespace Go.Proofs.Ytadloppgokobeaa.E
set_option linter.unusedVariables false
set_option linter.unusedSimpArgs false
theorem same13_ev {H : AH} {B R : HL} {x y : Ms} {vx vy : AV} (hx : ∀ H', Hs H' B → Bs H' vx x.d) (hy : ∀ H', Hs H' B → Bs H' vy y.d) (hH0 : Hs H (B ++ R)) : Ev tabA spA (.fn (.func 15) [] []) [.agg [.i .u16 x.o, .b x.u, .i .u32 x.p, vx], .agg [.i .u16 y.o, .b y.u, .i .u32 y.p, vy]] H (fun r H' => r = .b (sameM x y) ∧ Hs H' (B ++ R)) := by
  refine Ev_C (F := x15) rfl ?_
  refine C_seq ?_
  refine C_region ?_
  refine O_box (z := [(.i .u16 x.o), (.b x.u), (.i .u32 x.p), vx]) rfl fun n1 H2 hN3 => ?_
  have hH4 := hH0.new hN3
  refine O_box (z := [(.i .u16 y.o), (.b y.u), (.i .u32 y.p), vy]) rfl fun n5 H6 hN7 => ?_
  have hH8 := hH4.new hN7
  refine O_p (.b false) (r_mv rfl) ?_
  refine O_nil ?_
  refine C_seq ?_
  refine C_region ?_
  refine O_p (.p (some (n1, 0))) (r_fadd' rfl rfl) ?_
  refine O_p (.i .u16 x.o) (r_ld rfl hH8.get1 rfl) ?_
  refine O_p (.p (some (n5, 0))) (r_fadd' rfl rfl) ?_
  refine O_p (.i .u16 y.o) (r_ld rfl hH8.get0 rfl) ?_
  refine O_p (.b (decide (x.o = y.o))) (r_eql rfl rfl) ?_
  refine O_p (.b (decide (x.o = y.o))) (r_mv rfl) ?_
  refine O_gx (e := (decide (x.o = y.o))) (v := (.p (some (n1, 1)))) (wt rfl) (fun he => (r_fadd' rfl rfl)) ?_
  refine O_gx (e := (decide (x.o = y.o))) (v := (.b x.u)) (wt rfl) (fun he => (r_ld (cond_pos he) hH8.get1 rfl)) ?_
  refine O_gx (e := (decide (x.o = y.o))) (v := (.p (some (n5, 1)))) (wt rfl) (fun he => (r_fadd' rfl rfl)) ?_
  refine O_gx (e := (decide (x.o = y.o))) (v := (.b y.u)) (wt rfl) (fun he => (r_ld (cond_pos he) hH8.get0 rfl)) ?_
  refine O_gx (e := (decide (x.o = y.o))) (v := (.b (x.u == y.u))) (wt rfl) (fun he => (r_beq (cond_pos he) (cond_pos he))) ?_
  refine O_p (.b ((decide (x.o = y.o)) && (x.u == y.u))) (r_pick_and rfl rfl rfl rfl) ?_
  refine O_p (.b ((decide (x.o = y.o)) && (x.u == y.u))) (r_mv rfl) ?_
  refine O_gx (e := ((decide (x.o = y.o)) && (x.u == y.u))) (v := (.p (some (n1, 2)))) (wt rfl) (fun he => (r_fadd' rfl rfl)) ?_
  refine O_gx (e := ((decide (x.o = y.o)) && (x.u == y.u))) (v := (.i .u32 x.p)) (wt rfl) (fun he => (r_ld (cond_pos he) hH8.get1 rfl)) ?_
  refine O_gx (e := ((decide (x.o = y.o)) && (x.u == y.u))) (v := (.p (some (n5, 2)))) (wt rfl) (fun he => (r_fadd' rfl rfl)) ?_
  refine O_gx (e := ((decide (x.o = y.o)) && (x.u == y.u))) (v := (.i .u32 y.p)) (wt rfl) (fun he => (r_ld (cond_pos he) hH8.get0 rfl)) ?_
  refine O_gx (e := ((decide (x.o = y.o)) && (x.u == y.u))) (v := (.b (decide (x.p = y.p)))) (wt rfl) (fun he => (r_eql (cond_pos he) (cond_pos he))) ?_
  refine O_p (.b (((decide (x.o = y.o)) && (x.u == y.u)) && (decide (x.p = y.p)))) (r_pick_and rfl rfl rfl rfl) ?_
  refine O_p (.b (((decide (x.o = y.o)) && (x.u == y.u)) && (decide (x.p = y.p)))) (r_mv rfl) ?_
  refine O_gx (e := (((decide (x.o = y.o)) && (x.u == y.u)) && (decide (x.p = y.p)))) (v := (.p (some (n1, 3)))) (wt rfl) (fun he => (r_fadd' rfl rfl)) ?_
  refine O_gx (e := (((decide (x.o = y.o)) && (x.u == y.u)) && (decide (x.p = y.p)))) (v := vx) (wt rfl) (fun he => (r_ld (cond_pos he) hH8.get1 rfl)) ?_
  refine O_gx (e := (((decide (x.o = y.o)) && (x.u == y.u)) && (decide (x.p = y.p)))) (v := (.s (txt x.d))) (wt rfl) (fun he => ((hx _ hH8.top2.fst).text (cond_pos he))) ?_
  refine O_gx (e := (((decide (x.o = y.o)) && (x.u == y.u)) && (decide (x.p = y.p)))) (v := (.p (some (n5, 3)))) (wt rfl) (fun he => (r_fadd' rfl rfl)) ?_
  refine O_gx (e := (((decide (x.o = y.o)) && (x.u == y.u)) && (decide (x.p = y.p)))) (v := vy) (wt rfl) (fun he => (r_ld (cond_pos he) hH8.get0 rfl)) ?_
  refine O_gx (e := (((decide (x.o = y.o)) && (x.u == y.u)) && (decide (x.p = y.p)))) (v := (.s (txt y.d))) (wt rfl) (fun he => ((hy _ hH8.top2.fst).text (cond_pos he))) ?_
  refine O_gx (e := (((decide (x.o = y.o)) && (x.u == y.u)) && (decide (x.p = y.p)))) (v := (.b (decide (x.d = y.d)))) (wt rfl) (fun he => (r_eqt (cond_pos he) (cond_pos he))) ?_
  refine O_p (.b ((((decide (x.o = y.o)) && (x.u == y.u)) && (decide (x.p = y.p))) && (decide (x.d = y.d)))) (r_pick_and rfl rfl rfl rfl) ?_
  refine O_p (.b ((((decide (x.o = y.o)) && (x.u == y.u)) && (decide (x.p = y.p))) && (decide (x.d = y.d)))) (r_mv rfl) ?_
  refine O_nil ?_
  refine C_ret ?_
  have hH9 := ((hH8.sub0).sub0)
  exact ⟨.inr rfl, _, resL_one (r_tmp (v := (.b ((((decide (x.o = y.o)) && (x.u == y.u)) && (decide (x.p = y.p))) && (decide (x.d = y.d))))) rfl), rfl, hH9⟩
theorem same06_ev {H : AH} {B : HL} (hH0 : Hs H B) : Ev tabA spA (.fn (.func 22) [] []) [.sl none 0 0 0, .sl none 0 0 0] H (fun r H' => r = .b true ∧ Hs H' B) := by
  refine Ev_C (F := x22) rfl ?_
  refine C_seq ?_
  refine C_region ?_
  refine O_p (.b false) (r_mv rfl) ?_
  refine O_nil ?_
  refine C_seq ?_
  refine C_seq ?_
  refine C_region ?_
  refine O_p (.sl none 0 0 0) (r_mv rfl) ?_
  refine O_p (.i .i64 0) (r_len rfl) ?_
  refine O_p (.sl none 0 0 0) (r_mv rfl) ?_
  refine O_p (.i .i64 0) (r_len rfl) ?_
  refine O_p (.b false) (r_bin rfl rfl rfl) ?_
  refine O_nil ?_
  refine C_cond (x := false) rfl (fun h => by cases h) (fun _ => ?_)
  refine C_skip ?_
  refine C_seq ?_
  refine C_seq ?_
  refine C_region ?_
  refine O_p (.i .i64 0) (r_mv rfl) ?_
  refine O_nil ?_
  refine C_block ?_
  refine C_loop ?_
  refine C_seq ?_
  refine C_seq ?_
  refine C_region ?_
  refine O_p (.i .i64 0) (r_mv rfl) ?_
  refine O_p (.sl none 0 0 0) (r_mv rfl) ?_
  refine O_p (.i .i64 0) (r_len rfl) ?_
  refine O_p (.b false) (r_bin rfl rfl rfl) ?_
  refine O_nil ?_
  refine C_cond (x := false) rfl (fun h => by cases h) (fun _ => ?_)
  refine C_exit ?_
  refine nx_exit ?_
  refine nx_exit ?_
  refine bk_hit ?_
  refine C_seq ?_
  refine C_region ?_
  refine O_p (.b true) (r_mv rfl) ?_
  refine O_nil ?_
  refine C_ret ?_
  exact ⟨.inr rfl, _, resL_one (r_tmp (v := (.b true)) rfl), rfl, hH0⟩
theorem same07_ev {H : AH} {B R : HL} {x : Ck} {v1 v2 : AV} (hv1 : ∀ H', Hs H' B → Bs H' v1 x.d) (hv2 : ∀ H', Hs H' B → Bs H' v2 x.d) (hH0 : Hs H (B ++ R)) : Ev tabA spA (.fn (.func 20) [] []) [.agg [(.i .u8 x.k), (.i .u8 x.f), (.i .u32 x.a), (.i .u32 0), (.i .u16 x.o), (.i .u16 x.i), (.i .u32 x.p), (.sl none 0 0 0), (.sl none 0 0 0), (.sl none 0 0 0), (.sl none 0 0 0), v1], .agg [(.i .u8 x.k), (.i .u8 x.f), (.i .u32 x.a), (.i .u32 0), (.i .u16 x.o), (.i .u16 x.i), (.i .u32 x.p), (.sl none 0 0 0), (.sl none 0 0 0), (.sl none 0 0 0), (.sl none 0 0 0), v2]] H (fun r H' => r = .b true ∧ Hs H' (B ++ R)) := by
  refine Ev_C (F := x20) rfl ?_
  refine C_seq ?_
  refine C_region ?_
  refine O_box (z := [(.i .u8 x.k), (.i .u8 x.f), (.i .u32 x.a), (.i .u32 0), (.i .u16 x.o), (.i .u16 x.i), (.i .u32 x.p), (.sl none 0 0 0), (.sl none 0 0 0), (.sl none 0 0 0), (.sl none 0 0 0), v1]) rfl fun n1 H2 hN3 => ?_
  have hH4 := hH0.new hN3
  refine O_box (z := [(.i .u8 x.k), (.i .u8 x.f), (.i .u32 x.a), (.i .u32 0), (.i .u16 x.o), (.i .u16 x.i), (.i .u32 x.p), (.sl none 0 0 0), (.sl none 0 0 0), (.sl none 0 0 0), (.sl none 0 0 0), v2]) rfl fun n5 H6 hN7 => ?_
  have hH8 := hH4.new hN7
  refine O_p (.b false) (r_mv rfl) ?_
  refine O_nil ?_
  refine C_seq ?_
  refine C_seq ?_
  refine C_region ?_
  refine O_p (.p (some (n1, 0))) (r_fadd' rfl rfl) ?_
  refine O_p (.i .u8 x.k) (r_ld rfl hH8.get1 rfl) ?_
  refine O_p (.p (some (n5, 0))) (r_fadd' rfl rfl) ?_
  refine O_p (.i .u8 x.k) (r_ld rfl hH8.get0 rfl) ?_
  refine O_p (.b false) (r_nqq rfl rfl) ?_
  refine O_p (.b false) (r_mv rfl) ?_
  refine O_gk rfl ?_
  refine O_p (.p (some (n1, 1))) (r_fadd' rfl rfl) ?_
  refine O_gk rfl ?_
  refine O_p (.i .u8 x.f) (r_ld rfl hH8.get1 rfl) ?_
  refine O_gk rfl ?_
  refine O_p (.p (some (n5, 1))) (r_fadd' rfl rfl) ?_
  refine O_gk rfl ?_
  refine O_p (.i .u8 x.f) (r_ld rfl hH8.get0 rfl) ?_
  refine O_gk rfl ?_
  refine O_p (.b false) (r_nqq rfl rfl) ?_
  refine O_p (.b false) (r_pick_f rfl rfl) ?_
  refine O_p (.b false) (r_mv rfl) ?_
  refine O_gk rfl ?_
  refine O_p (.p (some (n1, 2))) (r_fadd' rfl rfl) ?_
  refine O_gk rfl ?_
  refine O_p (.i .u32 x.a) (r_ld rfl hH8.get1 rfl) ?_
  refine O_gk rfl ?_
  refine O_p (.p (some (n5, 2))) (r_fadd' rfl rfl) ?_
  refine O_gk rfl ?_
  refine O_p (.i .u32 x.a) (r_ld rfl hH8.get0 rfl) ?_
  refine O_gk rfl ?_
  refine O_p (.b false) (r_nqq rfl rfl) ?_
  refine O_p (.b false) (r_pick_f rfl rfl) ?_
  refine O_p (.b false) (r_mv rfl) ?_
  refine O_gk rfl ?_
  refine O_p (.p (some (n1, 3))) (r_fadd' rfl rfl) ?_
  refine O_gk rfl ?_
  refine O_p (.i .u32 0) (r_ld rfl hH8.get1 rfl) ?_
  refine O_gk rfl ?_
  refine O_p (.p (some (n5, 3))) (r_fadd' rfl rfl) ?_
  refine O_gk rfl ?_
  refine O_p (.i .u32 0) (r_ld rfl hH8.get0 rfl) ?_
  refine O_gk rfl ?_
  refine O_p (.b false) (r_nqq rfl rfl) ?_
  refine O_p (.b false) (r_pick_f rfl rfl) ?_
  refine O_p (.b false) (r_mv rfl) ?_
  refine O_gk rfl ?_
  refine O_p (.p (some (n1, 4))) (r_fadd' rfl rfl) ?_
  refine O_gk rfl ?_
  refine O_p (.i .u16 x.o) (r_ld rfl hH8.get1 rfl) ?_
  refine O_gk rfl ?_
  refine O_p (.p (some (n5, 4))) (r_fadd' rfl rfl) ?_
  refine O_gk rfl ?_
  refine O_p (.i .u16 x.o) (r_ld rfl hH8.get0 rfl) ?_
  refine O_gk rfl ?_
  refine O_p (.b false) (r_nqq rfl rfl) ?_
  refine O_p (.b false) (r_pick_f rfl rfl) ?_
  refine O_p (.b false) (r_mv rfl) ?_
  refine O_gk rfl ?_
  refine O_p (.p (some (n1, 5))) (r_fadd' rfl rfl) ?_
  refine O_gk rfl ?_
  refine O_p (.i .u16 x.i) (r_ld rfl hH8.get1 rfl) ?_
  refine O_gk rfl ?_
  refine O_p (.p (some (n5, 5))) (r_fadd' rfl rfl) ?_
  refine O_gk rfl ?_
  refine O_p (.i .u16 x.i) (r_ld rfl hH8.get0 rfl) ?_
  refine O_gk rfl ?_
  refine O_p (.b false) (r_nqq rfl rfl) ?_
  refine O_p (.b false) (r_pick_f rfl rfl) ?_
  refine O_p (.b false) (r_mv rfl) ?_
  refine O_gk rfl ?_
  refine O_p (.p (some (n1, 6))) (r_fadd' rfl rfl) ?_
  refine O_gk rfl ?_
  refine O_p (.i .u32 x.p) (r_ld rfl hH8.get1 rfl) ?_
  refine O_gk rfl ?_
  refine O_p (.p (some (n5, 6))) (r_fadd' rfl rfl) ?_
  refine O_gk rfl ?_
  refine O_p (.i .u32 x.p) (r_ld rfl hH8.get0 rfl) ?_
  refine O_gk rfl ?_
  refine O_p (.b false) (r_nqq rfl rfl) ?_
  refine O_p (.b false) (r_pick_f rfl rfl) ?_
  refine O_p (.b false) (r_mv rfl) ?_
  refine O_gk rfl ?_
  refine O_p (.p (some (n1, 11))) (r_fadd' rfl rfl) ?_
  refine O_gk rfl ?_
  refine O_p v1 (r_ld rfl hH8.get1 rfl) ?_
  refine O_gk rfl ?_
  refine O_p (.s (txt x.d)) ((hv1 _ hH8.top2.fst).text rfl) ?_
  refine O_gk rfl ?_
  refine O_p (.p (some (n5, 11))) (r_fadd' rfl rfl) ?_
  refine O_gk rfl ?_
  refine O_p v2 (r_ld rfl hH8.get0 rfl) ?_
  refine O_gk rfl ?_
  refine O_p (.s (txt x.d)) ((hv2 _ hH8.top2.fst).text rfl) ?_
  refine O_gk rfl ?_
  refine O_p (.b false) (by exact (by rw [r_eqtn (a := x.d) (b := x.d) rfl rfl, decide_eq_true rfl]; rfl)) ?_
  refine O_p (.b false) (r_pick_f rfl rfl) ?_
  refine O_p (.b false) (r_mv rfl) ?_
  refine O_gk rfl ?_
  refine O_p (.p (some (n1, 10))) (r_fadd' rfl rfl) ?_
  refine O_gk rfl ?_
  refine O_p (.sl none 0 0 0) (r_ld rfl hH8.get1 rfl) ?_
  refine O_gk rfl ?_
  refine O_p (.p (some (n5, 10))) (r_fadd' rfl rfl) ?_
  refine O_gk rfl ?_
  refine O_p (.sl none 0 0 0) (r_ld rfl hH8.get0 rfl) ?_
  refine O_gk rfl ?_
  refine O_call (Ev.mono (same06_ev hH8) fun v9 H10 hq11 => ?_)
  obtain ⟨rfl, hH12⟩ := hq11
  refine O_gk rfl ?_
  refine O_p (.b false) (r_un rfl rfl) ?_
  refine O_p (.b false) (r_pick_f rfl rfl) ?_
  refine O_p (.b false) (r_mv rfl) ?_
  refine O_gk rfl ?_
  refine O_p (.p (some (n1, 7))) (r_fadd' rfl rfl) ?_
  refine O_gk rfl ?_
  refine O_p (.sl none 0 0 0) (r_ld rfl hH12.get1 rfl) ?_
  refine O_gk rfl ?_
  refine O_p (.i .i64 0) (r_len rfl) ?_
  refine O_gk rfl ?_
  refine O_p (.p (some (n5, 7))) (r_fadd' rfl rfl) ?_
  refine O_gk rfl ?_
  refine O_p (.sl none 0 0 0) (r_ld rfl hH12.get0 rfl) ?_
  refine O_gk rfl ?_
  refine O_p (.i .i64 0) (r_len rfl) ?_
  refine O_gk rfl ?_
  refine O_p (.b false) (r_bin rfl rfl rfl) ?_
  refine O_p (.b false) (r_pick_f rfl rfl) ?_
  refine O_p (.b false) (r_mv rfl) ?_
  refine O_gk rfl ?_
  refine O_p (.p (some (n1, 8))) (r_fadd' rfl rfl) ?_
  refine O_gk rfl ?_
  refine O_p (.sl none 0 0 0) (r_ld rfl hH12.get1 rfl) ?_
  refine O_gk rfl ?_
  refine O_p (.i .i64 0) (r_len rfl) ?_
  refine O_gk rfl ?_
  refine O_p (.p (some (n5, 8))) (r_fadd' rfl rfl) ?_
  refine O_gk rfl ?_
  refine O_p (.sl none 0 0 0) (r_ld rfl hH12.get0 rfl) ?_
  refine O_gk rfl ?_
  refine O_p (.i .i64 0) (r_len rfl) ?_
  refine O_gk rfl ?_
  refine O_p (.b false) (r_bin rfl rfl rfl) ?_
  refine O_p (.b false) (r_pick_f rfl rfl) ?_
  refine O_p (.b false) (r_mv rfl) ?_
  refine O_gk rfl ?_
  refine O_p (.p (some (n1, 9))) (r_fadd' rfl rfl) ?_
  refine O_gk rfl ?_
  refine O_p (.sl none 0 0 0) (r_ld rfl hH12.get1 rfl) ?_
  refine O_gk rfl ?_
  refine O_p (.i .i64 0) (r_len rfl) ?_
  refine O_gk rfl ?_
  refine O_p (.p (some (n5, 9))) (r_fadd' rfl rfl) ?_
  refine O_gk rfl ?_
  refine O_p (.sl none 0 0 0) (r_ld rfl hH12.get0 rfl) ?_
  refine O_gk rfl ?_
  refine O_p (.i .i64 0) (r_len rfl) ?_
  refine O_gk rfl ?_
  refine O_p (.b false) (r_bin rfl rfl rfl) ?_
  refine O_p (.b false) (r_pick_f rfl rfl) ?_
  refine O_nil ?_
  refine C_cond (x := false) rfl (fun h => by cases h) (fun _ => ?_)
  refine C_skip ?_
  refine C_seq ?_
  refine C_seq ?_
  refine C_region ?_
  refine O_p (.i .i64 0) (r_mv rfl) ?_
  refine O_nil ?_
  refine C_block ?_
  refine C_loop ?_
  refine C_seq ?_
  refine C_seq ?_
  refine C_region ?_
  refine O_p (.i .i64 0) (r_mv rfl) ?_
  refine O_p (.p (some (n1, 7))) (r_fadd' rfl rfl) ?_
  refine O_p (.sl none 0 0 0) (r_ld rfl hH12.get1 rfl) ?_
  refine O_p (.i .i64 0) (r_len rfl) ?_
  refine O_p (.b false) (r_bin rfl rfl rfl) ?_
  refine O_nil ?_
  refine C_cond (x := false) rfl (fun h => by cases h) (fun _ => ?_)
  refine C_exit ?_
  refine nx_exit ?_
  refine nx_exit ?_
  refine bk_hit ?_
  refine C_seq ?_
  refine C_seq ?_
  refine C_region ?_
  refine O_p (.i .i64 0) (r_mv rfl) ?_
  refine O_nil ?_
  refine C_block ?_
  refine C_loop ?_
  refine C_seq ?_
  refine C_seq ?_
  refine C_region ?_
  refine O_p (.i .i64 0) (r_mv rfl) ?_
  refine O_p (.p (some (n1, 8))) (r_fadd' rfl rfl) ?_
  refine O_p (.sl none 0 0 0) (r_ld rfl hH12.get1 rfl) ?_
  refine O_p (.i .i64 0) (r_len rfl) ?_
  refine O_p (.b false) (r_bin rfl rfl rfl) ?_
  refine O_nil ?_
  refine C_cond (x := false) rfl (fun h => by cases h) (fun _ => ?_)
  refine C_exit ?_
  refine nx_exit ?_
  refine nx_exit ?_
  refine bk_hit ?_
  refine C_seq ?_
  refine C_seq ?_
  refine C_region ?_
  refine O_p (.i .i64 0) (r_mv rfl) ?_
  refine O_nil ?_
  refine C_block ?_
  refine C_loop ?_
  refine C_seq ?_
  refine C_seq ?_
  refine C_region ?_
  refine O_p (.i .i64 0) (r_mv rfl) ?_
  refine O_p (.p (some (n1, 9))) (r_fadd' rfl rfl) ?_
  refine O_p (.sl none 0 0 0) (r_ld rfl hH12.get1 rfl) ?_
  refine O_p (.i .i64 0) (r_len rfl) ?_
  refine O_p (.b false) (r_bin rfl rfl rfl) ?_
  refine O_nil ?_
  refine C_cond (x := false) rfl (fun h => by cases h) (fun _ => ?_)
  refine C_exit ?_
  refine nx_exit ?_
  refine nx_exit ?_
  refine bk_hit ?_
  refine C_seq ?_
  refine C_region ?_
  refine O_p (.b true) (r_mv rfl) ?_
  refine O_nil ?_
  refine C_ret ?_
  have hH13 := ((hH12.sub0).sub0)
  exact ⟨.inr rfl, _, resL_one (r_tmp (v := (.b true)) rfl), rfl, hH13⟩
theorem samechunks_ev {H : AH} {B R : HL} {v w : AV} {cs : List Ck} (hv : Cks true B v cs) (hw : Cks true B w cs) (hn : cs.length ≤ 1073741824) (hH0 : Hs H (B ++ R)) : Ev tabA spA (.fn (.func 10) [] []) [v, w] H (fun r H' => r = .b true ∧ Hs H' (B ++ R)) := by
  refine Ev_C (F := x10) rfl ?_
  obtain ⟨rv, hrv, hcv⟩ := hv
  obtain ⟨rw_, hrw, hcw⟩ := hw
  refine C_seq ?_
  refine C_region ?_
  refine O_p (.b false) (r_mv rfl) ?_
  refine O_nil ?_
  refine C_seq ?_
  refine C_seq ?_
  refine C_region ?_
  refine O_p v (r_mv rfl) ?_
  refine O_p (.i .i64 (((cs.length : Nat)) : Int)) (r_lenOf rfl ((hrv _ hH0.top0.fst).lenOf hcv.1) (hrv _ hH0.top0.fst).isSl) ?_
  refine O_p w (r_mv rfl) ?_
  refine O_p (.i .i64 (((cs.length : Nat)) : Int)) (r_lenOf rfl ((hrw _ hH0.top0.fst).lenOf hcw.1) (hrw _ hH0.top0.fst).isSl) ?_
  refine O_p (.b false) (by exact (by rw [r_neq rfl rfl, decide_eq_true (by first | omega | assumption)]; rfl)) ?_
  refine O_nil ?_
  refine C_cond (x := false) rfl (fun h => by cases h) (fun _ => ?_)
  refine C_skip ?_
  refine C_seq ?_
  refine C_seq ?_
  refine C_region ?_
  refine O_p (.i .i64 0) (r_mv rfl) ?_
  refine O_nil ?_
  refine C_block ?_
  refine C_while (fun m1 T2 H3 => ∃ i : Nat, m1 = cs.length - i ∧ i ≤ cs.length ∧ Hs H3 (B ++ (R)) ∧ T2.get 0 = v ∧ T2.get 1 = w ∧ T2.get 4 = (.b false) ∧ T2.get 5 = (.i .i64 (((i : Nat)) : Int))) (fun m1 T2 H3 hI4 => ?_) cs.length _ _ ⟨0, rfl, Nat.zero_le _, hH0, rfl, rfl, rfl, rfl⟩
  obtain ⟨i, hm5, hp6, hH11, hT7, hT8, hT9, hT10⟩ := hI4
  refine C_seq ?_
  refine C_seq ?_
  refine C_region ?_
  refine O_p (.i .i64 (((i : Nat)) : Int)) (r_mv hT10) ?_
  refine O_p v (r_mv hT7) ?_
  refine O_p (.i .i64 (((cs.length : Nat)) : Int)) (r_lenOf rfl ((hrv _ hH11.top0.fst).lenOf hcv.1) (hrv _ hH11.top0.fst).isSl) ?_
  refine O_p (.b (decide ((((i : Nat)) : Int) < (((cs.length : Nat)) : Int)))) (r_lss rfl rfl) ?_
  refine O_nil ?_
  refine C_cond (x := (decide ((((i : Nat)) : Int) < (((cs.length : Nat)) : Int)))) rfl (fun hc12 => ?_) (fun hc12 => ?_)
  ·
    try simp only [decide_eq_true_eq, decide_eq_false_iff_not, Bool.not_eq_true', Bool.not_eq_false', Bool.and_eq_true, Bool.or_eq_true, Bool.or_eq_false_iff, Bool.not_not, Bool.and_eq_false_iff] at hc12
    refine C_skip ?_
    refine C_seq ?_
    refine C_block ?_
    refine C_seq ?_
    refine C_draw fun b13 H14 hbase15 hA16 => ?_
    have hH17 := hH11.keep (by have := hA16.1; omega) (fun q _ => hA16.2 q) ((hH11.old).aside hA16).ok
    have hin : i < cs.length := by omega
    obtain ⟨x, hx⟩ : ∃ x, cs[i]? = some x := ⟨_, List.getElem?_eq_getElem hin⟩
    obtain ⟨r18, hr18, b18, bl18, du18, sk18, pa18, a18, cap18, g18, rfl, _, _, _, _, hz18, hbs18⟩ := hcv.2 _ _ hx
    obtain ⟨rfl, rfl, rfl, rfl, rfl⟩ := hz18 rfl
    obtain ⟨r19, hr19, b19, bl19, du19, sk19, pa19, a19, cap19, g19, rfl, _, _, _, _, hz19, hbs19⟩ := hcw.2 _ _ hx
    obtain ⟨rfl, rfl, rfl, rfl, rfl⟩ := hz19 rfl
    refine D_l (v := v) rfl rfl rfl (r_mv hT7) ?_
    refine D_l (v := (.i .i64 (((i : Nat)) : Int))) rfl rfl rfl (r_mv hT10) ?_
    refine D_q rfl rfl rfl (by exact Rw.row (hrv _ hH17.top0.fst) rfl (i := i) rfl (r := [(.i .u8 x.k), (.i .u8 x.f), (.i .u32 x.a), (.i .u32 0), (.i .u16 x.o), (.i .u16 x.i), (.i .u32 x.p), (.sl none 0 0 0), (.sl none 0 0 0), (.sl none 0 0 0), (.sl none 0 0 0), (.sl a18 x.d.length cap18 g18)]) hr18) fun v21 hv20 => ?_
    obtain ⟨rb22, ro23, rfl, hr24⟩ := hv20
    refine D_l (v := w) rfl rfl rfl (r_mv hT8) ?_
    refine D_l (v := (.i .i64 (((i : Nat)) : Int))) rfl rfl rfl (r_mv hT10) ?_
    refine D_q rfl rfl rfl (by exact Rw.row (hrw _ hH17.top0.fst) rfl (i := i) rfl (r := [(.i .u8 x.k), (.i .u8 x.f), (.i .u32 x.a), (.i .u32 0), (.i .u16 x.o), (.i .u16 x.i), (.i .u32 x.p), (.sl none 0 0 0), (.sl none 0 0 0), (.sl none 0 0 0), (.sl none 0 0 0), (.sl a19 x.d.length cap19 g19)]) hr19) fun v26 hv25 => ?_
    obtain ⟨rb27, ro28, rfl, hr29⟩ := hv25
    refine D_r (v := (.agg [(.i .u8 x.k), (.i .u8 x.f), (.i .u32 x.a), (.i .u32 0), (.i .u16 x.o), (.i .u16 x.i), (.i .u32 x.p), (.sl none 0 0 0), (.sl none 0 0 0), (.sl none 0 0 0), (.sl none 0 0 0), (.sl a18 x.d.length cap18 g18)])) rfl rfl rfl (r_ldRA (q := 0) rfl (hr24 _ (hrv _ hH17.top0.fst)) rfl) ?_
    refine D_r (v := (.agg [(.i .u8 x.k), (.i .u8 x.f), (.i .u32 x.a), (.i .u32 0), (.i .u16 x.o), (.i .u16 x.i), (.i .u32 x.p), (.sl none 0 0 0), (.sl none 0 0 0), (.sl none 0 0 0), (.sl none 0 0 0), (.sl a19 x.d.length cap19 g19)])) rfl rfl rfl (r_ldRA (q := 0) rfl (hr29 _ (hrw _ hH17.top0.fst)) rfl) ?_
    refine D_call (Ev.mono (same07_ev hbs18 hbs19 hH17) fun v30 H31 hq32 => ?_)
    obtain ⟨rfl, hH33⟩ := hq32
    refine And.intro (And.intro (Or.inl rfl) (And.intro (Or.inl rfl) True.intro)) ?_
    refine D_l (v := (.b false)) rfl rfl rfl (r_un rfl rfl) ?_
    refine D_nil ?_
    refine C_cond (x := false) rfl (fun h => by cases h) (fun _ => ?_)
    refine C_skip ?_
    refine C_region ?_
    refine O_p (.i .i64 (((i : Nat)) : Int)) (r_mv hT10) ?_
    refine O_p (.i .i64 ((((i : Nat)) : Int) + 1)) (by exact (r_addi rfl rfl (wrap_i64 (by omega) (by omega)))) ?_
    refine O_p (.i .i64 ((((i : Nat)) : Int) + 1)) (r_mv rfl) ?_
    refine O_nil ?_
    exact ⟨cs.length - (i + 1), by omega, (i + 1), rfl, by omega, hH33, hT7, hT8, hT9, rfl⟩
  ·
    try simp only [decide_eq_true_eq, decide_eq_false_iff_not, Bool.not_eq_true', Bool.not_eq_false', Bool.and_eq_true, Bool.or_eq_true, Bool.or_eq_false_iff, Bool.not_not, Bool.and_eq_false_iff] at hc12
    refine C_exit ?_
    refine nx_exit ?_
    refine nx_exit ?_
    refine bk_hit ?_
    refine C_seq ?_
    refine C_region ?_
    refine O_p (.b true) (r_mv rfl) ?_
    refine O_nil ?_
    refine C_ret ?_
    exact ⟨.inr rfl, _, resL_one (r_tmp (v := (.b true)) rfl), rfl, hH11⟩
theorem few1_ev {H : AH} {B R : HL} {y0 y1 y2 y3 y4 y5 y6 pa : AV} {b0 b1 b2 b3 : Option (Nat × Nat)} {z0 z1 z2 z3 c0 c1 c2 c3 g0 g1 g2 g3 : Nat} {rows : List (List AV)} (hrp : ∀ H', Hs H' B → Rw 2 H' pa rows) (hpr : ∀ (i : Nat) (r : List AV), rows[i]? = some r → ∃ y a n c g, r = [y, .sl a n c g]) (hH0 : Hs H (B ++ R)) : Ev tabA spA (.fn (.func 12) [] []) [.agg [y0, y1, y2, y3, y4, y5, y6, (.sl b0 z0 c0 g0), (.sl b1 z1 c1 g1), (.sl b2 z2 c2 g2), pa, (.sl b3 z3 c3 g3)]] H (fun r H' => ∃ b, r = .b b ∧ (b = true → z3 ≤ 2000) ∧ Hs H' (B ++ R)) := by
  refine Ev_C (F := x12) rfl ?_
  refine C_seq ?_
  refine C_region ?_
  refine O_box (z := [y0, y1, y2, y3, y4, y5, y6, (.sl b0 z0 c0 g0), (.sl b1 z1 c1 g1), (.sl b2 z2 c2 g2), pa, (.sl b3 z3 c3 g3)]) rfl fun n1 H2 hN3 => ?_
  have hH4 := hH0.new hN3
  refine O_p (.b false) (r_mv rfl) ?_
  refine O_nil ?_
  refine C_seq ?_
  refine C_seq ?_
  refine C_region ?_
  refine O_p (.p (some (n1, 7))) (r_fadd' rfl rfl) ?_
  refine O_p (.sl b0 z0 c0 g0) (r_ld rfl hH4.get0 rfl) ?_
  refine O_p (.i .i64 (((z0 : Nat)) : Int)) (r_len rfl) ?_
  refine O_p (.b (decide (100 < (((z0 : Nat)) : Int)))) (r_gtr rfl rfl) ?_
  refine O_p (.b (decide (100 < (((z0 : Nat)) : Int)))) (r_mv rfl) ?_
  refine O_gx (e := (!(decide (100 < (((z0 : Nat)) : Int))))) (v := (.p (some (n1, 8)))) (wf rfl) (fun he => (r_fadd' rfl rfl)) ?_
  refine O_gx (e := (!(decide (100 < (((z0 : Nat)) : Int))))) (v := (.sl b1 z1 c1 g1)) (wf rfl) (fun he => (r_ld (cond_pos he) hH4.get0 rfl)) ?_
  refine O_gx (e := (!(decide (100 < (((z0 : Nat)) : Int))))) (v := (.i .i64 (((z1 : Nat)) : Int))) (wf rfl) (fun he => (r_len (cond_pos he))) ?_
  refine O_gx (e := (!(decide (100 < (((z0 : Nat)) : Int))))) (v := (.b (decide (100 < (((z1 : Nat)) : Int))))) (wf rfl) (fun he => (r_gtr (cond_pos he) rfl)) ?_
  refine O_p (.b ((decide (100 < (((z0 : Nat)) : Int))) || (decide (100 < (((z1 : Nat)) : Int))))) (r_pick_or rfl rfl rfl rfl) ?_
  refine O_p (.b ((decide (100 < (((z0 : Nat)) : Int))) || (decide (100 < (((z1 : Nat)) : Int))))) (r_mv rfl) ?_
  refine O_gx (e := (!((decide (100 < (((z0 : Nat)) : Int))) || (decide (100 < (((z1 : Nat)) : Int)))))) (v := (.p (some (n1, 9)))) (wf rfl) (fun he => (r_fadd' rfl rfl)) ?_
  refine O_gx (e := (!((decide (100 < (((z0 : Nat)) : Int))) || (decide (100 < (((z1 : Nat)) : Int)))))) (v := (.sl b2 z2 c2 g2)) (wf rfl) (fun he => (r_ld (cond_pos he) hH4.get0 rfl)) ?_
  refine O_gx (e := (!((decide (100 < (((z0 : Nat)) : Int))) || (decide (100 < (((z1 : Nat)) : Int)))))) (v := (.i .i64 (((z2 : Nat)) : Int))) (wf rfl) (fun he => (r_len (cond_pos he))) ?_
  refine O_gx (e := (!((decide (100 < (((z0 : Nat)) : Int))) || (decide (100 < (((z1 : Nat)) : Int)))))) (v := (.b (decide (100 < (((z2 : Nat)) : Int))))) (wf rfl) (fun he => (r_gtr (cond_pos he) rfl)) ?_
  refine O_p (.b (((decide (100 < (((z0 : Nat)) : Int))) || (decide (100 < (((z1 : Nat)) : Int)))) || (decide (100 < (((z2 : Nat)) : Int))))) (r_pick_or rfl rfl rfl rfl) ?_
  refine O_p (.b (((decide (100 < (((z0 : Nat)) : Int))) || (decide (100 < (((z1 : Nat)) : Int)))) || (decide (100 < (((z2 : Nat)) : Int))))) (r_mv rfl) ?_
  refine O_gx (e := (!(((decide (100 < (((z0 : Nat)) : Int))) || (decide (100 < (((z1 : Nat)) : Int)))) || (decide (100 < (((z2 : Nat)) : Int)))))) (v := (.p (some (n1, 10)))) (wf rfl) (fun he => (r_fadd' rfl rfl)) ?_
  refine O_gx (e := (!(((decide (100 < (((z0 : Nat)) : Int))) || (decide (100 < (((z1 : Nat)) : Int)))) || (decide (100 < (((z2 : Nat)) : Int)))))) (v := pa) (wf rfl) (fun he => (r_ld (cond_pos he) hH4.get0 rfl)) ?_
  refine O_gx (e := (!(((decide (100 < (((z0 : Nat)) : Int))) || (decide (100 < (((z1 : Nat)) : Int)))) || (decide (100 < (((z2 : Nat)) : Int)))))) (v := (.i .i64 (((rows.length : Nat)) : Int))) (wf rfl) (fun he => (r_lenOf (cond_pos he) ((hrp _ hH4.top1.fst).lenOf rfl) (hrp _ hH4.top1.fst).isSl)) ?_
  refine O_gx (e := (!(((decide (100 < (((z0 : Nat)) : Int))) || (decide (100 < (((z1 : Nat)) : Int)))) || (decide (100 < (((z2 : Nat)) : Int)))))) (v := (.b (decide (40 < (((rows.length : Nat)) : Int))))) (wf rfl) (fun he => (r_gtr (cond_pos he) rfl)) ?_
  refine O_p (.b ((((decide (100 < (((z0 : Nat)) : Int))) || (decide (100 < (((z1 : Nat)) : Int)))) || (decide (100 < (((z2 : Nat)) : Int)))) || (decide (40 < (((rows.length : Nat)) : Int))))) (r_pick_or rfl rfl rfl rfl) ?_
  refine O_p (.b ((((decide (100 < (((z0 : Nat)) : Int))) || (decide (100 < (((z1 : Nat)) : Int)))) || (decide (100 < (((z2 : Nat)) : Int)))) || (decide (40 < (((rows.length : Nat)) : Int))))) (r_mv rfl) ?_
  refine O_gx (e := (!((((decide (100 < (((z0 : Nat)) : Int))) || (decide (100 < (((z1 : Nat)) : Int)))) || (decide (100 < (((z2 : Nat)) : Int)))) || (decide (40 < (((rows.length : Nat)) : Int)))))) (v := (.p (some (n1, 11)))) (wf rfl) (fun he => (r_fadd' rfl rfl)) ?_
  refine O_gx (e := (!((((decide (100 < (((z0 : Nat)) : Int))) || (decide (100 < (((z1 : Nat)) : Int)))) || (decide (100 < (((z2 : Nat)) : Int)))) || (decide (40 < (((rows.length : Nat)) : Int)))))) (v := (.sl b3 z3 c3 g3)) (wf rfl) (fun he => (r_ld (cond_pos he) hH4.get0 rfl)) ?_
  refine O_gx (e := (!((((decide (100 < (((z0 : Nat)) : Int))) || (decide (100 < (((z1 : Nat)) : Int)))) || (decide (100 < (((z2 : Nat)) : Int)))) || (decide (40 < (((rows.length : Nat)) : Int)))))) (v := (.i .i64 (((z3 : Nat)) : Int))) (wf rfl) (fun he => (r_len (cond_pos he))) ?_
  refine O_gx (e := (!((((decide (100 < (((z0 : Nat)) : Int))) || (decide (100 < (((z1 : Nat)) : Int)))) || (decide (100 < (((z2 : Nat)) : Int)))) || (decide (40 < (((rows.length : Nat)) : Int)))))) (v := (.b (decide (2000 < (((z3 : Nat)) : Int))))) (wf rfl) (fun he => (r_gtr (cond_pos he) rfl)) ?_
  refine O_p (.b (((((decide (100 < (((z0 : Nat)) : Int))) || (decide (100 < (((z1 : Nat)) : Int)))) || (decide (100 < (((z2 : Nat)) : Int)))) || (decide (40 < (((rows.length : Nat)) : Int)))) || (decide (2000 < (((z3 : Nat)) : Int))))) (r_pick_or rfl rfl rfl rfl) ?_
  refine O_nil ?_
  refine C_cond (x := (((((decide (100 < (((z0 : Nat)) : Int))) || (decide (100 < (((z1 : Nat)) : Int)))) || (decide (100 < (((z2 : Nat)) : Int)))) || (decide (40 < (((rows.length : Nat)) : Int)))) || (decide (2000 < (((z3 : Nat)) : Int))))) rfl (fun hc5 => ?_) (fun hc5 => ?_)
  ·
    try simp only [decide_eq_true_eq, decide_eq_false_iff_not, Bool.not_eq_true', Bool.not_eq_false', Bool.and_eq_true, Bool.or_eq_true, Bool.or_eq_false_iff, Bool.not_not, Bool.and_eq_false_iff] at hc5
    refine C_seq ?_
    refine C_region ?_
    refine O_p (.b false) (r_mv rfl) ?_
    refine O_nil ?_
    refine C_ret ?_
    refine nx_ret ?_
    have hH6 := (hH4.sub0)
    exact ⟨.inr rfl, _, resL_one (r_tmp (v := (.b false)) rfl), _, rfl, (fun h => by cases h), hH6⟩
  ·
    try simp only [decide_eq_true_eq, decide_eq_false_iff_not, Bool.not_eq_true', Bool.not_eq_false', Bool.and_eq_true, Bool.or_eq_true, Bool.or_eq_false_iff, Bool.not_not, Bool.and_eq_false_iff] at hc5
    refine C_skip ?_
    refine C_seq ?_
    refine C_seq ?_
    refine C_region ?_
    refine O_p (.i .i64 0) (r_mv rfl) ?_
    refine O_nil ?_
    refine C_block ?_
    have hH7 := ((hH4.top1).top1)
    refine C_while (fun m8 T9 H10 => ∃ i : Nat, m8 = rows.length - i ∧ i ≤ rows.length ∧ Hs H10 ([(n1, some (.cells ([y0, y1, y2, y3, y4, y5, y6, (.sl b0 z0 c0 g0), (.sl b1 z1 c1 g1), (.sl b2 z2 c2 g2), pa, (.sl b3 z3 c3 g3)]) true))] ++ (B ++ (R))) ∧ T9.get 1 = (.p (some (n1, 0))) ∧ T9.get 2 = (.b false) ∧ T9.get 3 = (.i .i64 (((i : Nat)) : Int))) (fun m8 T9 H10 hI11 => ?_) rows.length _ _ ⟨0, rfl, Nat.zero_le _, hH7, rfl, rfl, rfl⟩
    obtain ⟨i, hm12, hp13, hH17, hT14, hT15, hT16⟩ := hI11
    refine C_seq ?_
    refine C_seq ?_
    refine C_region ?_
    refine O_p (.i .i64 (((i : Nat)) : Int)) (r_mv hT16) ?_
    refine O_p (.p (some (n1, 10))) (r_fadd' hT14 rfl) ?_
    refine O_p pa (r_ld rfl hH17.get0 rfl) ?_
    refine O_p (.i .i64 (((rows.length : Nat)) : Int)) (r_lenOf rfl ((hrp _ hH17.top1.fst).lenOf rfl) (hrp _ hH17.top1.fst).isSl) ?_
    refine O_p (.b (decide ((((i : Nat)) : Int) < (((rows.length : Nat)) : Int)))) (r_lss rfl rfl) ?_
    refine O_nil ?_
    refine C_cond (x := (decide ((((i : Nat)) : Int) < (((rows.length : Nat)) : Int)))) rfl (fun hc18 => ?_) (fun hc18 => ?_)
    ·
      try simp only [decide_eq_true_eq, decide_eq_false_iff_not, Bool.not_eq_true', Bool.not_eq_false', Bool.and_eq_true, Bool.or_eq_true, Bool.or_eq_false_iff, Bool.not_not, Bool.and_eq_false_iff] at hc18
      refine C_skip ?_
      refine C_seq ?_
      refine C_block ?_
      refine C_seq ?_
      refine C_region ?_
      refine O_p (.p (some (n1, 10))) (r_fadd' hT14 rfl) ?_
      refine O_p pa (r_ld rfl hH17.get0 rfl) ?_
      refine O_p (.i .i64 (((i : Nat)) : Int)) (r_mv hT16) ?_
      obtain ⟨y, a, n, c, g, hre⟩ := hpr _ _ (List.getElem?_eq_getElem (by omega : i < rows.length))
      have hrow : rows[i]? = some [y, .sl a n c g] := by rw [← hre]; exact List.getElem?_eq_getElem (by omega)
      refine O_q (by exact Rw.row (hrp _ hH17.top1.fst) rfl (i := i) rfl (r := [y, (.sl a n c g)]) hrow) fun v20 hv19 => ?_
      obtain ⟨rb21, ro22, rfl, hr23⟩ := hv19
      refine O_p (.p (some (rb21, (ro22 + 1)))) (r_fadd' rfl rfl) ?_
      refine O_p (.sl a n c g) (r_ldR (q := 1) rfl (hr23 _ (hrp _ hH17.top1.fst)) rfl) ?_
      refine O_p (.i .i64 (((n : Nat)) : Int)) (r_len rfl) ?_
      refine O_p (.b (decide (1300 < (((n : Nat)) : Int)))) (r_gtr rfl rfl) ?_
      refine O_nil ?_
      refine C_cond (x := (decide (1300 < (((n : Nat)) : Int)))) rfl (fun hc24 => ?_) (fun hc24 => ?_)
      ·
        try simp only [decide_eq_true_eq, decide_eq_false_iff_not, Bool.not_eq_true', Bool.not_eq_false', Bool.and_eq_true, Bool.or_eq_true, Bool.or_eq_false_iff, Bool.not_not, Bool.and_eq_false_iff] at hc24
        refine C_seq ?_
        refine C_region ?_
        refine O_p (.b false) (r_mv rfl) ?_
        refine O_nil ?_
        refine C_ret ?_
        refine bk_ret ?_
        refine nx_ret ?_
        refine nx_ret ?_
        refine bk_ret ?_
        refine nx_ret ?_
        have hH25 := (hH17.sub0)
        exact ⟨.inr rfl, _, resL_one (r_tmp (v := (.b false)) rfl), _, rfl, (fun h => by cases h), hH25⟩
      ·
        try simp only [decide_eq_true_eq, decide_eq_false_iff_not, Bool.not_eq_true', Bool.not_eq_false', Bool.and_eq_true, Bool.or_eq_true, Bool.or_eq_false_iff, Bool.not_not, Bool.and_eq_false_iff] at hc24
        refine C_skip ?_
        refine C_region ?_
        refine O_p (.i .i64 (((i : Nat)) : Int)) (r_mv hT16) ?_
        refine O_p (.i .i64 ((((i : Nat)) : Int) + 1)) (by exact (r_addi rfl rfl (wrap_i64 (by omega) (by omega)))) ?_
        refine O_p (.i .i64 ((((i : Nat)) : Int) + 1)) (r_mv rfl) ?_
        refine O_nil ?_
        have hH26 := ((hH17.top1).top1)
        exact ⟨rows.length - (i + 1), by omega, (i + 1), rfl, by omega, hH26, hT14, hT15, rfl⟩
    ·
      try simp only [decide_eq_true_eq, decide_eq_false_iff_not, Bool.not_eq_true', Bool.not_eq_false', Bool.and_eq_true, Bool.or_eq_true, Bool.or_eq_false_iff, Bool.not_not, Bool.and_eq_false_iff] at hc18
      refine C_exit ?_
      refine nx_exit ?_
      refine nx_exit ?_
      refine bk_hit ?_
      refine C_seq ?_
      refine C_region ?_
      refine O_p (.b true) (r_mv rfl) ?_
      refine O_nil ?_
      refine C_ret ?_
      have hH27 := (hH17.sub0)
      exact ⟨.inr rfl, _, resL_one (r_tmp (v := (.b true)) rfl), _, rfl, (fun _ => by omega), hH27⟩
theorem few_ev1 {H : AH} {B R : HL} {r : List AV} (h : FewRow B r) (hH0 : Hs H (B ++ R)) : Ev tabA spA (.fn (.func 12) [] []) [.agg r] H (fun v H' => ∃ b, v = .b b ∧ (b = true → dlen r ≤ 2000) ∧ Hs H' (B ++ R)) := by
  obtain ⟨y0, y1, y2, y3, y4, y5, y6, pa, b0, b1, b2, b3, n0, n1, n2, n3, c0, c1, c2, c3, g0, g1, g2, g3, rfl, rows, h1, h2⟩ := h
  exact few1_ev h1 h2 hH0

theorem few_ev {H : AH} {B R : HL} {v : AV} {rows : List (List AV)} (hrv : ∀ H', Hs H' B → Rw 12 H' v rows) (hfew : ∀ (i : Nat) (r : List AV), rows[i]? = some r → FewRow B r) (hH0 : Hs H (B ++ R)) : Ev tabA spA (.fn (.func 11) [] []) [v] H (fun r H' => ∃ b, r = .b b ∧ (b = true → rows.length ≤ 80 ∧ ∀ (j : Nat) (r : List AV), rows[j]? = some r → dlen r ≤ 2000) ∧ Hs H' (B ++ R)) := by
  refine Ev_C (F := x11) rfl ?_
  refine C_seq ?_
  refine C_region ?_
  refine O_p (.b false) (r_mv rfl) ?_
  refine O_nil ?_
  refine C_seq ?_
  refine C_seq ?_
  refine C_region ?_
  refine O_p v (r_mv rfl) ?_
  refine O_p (.i .i64 (((rows.length : Nat)) : Int)) (r_lenOf rfl ((hrv _ hH0.top0.fst).lenOf rfl) (hrv _ hH0.top0.fst).isSl) ?_
  refine O_p (.b (decide (80 < (((rows.length : Nat)) : Int)))) (r_gtr rfl rfl) ?_
  refine O_nil ?_
  refine C_cond (x := (decide (80 < (((rows.length : Nat)) : Int)))) rfl (fun hc1 => ?_) (fun hc1 => ?_)
  ·
    try simp only [decide_eq_true_eq, decide_eq_false_iff_not, Bool.not_eq_true', Bool.not_eq_false', Bool.and_eq_true, Bool.or_eq_true, Bool.or_eq_false_iff, Bool.not_not, Bool.and_eq_false_iff] at hc1
    refine C_seq ?_
    refine C_region ?_
    refine O_p (.b false) (r_mv rfl) ?_
    refine O_nil ?_
    refine C_ret ?_
    refine nx_ret ?_
    exact ⟨.inr rfl, _, resL_one (r_tmp (v := (.b false)) rfl), _, rfl, (fun h => by cases h), hH0⟩
  ·
    try simp only [decide_eq_true_eq, decide_eq_false_iff_not, Bool.not_eq_true', Bool.not_eq_false', Bool.and_eq_true, Bool.or_eq_true, Bool.or_eq_false_iff, Bool.not_not, Bool.and_eq_false_iff] at hc1
    refine C_skip ?_
    refine C_seq ?_
    refine C_seq ?_
    refine C_region ?_
    refine O_p (.i .i64 0) (r_mv rfl) ?_
    refine O_nil ?_
    refine C_block ?_
    refine C_while (fun m2 T3 H4 => ∃ i : Nat, m2 = rows.length - i ∧ i ≤ rows.length ∧ (∀ (j : Nat) (r : List AV), j < i → rows[j]? = some r → dlen r ≤ 2000) ∧ Hs H4 (B ++ (R)) ∧ T3.get 0 = v ∧ T3.get 2 = (.b false) ∧ T3.get 3 = (.i .i64 (((i : Nat)) : Int))) (fun m2 T3 H4 hI5 => ?_) rows.length _ _ ⟨0, rfl, Nat.zero_le _, fun j r h => absurd h (Nat.not_lt_zero _), hH0, rfl, rfl, rfl⟩
    obtain ⟨i, hm6, hp7, hp8, hH12, hT9, hT10, hT11⟩ := hI5
    refine C_seq ?_
    refine C_seq ?_
    refine C_region ?_
    refine O_p (.i .i64 (((i : Nat)) : Int)) (r_mv hT11) ?_
    refine O_p v (r_mv hT9) ?_
    refine O_p (.i .i64 (((rows.length : Nat)) : Int)) (r_lenOf rfl ((hrv _ hH12.top0.fst).lenOf rfl) (hrv _ hH12.top0.fst).isSl) ?_
    refine O_p (.b (decide ((((i : Nat)) : Int) < (((rows.length : Nat)) : Int)))) (r_lss rfl rfl) ?_
    refine O_nil ?_
    refine C_cond (x := (decide ((((i : Nat)) : Int) < (((rows.length : Nat)) : Int)))) rfl (fun hc13 => ?_) (fun hc13 => ?_)
    ·
      try simp only [decide_eq_true_eq, decide_eq_false_iff_not, Bool.not_eq_true', Bool.not_eq_false', Bool.and_eq_true, Bool.or_eq_true, Bool.or_eq_false_iff, Bool.not_not, Bool.and_eq_false_iff] at hc13
      refine C_skip ?_
      refine C_seq ?_
      refine C_block ?_
      refine C_seq ?_
      refine C_region ?_
      obtain ⟨rr, hrr⟩ : ∃ r, rows[i]? = some r := ⟨_, List.getElem?_eq_getElem (by omega)⟩
      have hfr := hfew _ _ hrr
      have hl12 := (hrv _ hH12.fst).lens (List.mem_of_getElem? hrr)
      refine O_p v (r_mv hT9) ?_
      refine O_p (.i .i64 (((i : Nat)) : Int)) (r_mv hT11) ?_
      refine O_q (by exact Rw.row (hrv _ hH12.top0.fst) rfl (i := i) rfl (r := rr) hrr) fun v15 hv14 => ?_
      obtain ⟨rb16, ro17, rfl, hr18⟩ := hv14
      refine O_p (.agg rr) (by exact (by exact r_ldRA (q := 0) rfl (hr18 _ (hrv _ hH12.top0.fst)) (by rw [takeAt_ok (by omega), List.drop_zero, List.take_of_length_le (by omega)]))) ?_
      refine O_call (Ev.mono (few_ev1 (r := rr) hfr hH12) fun v19 H20 hq21 => ?_)
      obtain ⟨b22, rfl, hb23, hH24⟩ := hq21
      have hfb : b22 = true → dlen rr ≤ 2000 := hb23
      refine O_p (.b (!b22)) (r_not rfl) ?_
      refine O_nil ?_
      refine C_cond (x := (!b22)) rfl (fun hc25 => ?_) (fun hc25 => ?_)
      ·
        try simp only [decide_eq_true_eq, decide_eq_false_iff_not, Bool.not_eq_true', Bool.not_eq_false', Bool.and_eq_true, Bool.or_eq_true, Bool.or_eq_false_iff, Bool.not_not, Bool.and_eq_false_iff] at hc25
        refine C_seq ?_
        refine C_region ?_
        refine O_p (.b false) (r_mv rfl) ?_
        refine O_nil ?_
        refine C_ret ?_
        refine bk_ret ?_
        refine nx_ret ?_
        refine nx_ret ?_
        refine bk_ret ?_
        refine nx_ret ?_
        exact ⟨.inr rfl, _, resL_one (r_tmp (v := (.b false)) rfl), _, rfl, (fun h => by cases h), hH24⟩
      ·
        try simp only [decide_eq_true_eq, decide_eq_false_iff_not, Bool.not_eq_true', Bool.not_eq_false', Bool.and_eq_true, Bool.or_eq_true, Bool.or_eq_false_iff, Bool.not_not, Bool.and_eq_false_iff] at hc25
        refine C_skip ?_
        refine C_region ?_
        refine O_p (.i .i64 (((i : Nat)) : Int)) (r_mv hT11) ?_
        refine O_p (.i .i64 ((((i : Nat)) : Int) + 1)) (by exact (r_addi rfl rfl (wrap_i64 (by omega) (by omega)))) ?_
        refine O_p (.i .i64 ((((i : Nat)) : Int) + 1)) (r_mv rfl) ?_
        refine O_nil ?_
        have hall : ∀ (j : Nat) (r : List AV), j < i + 1 → rows[j]? = some r → dlen r ≤ 2000 := by
          intro j r hj hr
          by_cases hji : j < i
          · exact hp8 j r hji hr
          · have e : j = i := by omega
            subst e
            rw [hrr] at hr; cases hr
            exact hfb (by simpa using hc25)
        exact ⟨rows.length - (i + 1), by omega, (i + 1), rfl, by omega, hall, hH24, hT9, hT10, rfl⟩
    ·
      try simp only [decide_eq_true_eq, decide_eq_false_iff_not, Bool.not_eq_true', Bool.not_eq_false', Bool.and_eq_true, Bool.or_eq_true, Bool.or_eq_false_iff, Bool.not_not, Bool.and_eq_false_iff] at hc13
      refine C_exit ?_
      refine nx_exit ?_
      refine nx_exit ?_
      refine bk_hit ?_
      refine C_seq ?_
      refine C_region ?_
      refine O_p (.b true) (r_mv rfl) ?_
      refine O_nil ?_
      refine C_ret ?_
      exact ⟨.inr rfl, _, resL_one (r_tmp (v := (.b true)) rfl), _, rfl, fun _ => ⟨by omega, fun j r hr => hp8 j r (by have := (List.getElem?_eq_some_iff.1 hr).1; omega) hr⟩, hH12⟩
end Go.Proofs.Ytadloppgokobeaa.E
