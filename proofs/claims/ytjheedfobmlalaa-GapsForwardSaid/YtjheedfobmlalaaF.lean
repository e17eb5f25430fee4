/- Forward. It bears no condition. -/
import Derived.Test.YtjheedfobmlalaaL
namespace Go.Proofs.Ytjheedfobmlalaa.E
set_option linter.unusedVariables false
set_option linter.unusedSimpArgs false
theorem fwd_ev {H : AH} {R : HL} {s : Gp} {a : Nat} {S : HL} {n : Int} (hG : GpH s a S) (hH0 : Hs H (S ++ R)) : Ev tabS spA (.fn (.func 20) [] []) [.p (some (a, 0)), .i .u32 n] H (fun r H' => r = .tup [] ∧ ∃ S', GpH (s.fwd n) a S' ∧ Hs H' (S' ++ R)) := by
  obtain ⟨m, mb, dv, dc, hb, hd, rfl⟩ := hG
  obtain ⟨c, l, dl⟩ := s
  simp only at hb hd
  replace hH0 := hH0.assoc
  replace hH0 := hH0.assoc1
  refine Ev_C (F := x20) rfl ?_
  refine C_seq ?_
  refine C_region ?_
  refine O_box (z := [(.p (some (a, 0)))]) rfl fun n1 H2 hN3 => ?_
  have hH4 := hH0.new hN3
  refine O_nil ?_
  refine C_seq ?_
  refine C_seq ?_
  refine C_region ?_
  refine O_p (.p (some (a, 0))) (r_ld rfl hH4.get0 rfl) ?_
  refine O_p (.b false) (r_nilq_s rfl) ?_
  refine O_p (.b false) (r_mv rfl) ?_
  refine O_gk rfl ?_
  refine O_p (.p (some (a, 0))) (r_ld rfl hH4.get0 rfl) ?_
  refine O_gk rfl ?_
  refine O_p (.i .u32 n) (r_mv rfl) ?_
  refine O_gk rfl ?_
  have hH5 := (hH4.top1)
  refine O_call (Ev.mono (below_ev (n := n) hH5).sp fun v6 H7 hq8 => ?_)
  obtain ⟨rfl, hH9⟩ := hq8
  refine O_p (.b (blw c n)) (r_pick_f rfl rfl) ?_
  refine O_nil ?_
  refine C_cond (x := (blw c n)) rfl (fun hc10 => ?_) (fun hc10 => ?_)
  ·
    have hbl : blw c n = true := by rw [hc10]
    refine C_ret ?_
    refine nx_ret ?_
    have hH11 := (hH9.sub1)
    have hH12 := (((hH11.top2).top2).top2)
    have hst : Gp.fwd ⟨c, l, dl⟩ n = ⟨c, l, dl⟩ := by unfold Gp.fwd; rw [if_pos hbl]
    rw [hst]
    exact ⟨.inr rfl, [], rfl, rfl, _, ⟨m, _, _, _, hb, hd, rfl⟩, Hs.unc hH12⟩
  ·
    have hbl : ¬ blw c n = true := by rw [hc10]; decide
    refine C_skip ?_
    refine C_seq ?_
    refine C_region ?_
    refine O_p (.p (some (a, 0))) (r_ld rfl hH9.get1 rfl) ?_
    refine O_p (.i .u32 n) (r_mv rfl) ?_
    refine O_p (.p (some (a, 0))) (r_nilc rfl) ?_
    refine O_p (.p (some (a, 0))) (r_fadd' rfl rfl) ?_
    refine O_store (vs := [(.i .u32 n)]) (c' := [(.i .u32 n), (.m (some m)), dv]) rfl (by rfl) hH9.get0 rfl (List.cons_ne_nil _ _) (Nat.le_of_ble_eq_true rfl) rfl fun H13 hW14 => ?_
    have hH15 := hH9.wr0 hW14
    refine O_nil ?_
    refine C_seq ?_
    refine C_region ?_
    refine O_p (.p (some (a, 0))) (r_ld rfl hH15.get1 rfl) ?_
    refine O_p (.p (some (a, 0))) (r_nilc rfl) ?_
    refine O_p (.p (some (a, 1))) (r_fadd' rfl rfl) ?_
    refine O_p (.m (some m)) (r_ld rfl hH15.get0 rfl) ?_
    refine O_p (.fn (.func 35) [] [(.p (some (n1, 0)))]) rfl ?_
    have hH16 := (((hH15.top2).top1).top2)
    refine O_call (Ev.mono (del_ev hb hH16) fun v17 H18 hq19 => ?_)
    obtain ⟨rfl, bm20, hbm21, hH22⟩ := hq19
    refine O_nil ?_
    refine C_region ?_
    refine O_p (.p (some (a, 0))) (r_ld rfl hH22.get0 rfl) ?_
    have hH23 := ((hH22.top2).top2)
    refine O_call (Ev.mono (climb0_ev hbm21 hH23).sp fun v24 H25 hq26 => ?_)
    obtain ⟨rfl, bm27, hbm28, hH29⟩ := hq26
    refine O_nil ?_
    have hH30 := (hH29.sub2)
    have hH31 := (((hH30.top2).top2).top2)
    have hst : Gp.fwd ⟨c, l, dl⟩ n = Gp.climb ⟨n, l.filter (fun k => !blw n k), dl⟩ := by unfold Gp.fwd; rw [if_neg hbl]
    rw [hst]
    exact ⟨.inl rfl, [], rfl, rfl, _, ⟨m, _, _, _, hbm28, hd, rfl⟩, Hs.unc hH31⟩
end Go.Proofs.Ytjheedfobmlalaa.E
