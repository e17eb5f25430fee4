/- TopicPlays, for every input, without conditions. -/
import Derived.Test.YtnkpmidfefilbaaC7
import Derived.Test.YtnkpmidfefilbaaRows
import Derived.ProofKit
import Derived.OpenShut
namespace Go.Proofs.Ytnkpmidfefilbaa.E
open Go.RowKit (Below)
set_option linter.unusedVariables false
set_option linter.unusedSimpArgs false
set_option maxRecDepth 100000 in
set_option maxHeartbeats 4000000 in
theorem run8 (H0 : AH) (hok0 : H0.Ok) (pn room : Int) (v : AV) (rows : List (List AV)) (ol : List Op9) (hv : ∀ H', Hs H' (allL H0) → Rw 6 H' v rows) (hops : OpsR (allL H0) rows ol) : Ev tabA spA (.fn (.func 8) [] []) [.i .i64 pn, .i .i64 room, v] H0 (fun v _ => v = .b true) := by
  have hH0 := allL_hs hok0
  refine Ev_C (F := x8) rfl ?_
  refine C_seq ?_
  refine C_region ?_
  refine O_p (.b false) (r_mv rfl) ?_
  refine O_nil ?_
  refine C_seq ?_
  refine C_region ?_
  refine O_call (Ev_sp (v := (.b true)) rfl rfl ?_)
  refine O_p (.b true) (r_mv rfl) ?_
  refine O_nil ?_
  refine C_seq ?_
  refine C_seq ?_
  refine C_region ?_
  refine O_p v (r_mv rfl) ?_
  refine O_call (Ev.mono (fewO_ev hv hops hH0) fun v1 H2 hq3 => ?_)
  obtain ⟨fb, rfl, hfw, hH4⟩ := hq3
  refine O_p (.b (!fb)) (r_not rfl) ?_
  refine O_nil ?_
  refine C_cond (x := (!fb)) rfl (fun hc5 => ?_) (fun hc5 => ?_)
  ·
    try simp only [decide_eq_true_eq, decide_eq_false_iff_not, Bool.not_eq_true', Bool.not_eq_false', Bool.and_eq_true, Bool.or_eq_true, Bool.or_eq_false_iff, Bool.not_not, Bool.and_eq_false_iff] at hc5
    have hfb : fb = false := by simpa using hc5
    subst hfb
    refine C_seq ?_
    refine C_region ?_
    refine O_p (.b true) (r_mv rfl) ?_
    refine O_p (.b true) (r_mv rfl) ?_
    refine O_nil ?_
    refine C_ret ?_
    refine nx_ret ?_
    exact ⟨.inr rfl, _, resL_one (r_tmp (v := .b true) rfl), rfl⟩
  ·
    try simp only [decide_eq_true_eq, decide_eq_false_iff_not, Bool.not_eq_true', Bool.not_eq_false', Bool.and_eq_true, Bool.or_eq_true, Bool.or_eq_false_iff, Bool.not_not, Bool.and_eq_false_iff] at hc5
    have hfb : fb = true := by simpa using hc5
    subst hfb
    refine C_skip ?_
    refine C_seq ?_
    refine C_region ?_
    refine O_p (.i .i64 pn) (r_mv rfl) ?_
    refine O_p (.i .i64 room) (r_mv rfl) ?_
    refine O_call (Ev.mono (newg_ev (pn := pn) (room := room) hH4) fun v6 H7 hq8 => ?_)
    obtain ⟨F9, Lb10, cm11, rfl, hH12⟩ := hq8
    obtain ⟨L0, hR0, hH13⟩ := rl_new hH12
    refine O_p (.p (some (F9, 0))) (r_mv rfl) ?_
    refine O_nil ?_
    refine C_seq ?_
    refine C_region ?_
    refine O_p (.i .i64 pn) (r_mv rfl) ?_
    refine O_p (.i .i64 room) (r_mv rfl) ?_
    refine O_call (Ev.mono (rnew_ev (pn := pn) (room := room) hH13) fun v14 H15 hq16 => ?_)
    obtain ⟨F17, Pb18, rfl, hH19⟩ := hq16
    obtain ⟨T0, hT0, hH20⟩ := rr_new (B := (allL H0)) hH19
    refine O_p (.p (some (F17, 0))) (r_mv rfl) ?_
    refine O_nil ?_
    refine C_seq ?_
    refine C_seq ?_
    refine C_region ?_
    refine O_p (.i .i64 0) (r_mv rfl) ?_
    refine O_nil ?_
    refine C_block ?_
    have hH21 := (((hH20.top2).top1).top2)
    have hH22 := (Hs.addnil hH21 : Hs _ (([] : HL) ++ _))
    have hH23 := ((((hH22.top3).top3).top2).top3)
    have hI0 : Re.inv 0 ⟨List.replicate (clampP pn) pa0, clampR room, []⟩ := ⟨fun a ha => by rw [List.eq_of_mem_replicate ha]; exact pa0_inv _ _, fun c hc => (by cases hc), clampR_le room, by rw [List.length_replicate]; exact (clampP_le pn).2⟩
    have hS0 : Re.okS 0 ⟨List.replicate (clampP pn) pa0, clampR room, []⟩ := ⟨fun a ha => by rw [List.eq_of_mem_replicate ha]; exact ⟨Sdn.nil, Nat.zero_le _⟩, Nat.le_refl _⟩
    refine C_while (fun m24 T25 H26 => ∃ s : Re, ∃ L : HL, ∃ D : HL, ∃ T : HL, ∃ i : Nat, m24 = ol.length - i ∧ i ≤ ol.length ∧ Rl F9 s D L ∧ Rr F17 s (allL H0) T ∧ s.inv i ∧ s.okS i ∧ ol.length ≤ 150 ∧ Hs H26 (L ++ (D ++ (T ++ ((allL H0) ++ ([]))))) ∧ T25.get 2 = v ∧ T25.get 7 = (.b true) ∧ T25.get 8 = (.p (some (F9, 0))) ∧ T25.get 9 = (.p (some (F17, 0))) ∧ T25.get 10 = (.i .i64 (((i : Nat)) : Int))) (fun m24 T25 H26 hI27 => ?_) ol.length _ _ ⟨⟨List.replicate (clampP pn) pa0, clampR room, []⟩, L0, [], T0, 0, rfl, Nat.zero_le _, hR0, hT0, hI0, hS0, hfw rfl, hH23, rfl, rfl, rfl, rfl, rfl⟩
    obtain ⟨s, L, D, T, i, hm28, hp29, hp30, hp31, hp32, hp33, hp34, hH40, hT35, hT36, hT37, hT38, hT39⟩ := hI27
    refine C_seq ?_
    refine C_seq ?_
    refine C_region ?_
    refine O_p (.i .i64 (((i : Nat)) : Int)) (r_mv hT39) ?_
    refine O_p v (r_mv hT35) ?_
    refine O_p (.i .i64 (((ol.length : Nat)) : Int)) (r_lenOf (v := v) (n := ol.length) rfl ((hv _ hH40.top3.fst).lenOf hops.1) (hv _ hH40.top3.fst).isSl) ?_
    refine O_p (.b (decide ((((i : Nat)) : Int) < (((ol.length : Nat)) : Int)))) (r_lss rfl rfl) ?_
    refine O_nil ?_
    refine C_cond (x := (decide ((((i : Nat)) : Int) < (((ol.length : Nat)) : Int)))) rfl (fun hc41 => ?_) (fun hc41 => ?_)
    ·
      try simp only [decide_eq_true_eq, decide_eq_false_iff_not, Bool.not_eq_true', Bool.not_eq_false', Bool.and_eq_true, Bool.or_eq_true, Bool.or_eq_false_iff, Bool.not_not, Bool.and_eq_false_iff] at hc41
      refine C_skip ?_
      refine C_seq ?_
      refine C_block ?_
      refine C_seq ?_
      refine C_seq ?_
      refine C_region ?_
      have hil : i < ol.length := by omega
      obtain ⟨o, ri, hoi, hri, hor⟩ := hops.get hil
      have hor2 := hor
      obtain ⟨oa, oc, rfl, hoc, hom, hob⟩ := hor2
      refine O_p (.p (some (F9, 0))) (r_mv hT37) ?_
      refine O_p (.p (some (F17, 0))) (r_mv hT38) ?_
      refine O_p v (r_mv hT35) ?_
      refine O_p (.i .i64 (((i : Nat)) : Int)) (r_mv hT39) ?_
      refine O_q (by exact Rw.row (hv _ hH40.top3.fst) rfl (i := i) rfl (r := [(.i .i64 o.what), (.i .i64 o.p), (.i .i64 o.mode), (.s (txt o.tp)), (.b o.tx), (.sl oa o.d.length oc 0)]) hri) fun v43 hv42 => ?_
      obtain ⟨rb44, ro45, rfl, hr46⟩ := hv42
      refine O_p (.agg [(.i .i64 o.what), (.i .i64 o.p), (.i .i64 o.mode), (.s (txt o.tp)), (.b o.tx), (.sl oa o.d.length oc 0)]) (r_ldRA (q := 0) rfl (hr46 _ (hv _ hH40.top3.fst)) rfl) ?_
      have hH47 := ((((hH40.top3).top3).top3).top3)
      have hH48 := ((((hH47.top3).top3).top3).top3)
      refine O_call (Ev.mono (step_ev hp30 hp31 hp32 hp33 (by omega) hor hH48) fun v49 H50 hq51 => ?_)
      obtain ⟨s2, hs2⟩ : ∃ z, z = Re.step s o := ⟨_, rfl⟩
      rw [← hs2] at hq51
      obtain ⟨L2, D2, T2, rfl, hR2, hT2, hH2⟩ := hq51
      have hI2 : s2.inv (i + 1) := by rw [hs2]; exact hp32.step
      have hS2 : s2.okS (i + 1) := by rw [hs2]; exact hp33.step
      refine O_p (.b false) (r_un rfl rfl) ?_
      refine O_nil ?_
      refine C_cond (x := false) rfl (fun h => by cases h) (fun _ => ?_)
      refine C_skip ?_
      refine C_seq ?_
      refine C_region ?_
      refine O_p (.p (some (F17, 0))) (r_mv hT38) ?_
      refine O_p v (r_mv hT35) ?_
      refine O_p (.i .i64 (((i : Nat)) : Int)) (r_mv hT39) ?_
      refine O_q (by exact Rw.row (hv _ hH2.top3.fst) rfl (i := i) rfl (r := [(.i .i64 o.what), (.i .i64 o.p), (.i .i64 o.mode), (.s (txt o.tp)), (.b o.tx), (.sl oa o.d.length oc 0)]) hri) fun v53 hv52 => ?_
      obtain ⟨rb54, ro55, rfl, hr56⟩ := hv52
      refine O_p (.p (some (rb54, (ro55 + 1)))) (r_fadd' rfl rfl) ?_
      refine O_p (.i .i64 o.p) (r_ldR (q := 1) rfl (hr56 _ (hv _ hH2.top3.fst)) rfl) ?_
      have hH57 := (hH2.top2)
      refine O_call (Ev.mono (rr_of (n := o.p) hT2 hH57) fun v58 H59 hq60 => ?_)
      obtain ⟨ofb, ofs, ofw, rfl, hwl, hws, hss, hH61⟩ := hq60
      refine O_alloc fun n62 H63 hN64 => ?_
      have hH65 := hH61.new hN64
      refine O_store (vs := [(.b ofb), ofs, ofw, (.i .i64 ((((s2.lostOf o.p) : Nat)) : Int))]) (c' := [(.b ofb), ofs, ofw, (.i .i64 ((((s2.lostOf o.p) : Nat)) : Int))]) rfl (by rfl) hH65.get0 rfl (List.cons_ne_nil _ _) (Nat.le_of_ble_eq_true rfl) rfl fun H66 hW67 => ?_
      have hH68 := hH65.wr0 hW67
      refine O_nil ?_
      refine C_seq ?_
      refine C_draw fun b69 H70 hbase71 hA72 => ?_
      have hH73 := hH68.keep (by have := hA72.1; omega) (fun q _ => hA72.2 q) ((hH68.old).aside hA72).ok
      refine D_l (v := (.p (some (F9, 0)))) rfl rfl rfl (r_mv hT37) ?_
      refine D_l (v := v) rfl rfl rfl (r_mv hT35) ?_
      refine D_l (v := (.i .i64 (((i : Nat)) : Int))) rfl rfl rfl (r_mv hT39) ?_
      refine D_q rfl rfl rfl (by exact Rw.row (hv _ hH73.top4.fst) rfl (i := i) rfl (r := [(.i .i64 o.what), (.i .i64 o.p), (.i .i64 o.mode), (.s (txt o.tp)), (.b o.tx), (.sl oa o.d.length oc 0)]) hri) fun v75 hv74 => ?_
      obtain ⟨rb76, ro77, rfl, hr78⟩ := hv74
      refine D_l (v := (.p (some (rb76, (ro77 + 1))))) rfl rfl rfl (r_fadd' rfl rfl) ?_
      refine D_l (v := v) rfl rfl rfl (r_mv hT35) ?_
      refine D_l (v := (.i .i64 (((i : Nat)) : Int))) rfl rfl rfl (r_mv hT39) ?_
      refine D_q rfl rfl rfl (by exact Rw.row (hv _ hH73.top4.fst) rfl (i := i) rfl (r := [(.i .i64 o.what), (.i .i64 o.p), (.i .i64 o.mode), (.s (txt o.tp)), (.b o.tx), (.sl oa o.d.length oc 0)]) hri) fun v80 hv79 => ?_
      obtain ⟨rb81, ro82, rfl, hr83⟩ := hv79
      refine D_l (v := (.p (some (rb81, (ro82 + 3))))) rfl rfl rfl (r_fadd' rfl rfl) ?_
      refine D_l (v := (.p (some (F17, 0)))) rfl rfl rfl (r_mv hT38) ?_
      refine D_l (v := v) rfl rfl rfl (r_mv hT35) ?_
      refine D_l (v := (.i .i64 (((i : Nat)) : Int))) rfl rfl rfl (r_mv hT39) ?_
      refine D_q rfl rfl rfl (by exact Rw.row (hv _ hH73.top4.fst) rfl (i := i) rfl (r := [(.i .i64 o.what), (.i .i64 o.p), (.i .i64 o.mode), (.s (txt o.tp)), (.b o.tx), (.sl oa o.d.length oc 0)]) hri) fun v85 hv84 => ?_
      obtain ⟨rb86, ro87, rfl, hr88⟩ := hv84
      refine D_l (v := (.p (some (rb86, (ro87 + 1))))) rfl rfl rfl (r_fadd' rfl rfl) ?_
      refine D_l (v := v) rfl rfl rfl (r_mv hT35) ?_
      refine D_l (v := (.i .i64 (((i : Nat)) : Int))) rfl rfl rfl (r_mv hT39) ?_
      refine D_q rfl rfl rfl (by exact Rw.row (hv _ hH73.top4.fst) rfl (i := i) rfl (r := [(.i .i64 o.what), (.i .i64 o.p), (.i .i64 o.mode), (.s (txt o.tp)), (.b o.tx), (.sl oa o.d.length oc 0)]) hri) fun v90 hv89 => ?_
      obtain ⟨rb91, ro92, rfl, hr93⟩ := hv89
      refine D_l (v := (.p (some (rb91, (ro92 + 3))))) rfl rfl rfl (r_fadd' rfl rfl) ?_
      refine D_r (v := (.i .i64 o.p)) rfl rfl rfl (r_ldR (q := 1) rfl (hr78 _ (hv _ hH73.top4.fst)) rfl) ?_
      refine D_r (v := (.s (txt o.tp))) rfl rfl rfl (r_ldR (q := 3) rfl (hr83 _ (hv _ hH73.top4.fst)) rfl) ?_
      refine D_r (v := (.i .i64 o.p)) rfl rfl rfl (r_ldR (q := 1) rfl (hr88 _ (hv _ hH73.top4.fst)) rfl) ?_
      refine D_r (v := (.s (txt o.tp))) rfl rfl rfl (r_ldR (q := 3) rfl (hr93 _ (hv _ hH73.top4.fst)) rfl) ?_
      have hH94 := (hH73.top2)
      refine D_call (Ev.mono (rl_failed hR2 hH94) fun v95 H96 hq97 => ?_)
      obtain ⟨L98, rfl, hR99, hH100⟩ := hq97
      refine And.intro (And.intro (Or.inr (look_run rfl rfl (r_ldR (q := 3) rfl (hr93 _ (hv _ hH100.top4.fst)) rfl))) (And.intro (Or.inr (look_run rfl rfl (r_ldR (q := 1) rfl (hr88 _ (hv _ hH100.top4.fst)) rfl))) (And.intro (Or.inl rfl) (And.intro (Or.inl rfl) True.intro)))) ?_
      have hH101 := (hH100.top2)
      refine D_call (Ev.mono (rr_failed hT2 hS2 hH101) fun v102 H103 hq104 => ?_)
      obtain ⟨T105, rfl, hT106, hH107⟩ := hq104
      refine And.intro (And.intro (Or.inl rfl) (And.intro (Or.inl rfl) True.intro)) ?_
      refine D_l (v := (.b false)) rfl rfl rfl (r_bneqq rfl rfl) ?_
      refine D_l (v := (.b false)) rfl rfl rfl (r_mv rfl) ?_
      refine D_gk rfl ?_
      refine D_l (v := (.p (some (F9, 0)))) rfl rfl rfl (r_mv hT37) ?_
      refine D_gk rfl ?_
      refine D_l (v := v) rfl rfl rfl (r_mv hT35) ?_
      refine D_gk rfl ?_
      refine D_l (v := (.i .i64 (((i : Nat)) : Int))) rfl rfl rfl (r_mv hT39) ?_
      refine D_gk rfl ?_
      refine D_q rfl rfl rfl (by exact Rw.row (hv _ hH107.top4.fst) rfl (i := i) rfl (r := [(.i .i64 o.what), (.i .i64 o.p), (.i .i64 o.mode), (.s (txt o.tp)), (.b o.tx), (.sl oa o.d.length oc 0)]) hri) fun v109 hv108 => ?_
      obtain ⟨rb110, ro111, rfl, hr112⟩ := hv108
      refine D_gk rfl ?_
      refine D_l (v := (.p (some (rb110, (ro111 + 1))))) rfl rfl rfl (r_fadd' rfl rfl) ?_
      refine D_gk rfl ?_
      refine D_l (v := (.p (some (n62, 3)))) rfl rfl rfl (r_fadd' rfl rfl) ?_
      refine D_gk rfl ?_
      refine D_r (v := (.i .i64 o.p)) rfl rfl rfl (r_ldR (q := 1) rfl (hr112 _ (hv _ hH107.top4.fst)) rfl) ?_
      refine D_gk rfl ?_
      refine D_r (v := (.i .i64 ((((s2.lostOf o.p) : Nat)) : Int))) rfl rfl rfl (r_ld rfl hH107.get2 rfl) ?_
      refine D_gk rfl ?_
      have hH113 := (hH107.top1)
      refine D_call (Ev.mono (rl_lost hR99 hH113) fun v114 H115 hq116 => ?_)
      obtain ⟨L117, rfl, hR118, hH119⟩ := hq116
      refine And.intro (And.intro (Or.inr (look_run rfl rfl (r_ld rfl hH119.get2 rfl))) (And.intro (Or.inl rfl) True.intro)) ?_
      refine D_gk rfl ?_
      refine D_l (v := (.b false)) rfl rfl rfl (r_nqq rfl rfl) ?_
      refine D_l (v := (.b false)) rfl rfl rfl (r_pick_f rfl rfl) ?_
      refine D_l (v := (.b false)) rfl rfl rfl (r_mv rfl) ?_
      refine D_gk rfl ?_
      refine D_l (v := (.p (some (F9, 0)))) rfl rfl rfl (r_mv hT37) ?_
      refine D_gk rfl ?_
      refine D_l (v := v) rfl rfl rfl (r_mv hT35) ?_
      refine D_gk rfl ?_
      refine D_l (v := (.i .i64 (((i : Nat)) : Int))) rfl rfl rfl (r_mv hT39) ?_
      refine D_gk rfl ?_
      refine D_q rfl rfl rfl (by exact Rw.row (hv _ hH119.top4.fst) rfl (i := i) rfl (r := [(.i .i64 o.what), (.i .i64 o.p), (.i .i64 o.mode), (.s (txt o.tp)), (.b o.tx), (.sl oa o.d.length oc 0)]) hri) fun v121 hv120 => ?_
      obtain ⟨rb122, ro123, rfl, hr124⟩ := hv120
      refine D_gk rfl ?_
      refine D_l (v := (.p (some (rb122, (ro123 + 1))))) rfl rfl rfl (r_fadd' rfl rfl) ?_
      refine D_gk rfl ?_
      refine D_l (v := (.p (some (n62, 2)))) rfl rfl rfl (r_fadd' rfl rfl) ?_
      refine D_gk rfl ?_
      refine D_r (v := (.i .i64 o.p)) rfl rfl rfl (r_ldR (q := 1) rfl (hr124 _ (hv _ hH119.top4.fst)) rfl) ?_
      refine D_gk rfl ?_
      refine D_r (v := ofw) rfl rfl rfl (r_ld rfl hH119.get2 rfl) ?_
      refine D_gk rfl ?_
      refine D_l (v := (.i .i64 ((((s2.waiting o.p) : Nat)) : Int))) rfl rfl rfl (r_lenOf rfl hwl hws) ?_
      refine D_gk rfl ?_
      refine D_call (Ev.mono (rl_waiting hR118 hH119) fun v125 H126 hq127 => ?_)
      obtain ⟨L128, rfl, hR129, hH130⟩ := hq127
      refine And.intro (And.intro (Or.inr (look_run rfl rfl (r_ld rfl hH130.get2 rfl))) (And.intro (Or.inl rfl) (And.intro (Or.inl rfl) True.intro))) ?_
      refine D_gk rfl ?_
      refine D_l (v := (.b false)) rfl rfl rfl (r_nqq rfl rfl) ?_
      refine D_l (v := (.b false)) rfl rfl rfl (r_pick_f rfl rfl) ?_
      refine D_l (v := (.b false)) rfl rfl rfl (r_mv rfl) ?_
      refine D_gk rfl ?_
      refine D_l (v := (.p (some (F9, 0)))) rfl rfl rfl (r_mv hT37) ?_
      refine D_gk rfl ?_
      refine D_l (v := v) rfl rfl rfl (r_mv hT35) ?_
      refine D_gk rfl ?_
      refine D_l (v := (.i .i64 (((i : Nat)) : Int))) rfl rfl rfl (r_mv hT39) ?_
      refine D_gk rfl ?_
      refine D_q rfl rfl rfl (by exact Rw.row (hv _ hH130.top4.fst) rfl (i := i) rfl (r := [(.i .i64 o.what), (.i .i64 o.p), (.i .i64 o.mode), (.s (txt o.tp)), (.b o.tx), (.sl oa o.d.length oc 0)]) hri) fun v132 hv131 => ?_
      obtain ⟨rb133, ro134, rfl, hr135⟩ := hv131
      refine D_gk rfl ?_
      refine D_l (v := (.p (some (rb133, (ro134 + 3))))) rfl rfl rfl (r_fadd' rfl rfl) ?_
      refine D_gk rfl ?_
      refine D_l (v := (.p (some (F17, 0)))) rfl rfl rfl (r_mv hT38) ?_
      refine D_gk rfl ?_
      refine D_l (v := v) rfl rfl rfl (r_mv hT35) ?_
      refine D_gk rfl ?_
      refine D_l (v := (.i .i64 (((i : Nat)) : Int))) rfl rfl rfl (r_mv hT39) ?_
      refine D_gk rfl ?_
      refine D_q rfl rfl rfl (by exact Rw.row (hv _ hH130.top4.fst) rfl (i := i) rfl (r := [(.i .i64 o.what), (.i .i64 o.p), (.i .i64 o.mode), (.s (txt o.tp)), (.b o.tx), (.sl oa o.d.length oc 0)]) hri) fun v137 hv136 => ?_
      obtain ⟨rb138, ro139, rfl, hr140⟩ := hv136
      refine D_gk rfl ?_
      refine D_l (v := (.p (some (rb138, (ro139 + 3))))) rfl rfl rfl (r_fadd' rfl rfl) ?_
      refine D_gk rfl ?_
      refine D_r (v := (.s (txt o.tp))) rfl rfl rfl (r_ldR (q := 3) rfl (hr135 _ (hv _ hH130.top4.fst)) rfl) ?_
      refine D_gk rfl ?_
      refine D_r (v := (.s (txt o.tp))) rfl rfl rfl (r_ldR (q := 3) rfl (hr140 _ (hv _ hH130.top4.fst)) rfl) ?_
      refine D_gk rfl ?_
      refine D_call (Ev.mono (rl_count hR129 hH130) fun v141 H142 hq143 => ?_)
      obtain ⟨L144, rfl, hR145, hH146⟩ := hq143
      refine And.intro (And.intro (Or.inr (look_run rfl rfl (r_ldR (q := 3) rfl (hr140 _ (hv _ hH146.top4.fst)) rfl))) (And.intro (Or.inl rfl) (And.intro (Or.inl rfl) True.intro))) ?_
      refine D_gk rfl ?_
      have hH147 := (hH146.top1)
      refine D_call (Ev.mono (rr_count hT106 hS2 (by omega) hH147) fun v148 H149 hq150 => ?_)
      obtain ⟨rfl, hH151⟩ := hq150
      refine And.intro (And.intro (Or.inl rfl) True.intro) ?_
      refine D_gk rfl ?_
      refine D_l (v := (.b false)) rfl rfl rfl (r_nqq rfl rfl) ?_
      refine D_l (v := (.b false)) rfl rfl rfl (r_pick_f rfl rfl) ?_
      refine D_nil ?_
      refine C_cond (x := false) rfl (fun h => by cases h) (fun _ => ?_)
      refine C_skip ?_
      refine C_region ?_
      refine O_p (.i .i64 (((i : Nat)) : Int)) (r_mv hT39) ?_
      refine O_p (.i .i64 ((((i : Nat)) : Int) + 1)) (by exact (r_addi rfl rfl (wrap_i64 (by omega) (by omega)))) ?_
      refine O_p (.i .i64 ((((i : Nat)) : Int) + 1)) (r_mv rfl) ?_
      refine O_nil ?_
      have hH152 := (hH151.sub2)
      have hH153 := ((((hH152.top3).top1).top3).top3)
      exact ⟨ol.length - (i + 1), by omega, s2, L144, D2, T105, (i + 1), rfl, by omega, hR145, hT106, hI2, hS2, hp34, hH153, hT35, hT36, hT37, hT38, rfl⟩
    ·
      try simp only [decide_eq_true_eq, decide_eq_false_iff_not, Bool.not_eq_true', Bool.not_eq_false', Bool.and_eq_true, Bool.or_eq_true, Bool.or_eq_false_iff, Bool.not_not, Bool.and_eq_false_iff] at hc41
      refine C_exit ?_
      refine nx_exit ?_
      refine nx_exit ?_
      refine bk_hit ?_
      refine C_seq ?_
      refine C_region ?_
      refine O_p (.b true) (r_mv hT36) ?_
      refine O_p (.b true) (r_mv rfl) ?_
      refine O_nil ?_
      refine C_ret ?_
      exact ⟨.inr rfl, _, resL_one (r_tmp (v := .b true) rfl), rfl⟩
set_option maxRecDepth 100000 in
theorem opT {H : AH} {k : Nat} (hok : H.Ok) {r : List AV} (h : Typed Try.prog H (k + 3) 48 r) : ∃ o, OpRow (allL H) r o := by
  obtain ⟨hl, hq⟩ := struct_parts (qs := [(3, 0, 1), (3, 1, 1), (3, 2, 1), (9, 3, 1), (4, 4, 1), (30, 5, 1)]) Try.underlying48 h (by kernel_rfl)
  rw [show Try.prog.cellsOf 48 = 6 by kernel_rfl] at hl
  obtain ⟨x0, x1, x2, x3, x4, x5, rfl⟩ : ∃ a b c d e f, r = [a, b, c, d, e, f] := by
    match r, hl with
    | [a, b, c, d, e, f], _ => exact ⟨a, b, c, d, e, f, rfl⟩
  simp only [List.forall_mem_cons, List.drop_zero, List.drop_succ_cons, List.take_succ_cons, List.take_zero] at hq
  obtain ⟨q0, q1, q2, q3, q4, q5, _⟩ := hq
  obtain ⟨n0, e0, _⟩ := typed_int Try.underlying3 q0
  obtain ⟨n1, e1, _⟩ := typed_int Try.underlying3 q1
  obtain ⟨n2, e2, _⟩ := typed_int Try.underlying3 q2
  obtain ⟨st, e3, _⟩ := typed_string Try.underlying9 q3
  obtain ⟨b, e4⟩ := typed_bool Try.underlying4 q4
  cases e0; cases e1; cases e2; cases e3; cases e4
  obtain ⟨tp, rfl⟩ : ∃ a, st = txt a := ⟨_, (txt_of st).symm⟩
  obtain ⟨da, dn, dc, d, rfl, hb, rfl, hc, hm⟩ := typed_bytes Try.underlying30 Try.underlying5 (by kernel_rfl) q5
  exact ⟨⟨n0, n1, n2, tp, b, d⟩, da, dc, rfl, hc, Nat.le_trans hm (by decide), fun H' hh => Bs.ro (R := []) hb hok (by rw [List.append_nil]; exact hh)⟩
set_option maxRecDepth 100000 in
theorem run8T (H : AH) (hok : H.Ok) (pn room : Int) {v : AV} (h : Typed Try.prog H 9 45 [v]) : Ev tabA spA (.fn (.func 8) [] []) [.i .i64 pn, .i .i64 room, v] H (fun v _ => v = .b true) := by
  obtain ⟨q, n, c, rfl, hnc, _, hr⟩ := typed_recs (z := 6) Try.underlying45 (by kernel_rfl) h
  obtain ⟨rows, hrw, _, hrt⟩ := Rw.given hnc hr
  obtain ⟨ol, hol⟩ := ops_ex fun i r hi => opT (k := 5) hok (hrt i r hi)
  exact run8 H hok pn room _ rows ol (fun H' hh => hrw.ro (R := []) hok (by rw [List.append_nil]; exact hh)) hol
set_option maxRecDepth 100000 in
theorem law8 (W : World) (ρ : Rho) (H : AH) (xs : List AV) (args : Array Value) (hR : Rel Try.prog W.heap.size W ρ H W) (hro : RO H) (hv : VRL ρ xs args.toList) (ht : TypedVs Try.prog H 9 Try.f8.params.toList xs) :
    Calls Try.prog 8 args W fun e w' => e = .returned (.bool true) ∧ Below W.heap.size W w' := by
  rw [Try.params8] at ht
  obtain ⟨a0, xs, rfl, g0, a1, xs, rfl, g1, a2, xs, rfl, g2, rfl⟩ := ht
  obtain ⟨pn, rfl, wpn⟩ := typedV_int Try.underlying3 g0
  obtain ⟨room, rfl, wroom⟩ := typedV_int Try.underlying3 g1
  obtain ⟨k, v, H', hex, rfl⟩ := run8T H hR.aok pn room (typedV_slice Try.underlying45 g2)
  exact law_of mixed tabA_ok spA_ok hex hR hv
end Go.Proofs.Ytnkpmidfefilbaa.E
namespace Go.Proofs.Ytnkpmidfefilbaa.topicPlays
open Go.ChangeShapes Go.WideShapes Go.RowKit
set_option linter.unusedVariables false
theorem own : ownKnob Try.prog.godebug = none := by kernel_rfl
theorem types : (Try.f8.params.toList.all fun t => E.fit Try.prog 9 t && (Try.prog.readableRec t && decide (t < Try.prog.types.size))) = true := by kernel_rfl
set_option maxRecDepth 100000 in
theorem lifted (os : Os) (started : os.Started) (H : Type) (enc : TypeId × Value → H) :
    ReturnsInHanded {} Try.checked os 8 .any (Rows.topicPlaysSpec.pre6 enc Try.prog Try.f8 Rows.topicPlaysRow.domain false) (Rows.topicPlaysSpec.post enc Try.prog Try.f8 false true false false) :=
  E.law_lifted (C := Try.checked) (k := 9) (tb := 4) E.globals0 E.laid own started (by kernel_rfl) Try.func8
    (ChangeSpec.witness6 (enc := enc) (C := Try.checked) false ⟨#[], #[.int .i64 0, .int .i64 0, .slice none 0 0], []⟩ 8 (by kernel_rfl) (by kernel_rfl) (by kernel_rfl) (by kernel_rfl))
    rfl rfl Try.underlying4 (fun t ht => by have h := List.all_eq_true.1 types t ht; simp only [Bool.and_eq_true, decide_eq_true_eq] at h; exact h)
    (fun ds hd => by
      rw [Try.params8] at hd
      match ds, hd with
      | [d0, d1, d2], _ => rfl) E.law8
theorem over : Rows.topicPlaysRow.holds Try.pinned (OpenSpec.ofChange Rows.topicPlaysSpec) :=
  OpenClaim.holds_of_wide 8 Try.f8 rfl rfl rfl rfl rfl rfl rfl ⟨rfl, rfl, rfl, rfl, rfl⟩ rfl rfl rfl rfl rfl (by kernel_rfl) Try.func8 (by kernel_rfl)
    (of_decide_eq_true (by kernel_rfl)) (by unfold Func.isWrapper; first | (rw [if_pos (by decide +kernel)]; kernel_rfl) | (rw [if_neg (by decide +kernel)]; exact ⟨rfl, rfl⟩))
    (fun os started H enc _ => lifted os started H enc)
end Go.Proofs.Ytnkpmidfefilbaa.topicPlays
namespace Go.Proofs.Ytnkpmidfefilbaa
/-- The row, under a short name, for the claim. -/
theorem topicPlays_holds : Rows.TopicPlaysSaid := topicPlays.over
#print axioms topicPlays_holds
end Go.Proofs.Ytnkpmidfefilbaa
