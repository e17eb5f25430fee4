/- GapsFloor, for every input, without conditions. -/
import Derived.Test.YtjheedfobmlalaaGG3
import Derived.Test.YtjheedfobmlalaaRows
import Derived.ProofKit
import Derived.OpenShut
namespace Go.Proofs.Ytjheedfobmlalaa.E
open Go.RowKit (Below)
set_option linter.unusedVariables false
set_option linter.unusedSimpArgs false
theorem prevTo_succ {B : List (Int × Int)} {k : Nat} : prevTo B (k + 1) = (B.getD k (0, 0)).2 := by unfold prevTo; rw [if_neg (by omega), Nat.add_sub_cancel]
theorem sls0_ev {H : AH} {R : HL} {x y : Int} (hH0 : Hs H R) : Ev tabA spA (.fn (.func 36) [] []) [.i .u32 x, .i .u32 y] H (fun r H' => r = .b (sls x y) ∧ Hs H' R) := by
  refine Ev_C (F := x36) rfl ?_
  refine C_seq ?_
  refine C_region ?_
  refine O_p (.b false) (r_mv rfl) ?_
  refine O_nil ?_
  refine C_seq ?_
  refine C_region ?_
  refine O_p (.i .u32 y) (r_mv rfl) ?_
  refine O_p (.i .u32 x) (r_mv rfl) ?_
  refine O_p (.i .u32 (IntKind.u32.wrap (y - x))) (r_bin rfl rfl rfl) ?_
  refine O_p (.i .u32 (IntKind.u32.wrap (y - x))) (r_mv rfl) ?_
  refine O_nil ?_
  refine C_seq ?_
  refine C_region ?_
  refine O_p (.i .u32 (IntKind.u32.wrap (y - x))) (r_mv rfl) ?_
  refine O_p (.b (!decide ((IntKind.u32.wrap (y - x)) = 0))) (r_neq rfl rfl) ?_
  refine O_p (.b (!decide ((IntKind.u32.wrap (y - x)) = 0))) (r_mv rfl) ?_
  refine O_gx (e := (!decide ((IntKind.u32.wrap (y - x)) = 0))) (v := (.i .u32 (IntKind.u32.wrap (y - x)))) (wt rfl) (fun he => (r_mv rfl)) ?_
  refine O_gx (e := (!decide ((IntKind.u32.wrap (y - x)) = 0))) (v := (.i .u32 (IntKind.u32.wrap 0))) (wt rfl) (fun he => (r_cint rfl)) ?_
  refine O_gx (e := (!decide ((IntKind.u32.wrap (y - x)) = 0))) (v := (.i .u32 4294967295)) (wt rfl) (fun he => (r_un (cond_pos he) rfl)) ?_
  refine O_gx (e := (!decide ((IntKind.u32.wrap (y - x)) = 0))) (v := (.i .u32 2147483647)) (wt rfl) (fun he => (r_bin (cond_pos he) rfl rfl)) ?_
  refine O_gx (e := (!decide ((IntKind.u32.wrap (y - x)) = 0))) (v := (.b (decide ((IntKind.u32.wrap (y - x)) ≤ 2147483647)))) (wt rfl) (fun he => (r_leq (cond_pos he) (cond_pos he))) ?_
  refine O_p (.b ((!decide ((IntKind.u32.wrap (y - x)) = 0)) && (decide ((IntKind.u32.wrap (y - x)) ≤ 2147483647)))) (r_pick_and rfl rfl rfl rfl) ?_
  refine O_p (.b ((!decide ((IntKind.u32.wrap (y - x)) = 0)) && (decide ((IntKind.u32.wrap (y - x)) ≤ 2147483647)))) (r_mv rfl) ?_
  refine O_nil ?_
  refine C_ret ?_
  exact ⟨.inr rfl, _, resL_one (r_tmp (v := (.b ((!decide ((IntKind.u32.wrap (y - x)) = 0)) && (decide ((IntKind.u32.wrap (y - x)) ≤ 2147483647))))) rfl), rfl, hH0⟩
theorem sls_ev {H : AH} {R : HL} {x y : Int} (hH0 : Hs H R) : Ev tabA spA (.fn (.func 28) [] []) [.i .u32 x, .i .u32 y] H (fun r H' => r = .b (sls x y) ∧ Hs H' R) := by
  refine Ev_C (F := x28) rfl ?_
  refine C_seq ?_
  refine C_region ?_
  refine O_p (.b false) (r_mv rfl) ?_
  refine O_nil ?_
  refine C_seq ?_
  refine C_region ?_
  refine O_p (.i .u32 x) (r_mv rfl) ?_
  refine O_p (.i .u32 y) (r_mv rfl) ?_
  refine O_call (Ev.mono (sls0_ev hH0) fun v1 H2 hq3 => ?_)
  obtain ⟨rfl, hH4⟩ := hq3
  refine O_p (.b (sls x y)) (r_mv rfl) ?_
  refine O_nil ?_
  refine C_ret ?_
  exact ⟨.inr rfl, _, resL_one (r_tmp (v := (.b (sls x y))) rfl), rfl, hH4⟩
set_option maxRecDepth 100000 in
set_option maxHeartbeats 4000000 in
theorem run8 (H0 : AH) (hok0 : H0.Ok) (a0 : Int) (v : AV) (ol : List (Int × Int)) (hv : ∀ H', Hs H' (allL H0) → Rw 2 H' v (ol.map opRow)) : Ev tabA spA (.fn (.func 8) [] []) [.i .u32 a0, v] H0 (fun v _ => v = .b true) := by
  have hH0 : Hs H0 (allL H0 ++ []) := allL_hs hok0
  refine Ev_C (F := x8) rfl ?_
  refine C_seq ?_
  refine C_region ?_
  refine O_p (.b false) (r_mv rfl) ?_
  refine O_nil ?_
  refine C_seq ?_
  refine C_region ?_
  refine O_call (Ev.mono (awake_ev hH0) fun v1 H2 hq3 => ?_)
  obtain ⟨rfl, hH4⟩ := hq3
  refine O_p (.b true) (r_mv rfl) ?_
  refine O_nil ?_
  refine C_seq ?_
  refine C_seq ?_
  refine C_region ?_
  refine O_p v (r_mv rfl) ?_
  refine O_p (.i .i64 (((ol.length : Nat)) : Int)) (r_lenOf (v := v) (n := ol.length) rfl ((hv _ hH4.top0.fst).lenOf (List.length_map ..)) (hv _ hH4.top0.fst).isSl) ?_
  refine O_p (.b (decide (200 < (((ol.length : Nat)) : Int)))) (r_gtr rfl rfl) ?_
  refine O_nil ?_
  refine C_cond (x := (decide (200 < (((ol.length : Nat)) : Int)))) rfl (fun hc5 => ?_) (fun hc5 => ?_)
  ·
    try simp only [decide_eq_true_eq, decide_eq_false_iff_not, Bool.not_eq_true', Bool.not_eq_false', Bool.and_eq_true, Bool.or_eq_true, Bool.or_eq_false_iff, Bool.not_not, Bool.and_eq_false_iff] at hc5
    refine C_seq ?_
    refine C_region ?_
    refine O_p (.b true) (r_mv rfl) ?_
    refine O_p (.b true) (r_mv rfl) ?_
    refine O_nil ?_
    refine C_ret ?_
    refine nx_ret ?_
    exact ⟨.inr rfl, _, resL_one (r_tmp (v := .b true) rfl), rfl⟩
  ·
    try simp only [decide_eq_true_eq, decide_eq_false_iff_not, Bool.not_eq_true', Bool.not_eq_false', Bool.and_eq_true, Bool.or_eq_true, Bool.or_eq_false_iff, Bool.not_not, Bool.and_eq_false_iff] at hc5
    have hlen : ol.length ≤ 200 := by omega
    refine C_skip ?_
    refine C_seq ?_
    refine C_region ?_
    refine O_p (.i .u32 a0) (r_mv rfl) ?_
    refine O_call (Ev.mono (new_ev hH4).sp fun v6 H7 hq8 => ?_)
    obtain ⟨ga, S0, rfl, hG0, hHn⟩ := hq8
    refine O_p (.p (some (ga, 0))) (r_mv rfl) ?_
    refine O_nil ?_
    refine C_seq ?_
    refine C_seq ?_
    refine C_region ?_
    refine O_p (.i .i64 0) (r_mv rfl) ?_
    refine O_nil ?_
    refine C_block ?_
    have hH9 := ((hHn.top1).top1)
    refine C_while (fun m10 T11 H12 => ∃ s : Gp, ∃ S : HL, ∃ i : Nat, m10 = ol.length - i ∧ i ≤ ol.length ∧ GpH s ga S ∧ s.d.length ≤ 64 ∧ s.l.length ≤ i ∧ s.Wf ∧ Hs H12 (S ++ ((allL H0) ++ ([]))) ∧ T11.get 0 = (.i .u32 a0) ∧ T11.get 1 = v ∧ T11.get 5 = (.b true) ∧ T11.get 6 = (.p (some (ga, 0))) ∧ T11.get 7 = (.i .i64 (((i : Nat)) : Int))) (fun m10 T11 H12 hI13 => ?_) ol.length _ _ ⟨(⟨IntKind.u32.wrap (a0 - 1), [], []⟩ : Gp), S0, 0, rfl, Nat.zero_le _, hG0, (Nat.zero_le 64), Nat.le_refl _, gi_nil, hH9, rfl, rfl, rfl, rfl, rfl⟩
    obtain ⟨s, S, i, hm14, hp15, hp16, hp17, hp18, hp19, hH25, hT20, hT21, hT22, hT23, hT24⟩ := hI13
    refine C_seq ?_
    refine C_seq ?_
    refine C_region ?_
    refine O_p (.i .i64 (((i : Nat)) : Int)) (r_mv hT24) ?_
    refine O_p v (r_mv hT21) ?_
    refine O_p (.i .i64 (((ol.length : Nat)) : Int)) (r_lenOf (v := v) (n := ol.length) rfl ((hv _ hH25.top1.fst).lenOf (List.length_map ..)) (hv _ hH25.top1.fst).isSl) ?_
    refine O_p (.b (decide ((((i : Nat)) : Int) < (((ol.length : Nat)) : Int)))) (r_lss rfl rfl) ?_
    refine O_nil ?_
    refine C_cond (x := (decide ((((i : Nat)) : Int) < (((ol.length : Nat)) : Int)))) rfl (fun hc26 => ?_) (fun hc26 => ?_)
    ·
      try simp only [decide_eq_true_eq, decide_eq_false_iff_not, Bool.not_eq_true', Bool.not_eq_false', Bool.and_eq_true, Bool.or_eq_true, Bool.or_eq_false_iff, Bool.not_not, Bool.and_eq_false_iff] at hc26
      refine C_skip ?_
      refine C_seq ?_
      refine C_block ?_
      refine C_seq ?_
      refine C_region ?_
      have hil : i < ol.length := by omega
      obtain ⟨o, hoi⟩ : ∃ y, ol[i]? = some y := ⟨_, List.getElem?_eq_getElem hil⟩
      refine O_p (.p (some (ga, 0))) (r_mv hT23) ?_
      refine O_call (Ev.mono (cum_ev hp16 hH25).sp fun v27 H28 hq29 => ?_)
      obtain ⟨rfl, hH30⟩ := hq29
      refine O_p (.i .u32 s.c) (r_mv rfl) ?_
      refine O_nil ?_
      refine C_cut (fun T31 H32 => ∃ s2 : Gp, ∃ S2 : HL, GpH s2 ga S2 ∧ s2.d.length ≤ 64 ∧ s2.l.length ≤ i + 1 ∧ s2.Wf ∧ sls s2.c s.c = false ∧ Hs H32 (S2 ++ ((allL H0) ++ ([]))) ∧ T31.get 0 = (.i .u32 a0) ∧ T31.get 1 = v ∧ T31.get 5 = (.b true) ∧ T31.get 6 = (.p (some (ga, 0))) ∧ T31.get 7 = (.i .i64 (((i : Nat)) : Int)) ∧ T31.get 8 = (.i .u32 s.c)) ?_ (fun T31 H32 hI33 => ?_)
      ·
        refine C_seq ?_
        refine C_region ?_
        refine O_p v (r_mv hT21) ?_
        refine O_p (.i .i64 (((i : Nat)) : Int)) (r_mv hT24) ?_
        refine O_q (by exact Rw.row (hv _ hH30.top1.fst) rfl (i := i) rfl (r := [(.i .i64 o.1), (.i .u32 o.2)]) (op_row hoi)) fun v35 hv34 => ?_
        obtain ⟨rb36, ro37, rfl, hr38⟩ := hv34
        refine O_p (.p (some (rb36, (ro37 + 0)))) (r_fadd' rfl rfl) ?_
        refine O_p (.i .i64 o.1) (r_ldR (q := 0) rfl (hr38 _ (hv _ hH30.top1.fst)) rfl) ?_
        refine O_p (.b (decide (o.1 = 1))) (r_eql rfl rfl) ?_
        refine O_nil ?_
        refine C_cond (x := (decide (o.1 = 1))) rfl (fun hc39 => ?_) (fun hc39 => ?_)
        ·
          try simp only [decide_eq_true_eq, decide_eq_false_iff_not, Bool.not_eq_true', Bool.not_eq_false', Bool.and_eq_true, Bool.or_eq_true, Bool.or_eq_false_iff, Bool.not_not, Bool.and_eq_false_iff] at hc39
          refine C_region ?_
          refine O_p (.p (some (ga, 0))) (r_mv hT23) ?_
          refine O_p (.i .u32 a0) (r_mv hT20) ?_
          refine O_p v (r_mv hT21) ?_
          refine O_p (.i .i64 (((i : Nat)) : Int)) (r_mv hT24) ?_
          refine O_q (by exact Rw.row (hv _ hH30.top1.fst) rfl (i := i) rfl (r := [(.i .i64 o.1), (.i .u32 o.2)]) (op_row hoi)) fun v41 hv40 => ?_
          obtain ⟨rb42, ro43, rfl, hr44⟩ := hv40
          refine O_p (.p (some (rb42, (ro43 + 1)))) (r_fadd' rfl rfl) ?_
          refine O_p (.i .u32 o.2) (r_ldR (q := 1) rfl (hr44 _ (hv _ hH30.top1.fst)) rfl) ?_
          refine O_p (.i .u32 (IntKind.u32.wrap (a0 + o.2))) (r_bin rfl rfl rfl) ?_
          refine O_call (Ev.mono (fwd_ev (n := (IntKind.u32.wrap (a0 + o.2))) hp16 hH30) fun v45 H46 hq47 => ?_)
          obtain ⟨rfl, S48, hG49, hH50⟩ := hq47
          refine O_nil ?_
          have hH51 := ((hH50.top1).top1)
          exact ⟨rfl, (Gp.fwd s (IntKind.u32.wrap (a0 + o.2))), S48, hG49, (by rw [Gp.fwd_d]; exact hp17), by have := Gp.fwd_len s (IntKind.u32.wrap (a0 + o.2)); omega, Gp.fwd_wf hp19, Gp.fwd_sls hp19 (by omega), hH51, hT20, hT21, hT22, hT23, hT24, rfl⟩
        ·
          try simp only [decide_eq_true_eq, decide_eq_false_iff_not, Bool.not_eq_true', Bool.not_eq_false', Bool.and_eq_true, Bool.or_eq_true, Bool.or_eq_false_iff, Bool.not_not, Bool.and_eq_false_iff] at hc39
          refine C_region ?_
          refine O_p (.p (some (ga, 0))) (r_mv hT23) ?_
          refine O_p (.i .u32 a0) (r_mv hT20) ?_
          refine O_p v (r_mv hT21) ?_
          refine O_p (.i .i64 (((i : Nat)) : Int)) (r_mv hT24) ?_
          refine O_q (by exact Rw.row (hv _ hH30.top1.fst) rfl (i := i) rfl (r := [(.i .i64 o.1), (.i .u32 o.2)]) (op_row hoi)) fun v53 hv52 => ?_
          obtain ⟨rb54, ro55, rfl, hr56⟩ := hv52
          refine O_p (.p (some (rb54, (ro55 + 1)))) (r_fadd' rfl rfl) ?_
          refine O_p (.i .u32 o.2) (r_ldR (q := 1) rfl (hr56 _ (hv _ hH30.top1.fst)) rfl) ?_
          refine O_p (.i .u32 (IntKind.u32.wrap (a0 + o.2))) (r_bin rfl rfl rfl) ?_
          refine O_call (Ev.mono (add_ev (n := (IntKind.u32.wrap (a0 + o.2))) hp16 hH30 hp17).sp fun v57 H58 hq59 => ?_)
          obtain ⟨rfl, S60, hG61, hH62⟩ := hq59
          refine O_nil ?_
          have hH63 := ((hH62.top1).top1)
          exact ⟨rfl, (Gp.add s (IntKind.u32.wrap (a0 + o.2))), S60, hG61, (Gp.add_d s (IntKind.u32.wrap (a0 + o.2)) hp17), by have := Gp.add_len s (IntKind.u32.wrap (a0 + o.2)); omega, Gp.add_wf hp19 (by rw [wrap_u32]; omega) (by rw [wrap_u32]; omega), Gp.add_sls (by omega), hH63, hT20, hT21, hT22, hT23, hT24, rfl⟩
      ·
        obtain ⟨s2, S2, hp64, hp65, hp66, hp67, hp68, hH75, hT69, hT70, hT71, hT72, hT73, hT74⟩ := hI33
        refine C_seq ?_
        refine C_seq ?_
        refine C_region ?_
        refine O_p (.p (some (ga, 0))) (r_mv hT72) ?_
        refine O_call (Ev.mono (cum_ev hp64 hH75).sp fun v76 H77 hq78 => ?_)
        obtain ⟨rfl, hH79⟩ := hq78
        refine O_p (.i .u32 s.c) (r_mv hT74) ?_
        refine O_call (Ev.mono (sls_ev (x := s2.c) (y := s.c) hH79) fun v80 H81 hq82 => ?_)
        obtain ⟨rfl, hH83⟩ := hq82
        rw [hp68]
        refine O_nil ?_
        refine C_cond (x := false) rfl (fun h => by cases h) (fun _ => ?_)
        refine C_skip ?_
        refine C_seq ?_
        refine C_region ?_
        refine O_p (.p (some (ga, 0))) (r_mv hT72) ?_
        refine O_call (Ev.mono (blocks_ev sort_all (by decide) (by omega) hp64 hH83) fun v84 H85 hq86 => ?_)
        obtain ⟨rc87, hr88, hH89⟩ := hq86
        obtain ⟨B, hB⟩ : ∃ z, z = blocksF s2.c s2.l := ⟨_, rfl⟩
        rw [← hB] at hr88
        have hok : RunOK B := by rw [hB]; exact blocks_ok hp67
        have hBl : B.length ≤ 64 := by rw [hB]; exact List.length_take_le ..
        refine O_p v84 (r_mv rfl) ?_
        refine O_nil ?_
        refine C_seq ?_
        refine C_region ?_
        refine O_p (.i .i64 0) (r_mv rfl) ?_
        refine O_nil ?_
        refine C_seq ?_
        refine C_region ?_
        refine O_p (.i .i64 0) (r_mv rfl) ?_
        refine O_nil ?_
        refine C_block ?_
        have hH90 := (((hH89.top2).top2).top2)
        refine C_while (fun m91 T92 H93 => ∃ k : Nat, m91 = B.length - k ∧ k ≤ B.length ∧ Hs H93 (S2 ++ ((qseg v84 rc87) ++ ((allL H0) ++ ([])))) ∧ T92.get 0 = (.i .u32 a0) ∧ T92.get 1 = v ∧ T92.get 5 = (.b true) ∧ T92.get 6 = (.p (some (ga, 0))) ∧ T92.get 7 = (.i .i64 (((i : Nat)) : Int)) ∧ T92.get 9 = v84 ∧ T92.get 10 = (.i .i64 (prevTo B k)) ∧ T92.get 11 = (.i .i64 (((k : Nat)) : Int))) (fun m91 T92 H93 hI94 => ?_) B.length _ _ ⟨0, rfl, Nat.zero_le _, hH90, hT69, hT70, hT71, hT72, hT73, rfl, rfl, rfl⟩
        obtain ⟨k, hm95, hp96, hH105, hT97, hT98, hT99, hT100, hT101, hT102, hT103, hT104⟩ := hI94
        refine C_seq ?_
        refine C_seq ?_
        refine C_region ?_
        refine O_p (.i .i64 (((k : Nat)) : Int)) (r_mv hT104) ?_
        refine O_p v84 (r_mv hT102) ?_
        refine O_p (.i .i64 (((B.length : Nat)) : Int)) (by exact (by exact r_lenOf rfl (hr88.lenOf (rw2_len B) (by decide)) hr88.isSl)) ?_
        refine O_p (.b (decide ((((k : Nat)) : Int) < (((B.length : Nat)) : Int)))) (r_lss rfl rfl) ?_
        refine O_nil ?_
        refine C_cond (x := (decide ((((k : Nat)) : Int) < (((B.length : Nat)) : Int)))) rfl (fun hc106 => ?_) (fun hc106 => ?_)
        ·
          try simp only [decide_eq_true_eq, decide_eq_false_iff_not, Bool.not_eq_true', Bool.not_eq_false', Bool.and_eq_true, Bool.or_eq_true, Bool.or_eq_false_iff, Bool.not_not, Bool.and_eq_false_iff] at hc106
          refine C_skip ?_
          refine C_seq ?_
          refine C_block ?_
          refine C_seq ?_
          refine C_seq ?_
          refine C_draw fun b107 H108 hbase109 hA110 => ?_
          have hH111 := hH105.keep (by have := hA110.1; omega) (fun q _ => hA110.2 q) ((hH105.old).aside hA110).ok
          obtain ⟨ho1, ho2, ho3, ho4⟩ := hok k (by omega)
          refine D_l (v := v84) rfl rfl rfl (r_mv hT102) ?_
          refine D_l (v := (.i .i64 (((k : Nat)) : Int))) rfl rfl rfl (r_mv hT104) ?_
          refine D_q rfl rfl rfl (by exact Sq.cell hr88 (rw2_lens B) hH111.top1 rfl (i := k) rfl (r := [(.i .u16 (B.getD k (0, 0)).1), (.i .u16 (B.getD k (0, 0)).2)]) (rw2_get (l := B) (i := k) (by omega)) (by decide)) fun v113 hv112 => ?_
          obtain ⟨rb114, ro115, rfl, hrg116, hrt117, hrb118, hput119, hqs120⟩ := hv112
          refine D_l (v := (.p (some (rb114, (ro115 + 0))))) rfl rfl rfl (r_fadd' rfl rfl) ?_
          refine D_l (v := (.i .i64 (prevTo B k))) rfl rfl rfl (r_mv hT103) ?_
          refine D_l (v := (.i .i64 ((prevTo B k) + 2))) rfl rfl rfl (by exact (r_addi rfl rfl (wrap_i64 (by omega) (by omega)))) ?_
          refine D_r (v := (.i .u16 (B.getD k (0, 0)).1)) rfl rfl rfl (r_ldR (q := 0) rfl ⟨_, _, hrg116, hrt117⟩ rfl) ?_
          refine D_l (v := (.i .i64 (B.getD k (0, 0)).1)) rfl rfl rfl (by exact (by rw [r_cint' (m := (B.getD k (0, 0)).1) rfl (wrap_i64 (by omega) (by omega))])) ?_
          refine D_l (v := (.b false)) rfl rfl rfl (by exact (by rw [r_lss rfl rfl, decide_eq_false (by omega)])) ?_
          refine D_l (v := (.b false)) rfl rfl rfl (r_mv rfl) ?_
          refine D_gk rfl ?_
          refine D_l (v := v84) rfl rfl rfl (r_mv hT102) ?_
          refine D_gk rfl ?_
          refine D_l (v := (.i .i64 (((k : Nat)) : Int))) rfl rfl rfl (r_mv hT104) ?_
          refine D_gk rfl ?_
          refine D_q rfl rfl rfl (by exact Sq.cell hr88 (rw2_lens B) hH111.top1 rfl (i := k) rfl (r := [(.i .u16 (B.getD k (0, 0)).1), (.i .u16 (B.getD k (0, 0)).2)]) (rw2_get (l := B) (i := k) (by omega)) (by decide)) fun v122 hv121 => ?_
          obtain ⟨rb123, ro124, rfl, hrg125, hrt126, hrb127, hput128, hqs129⟩ := hv121
          refine D_gk rfl ?_
          refine D_l (v := (.p (some (rb123, (ro124 + 1))))) rfl rfl rfl (r_fadd' rfl rfl) ?_
          refine D_gk rfl ?_
          refine D_l (v := v84) rfl rfl rfl (r_mv hT102) ?_
          refine D_gk rfl ?_
          refine D_l (v := (.i .i64 (((k : Nat)) : Int))) rfl rfl rfl (r_mv hT104) ?_
          refine D_gk rfl ?_
          refine D_q rfl rfl rfl (by exact Sq.cell hr88 (rw2_lens B) hH111.top1 rfl (i := k) rfl (r := [(.i .u16 (B.getD k (0, 0)).1), (.i .u16 (B.getD k (0, 0)).2)]) (rw2_get (l := B) (i := k) (by omega)) (by decide)) fun v131 hv130 => ?_
          obtain ⟨rb132, ro133, rfl, hrg134, hrt135, hrb136, hput137, hqs138⟩ := hv130
          refine D_gk rfl ?_
          refine D_l (v := (.p (some (rb132, (ro133 + 0))))) rfl rfl rfl (r_fadd' rfl rfl) ?_
          refine D_gk rfl ?_
          refine D_r (v := (.i .u16 (B.getD k (0, 0)).2)) rfl rfl rfl (r_ldR (q := 1) rfl ⟨_, _, hrg125, hrt126⟩ rfl) ?_
          refine D_gk rfl ?_
          refine D_r (v := (.i .u16 (B.getD k (0, 0)).1)) rfl rfl rfl (r_ldR (q := 0) rfl ⟨_, _, hrg134, hrt135⟩ rfl) ?_
          refine D_gk rfl ?_
          refine D_l (v := (.b false)) rfl rfl rfl (by exact (by rw [r_lss rfl rfl, decide_eq_false (by omega)])) ?_
          refine D_l (v := (.b false)) rfl rfl rfl (r_pick_f rfl rfl) ?_
          refine D_nil ?_
          refine C_cond (x := false) rfl (fun h => by cases h) (fun _ => ?_)
          refine C_skip ?_
          refine C_region ?_
          refine O_p v84 (r_mv hT102) ?_
          refine O_p (.i .i64 (((k : Nat)) : Int)) (r_mv hT104) ?_
          refine O_q (by exact Sq.cell hr88 (rw2_lens B) hH111.top1 rfl (i := k) rfl (r := [(.i .u16 (B.getD k (0, 0)).1), (.i .u16 (B.getD k (0, 0)).2)]) (rw2_get (l := B) (i := k) (by omega)) (by decide)) fun v140 hv139 => ?_
          obtain ⟨rb141, ro142, rfl, hrg143, hrt144, hrb145, hput146, hqs147⟩ := hv139
          refine O_p (.p (some (rb141, (ro142 + 1)))) (r_fadd' rfl rfl) ?_
          refine O_p (.i .u16 (B.getD k (0, 0)).2) (r_ldR (q := 1) rfl ⟨_, _, hrg143, hrt144⟩ rfl) ?_
          refine O_p (.i .i64 (prevTo B (k + 1))) (by exact (by rw [r_cint' (m := (prevTo B (k + 1))) rfl (by rw [prevTo_succ]; exact wrap_i64 (by omega) (by omega))])) ?_
          refine O_p (.i .i64 (prevTo B (k + 1))) (r_mv rfl) ?_
          refine O_nil ?_
          refine C_region ?_
          refine O_p (.i .i64 (((k : Nat)) : Int)) (r_mv hT104) ?_
          refine O_p (.i .i64 ((((k : Nat)) : Int) + 1)) (by exact (r_addi rfl rfl (wrap_i64 (by omega) (by omega)))) ?_
          refine O_p (.i .i64 ((((k : Nat)) : Int) + 1)) (r_mv rfl) ?_
          refine O_nil ?_
          have hH148 := (((hH111.top2).top2).top2)
          exact ⟨B.length - (k + 1), by omega, (k + 1), rfl, by omega, hH148, hT97, hT98, hT99, hT100, hT101, hT102, rfl, rfl⟩
        ·
          try simp only [decide_eq_true_eq, decide_eq_false_iff_not, Bool.not_eq_true', Bool.not_eq_false', Bool.and_eq_true, Bool.or_eq_true, Bool.or_eq_false_iff, Bool.not_not, Bool.and_eq_false_iff] at hc106
          refine C_exit ?_
          refine nx_exit ?_
          refine nx_exit ?_
          refine bk_hit ?_
          refine C_region ?_
          refine O_p (.i .i64 (((i : Nat)) : Int)) (r_mv hT101) ?_
          refine O_p (.i .i64 ((((i : Nat)) : Int) + 1)) (by exact (r_addi rfl rfl (wrap_i64 (by omega) (by omega)))) ?_
          refine O_p (.i .i64 ((((i : Nat)) : Int) + 1)) (r_mv rfl) ?_
          refine O_nil ?_
          have hH149 := (hH105.sub1)
          have hH150 := ((hH149.top1).top1)
          exact ⟨ol.length - (i + 1), by omega, s2, S2, (i + 1), rfl, by omega, hp64, hp65, hp66, hp67, hH150, hT97, hT98, hT99, hT100, rfl⟩
    ·
      try simp only [decide_eq_true_eq, decide_eq_false_iff_not, Bool.not_eq_true', Bool.not_eq_false', Bool.and_eq_true, Bool.or_eq_true, Bool.or_eq_false_iff, Bool.not_not, Bool.and_eq_false_iff] at hc26
      refine C_exit ?_
      refine nx_exit ?_
      refine nx_exit ?_
      refine bk_hit ?_
      refine C_seq ?_
      refine C_region ?_
      refine O_p (.b true) (r_mv hT22) ?_
      refine O_p (.b true) (r_mv rfl) ?_
      refine O_nil ?_
      refine C_ret ?_
      exact ⟨.inr rfl, _, resL_one (r_tmp (v := .b true) rfl), rfl⟩
set_option maxRecDepth 100000 in
theorem law8 (W : World) (ρ : Rho) (H : AH) (xs : List AV) (args : Array Value) (hR : Rel Try.prog W.heap.size W ρ H W) (hro : RO H) (hv : VRL ρ xs args.toList) (ht : TypedVs Try.prog H 9 Try.f8.params.toList xs) :
    Calls Try.prog 8 args W fun e w' => e = .returned (.bool true) ∧ Below W.heap.size W w' := by
  rw [Try.params8] at ht
  obtain ⟨a0, xs, rfl, g0, a1, xs, rfl, g1, rfl⟩ := ht
  obtain ⟨a0, rfl, wa0⟩ := typedV_int Try.underlying22 g0
  obtain ⟨ol, hol⟩ := opsT hR.aok (typedV_slice Try.underlying36 g1)
  obtain ⟨k, v, H', hex, rfl⟩ := run8 H hR.aok a0 _ ol hol
  exact law_of mixed tabA_ok spA_ok hex hR hv
end Go.Proofs.Ytjheedfobmlalaa.E
namespace Go.Proofs.Ytjheedfobmlalaa.gapsFloor
open Go.ChangeShapes Go.WideShapes Go.RowKit
set_option linter.unusedVariables false
theorem own : ownKnob Try.prog.godebug = none := by kernel_rfl
theorem types : (Try.f8.params.toList.all fun t => E.fit Try.prog 9 t && (Try.prog.readableRec t && decide (t < Try.prog.types.size))) = true := by kernel_rfl
set_option maxRecDepth 100000 in
theorem lifted (os : Os) (started : os.Started) (H : Type) (enc : TypeId × Value → H) :
    ReturnsInHanded {} Try.checked os 8 .any (Rows.gapsFloorSpec.pre6 enc Try.prog Try.f8 Rows.gapsFloorRow.domain false) (Rows.gapsFloorSpec.post enc Try.prog Try.f8 false true false false) :=
  E.law_lifted (C := Try.checked) (k := 9) (tb := 4) E.globals0 E.laid own started (by kernel_rfl) Try.func8
    (ChangeSpec.witness6 (enc := enc) (C := Try.checked) false ⟨#[], #[.int .u32 0, .slice none 0 0], []⟩ 8 (by kernel_rfl) (by kernel_rfl) (by kernel_rfl) (by kernel_rfl))
    rfl rfl Try.underlying4 (fun t ht => by have h := List.all_eq_true.1 types t ht; simp only [Bool.and_eq_true, decide_eq_true_eq] at h; exact h)
    (fun ds hd => by
      rw [Try.params8] at hd
      match ds, hd with
      | [d0, d1], _ => rfl) E.law8
theorem over : Rows.gapsFloorRow.holds Try.pinned (OpenSpec.ofChange Rows.gapsFloorSpec) :=
  OpenClaim.holds_of_wide 8 Try.f8 rfl rfl rfl rfl rfl rfl rfl ⟨rfl, rfl, rfl, rfl, rfl⟩ rfl rfl rfl rfl rfl (by kernel_rfl) Try.func8 (by kernel_rfl)
    (of_decide_eq_true (by kernel_rfl)) (by unfold Func.isWrapper; first | (rw [if_pos (by decide +kernel)]; kernel_rfl) | (rw [if_neg (by decide +kernel)]; exact ⟨rfl, rfl⟩))
    (fun os started H enc _ => lifted os started H enc)
end Go.Proofs.Ytjheedfobmlalaa.gapsFloor
namespace Go.Proofs.Ytjheedfobmlalaa
/-- The row, under a short name, for the claim. -/
theorem gapsFloor_holds : Rows.GapsFloorSaid := gapsFloor.over
#print axioms gapsFloor_holds
end Go.Proofs.Ytjheedfobmlalaa
