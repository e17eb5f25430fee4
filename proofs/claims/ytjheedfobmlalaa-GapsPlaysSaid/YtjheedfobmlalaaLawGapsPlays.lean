/- GapsPlays, for every input, without conditions. -/
import Derived.Test.YtjheedfobmlalaaGG3
import Derived.Test.YtjheedfobmlalaaRows
import Derived.ProofKit
import Derived.OpenShut
namespace Go.Proofs.Ytjheedfobmlalaa.E
open Go.RowKit (Below)
set_option linter.unusedVariables false
set_option linter.unusedSimpArgs false

set_option maxRecDepth 100000 in
set_option maxHeartbeats 4000000 in
theorem run5 (H0 : AH) (hok0 : H0.Ok) (a0 : Int) (v : AV) (ol : List (Int × Int)) (hv : ∀ H', Hs H' (allL H0) → Rw 2 H' v (ol.map opRow)) : Ev tabA spA (.fn (.func 5) [] []) [.i .u32 a0, v] H0 (fun v _ => v = .b true) := by
  have hH0 : Hs H0 (allL H0 ++ []) := allL_hs hok0
  refine Ev_C (F := x5) rfl ?_
  refine C_seq ?_
  refine C_region ?_
  refine O_p (.b false) (r_mv rfl) ?_
  refine O_nil ?_
  refine C_seq ?_
  refine C_region ?_
  refine O_call (Ev.mono (awake_ev hH0) fun v1 H2 hq3 => ?_)
  obtain ⟨rfl, hH4⟩ := hq3
  refine O_p (.b true) (r_mv rfl) ?_
  refine O_nil ?_
  refine C_seq ?_
  refine C_seq ?_
  refine C_region ?_
  refine O_p v (r_mv rfl) ?_
  refine O_p (.i .i64 (((ol.length : Nat)) : Int)) (r_lenOf (v := v) (n := ol.length) rfl ((hv _ hH4.top0.fst).lenOf (List.length_map ..)) (hv _ hH4.top0.fst).isSl) ?_
  refine O_p (.b (decide (100 < (((ol.length : Nat)) : Int)))) (r_gtr rfl rfl) ?_
  refine O_nil ?_
  refine C_cond (x := (decide (100 < (((ol.length : Nat)) : Int)))) rfl (fun hc5 => ?_) (fun hc5 => ?_)
  ·
    try simp only [decide_eq_true_eq, decide_eq_false_iff_not, Bool.not_eq_true', Bool.not_eq_false', Bool.and_eq_true, Bool.or_eq_true, Bool.or_eq_false_iff, Bool.not_not, Bool.and_eq_false_iff] at hc5
    refine C_seq ?_
    refine C_region ?_
    refine O_p (.b true) (r_mv rfl) ?_
    refine O_p (.b true) (r_mv rfl) ?_
    refine O_nil ?_
    refine C_ret ?_
    refine nx_ret ?_
    exact ⟨.inr rfl, _, resL_one (r_tmp (v := .b true) rfl), rfl⟩
  ·
    try simp only [decide_eq_true_eq, decide_eq_false_iff_not, Bool.not_eq_true', Bool.not_eq_false', Bool.and_eq_true, Bool.or_eq_true, Bool.or_eq_false_iff, Bool.not_not, Bool.and_eq_false_iff] at hc5
    have hlen : ol.length ≤ 100 := by omega
    refine C_skip ?_
    refine C_seq ?_
    refine C_region ?_
    refine O_p (.i .u32 a0) (r_mv rfl) ?_
    refine O_call (Ev.mono (new_ev hH4).sp fun v6 H7 hq8 => ?_)
    obtain ⟨ga, S0, rfl, hG0, hHn⟩ := hq8
    refine O_p (.p (some (ga, 0))) (r_mv rfl) ?_
    refine O_nil ?_
    refine C_seq ?_
    refine C_region ?_
    refine O_p (.i .u32 a0) (r_mv rfl) ?_
    refine O_call (Ev.mono (new2_ev hHn).sp fun v9 H10 hq11 => ?_)
    obtain ⟨gb, T0, rfl, hD0, hHm⟩ := hq11
    refine O_p (.p (some (gb, 0))) (r_mv rfl) ?_
    refine O_nil ?_
    refine C_seq ?_
    refine C_seq ?_
    refine C_region ?_
    refine O_p (.i .i64 0) (r_mv rfl) ?_
    refine O_nil ?_
    refine C_block ?_
    have hH12 := (((hHm.top2).top2).top2)
    refine C_while (fun m13 T14 H15 => ∃ s : Gp, ∃ S : HL, ∃ T : HL, ∃ i : Nat, m13 = ol.length - i ∧ i ≤ ol.length ∧ GpH s ga S ∧ DpH s gb T ∧ s.d.length ≤ 64 ∧ s.l.length ≤ i ∧ Hs H15 (T ++ (S ++ ((allL H0) ++ ([])))) ∧ T14.get 0 = (.i .u32 a0) ∧ T14.get 1 = v ∧ T14.get 5 = (.b true) ∧ T14.get 6 = (.p (some (ga, 0))) ∧ T14.get 7 = (.p (some (gb, 0))) ∧ T14.get 8 = (.i .i64 (((i : Nat)) : Int))) (fun m13 T14 H15 hI16 => ?_) ol.length _ _ ⟨(⟨IntKind.u32.wrap (a0 - 1), [], []⟩ : Gp), S0, T0, 0, rfl, Nat.zero_le _, hG0, hD0, Nat.zero_le 64, Nat.zero_le _, hH12, rfl, rfl, rfl, rfl, rfl, rfl⟩
    obtain ⟨s, S, T, i, hm17, hp18, hp19, hp20, hp21, hp22, hH29, hT23, hT24, hT25, hT26, hT27, hT28⟩ := hI16
    refine C_seq ?_
    refine C_seq ?_
    refine C_region ?_
    refine O_p (.i .i64 (((i : Nat)) : Int)) (r_mv hT28) ?_
    refine O_p v (r_mv hT24) ?_
    refine O_p (.i .i64 (((ol.length : Nat)) : Int)) (r_lenOf (v := v) (n := ol.length) rfl ((hv _ hH29.top2.fst).lenOf (List.length_map ..)) (hv _ hH29.top2.fst).isSl) ?_
    refine O_p (.b (decide ((((i : Nat)) : Int) < (((ol.length : Nat)) : Int)))) (r_lss rfl rfl) ?_
    refine O_nil ?_
    refine C_cond (x := (decide ((((i : Nat)) : Int) < (((ol.length : Nat)) : Int)))) rfl (fun hc30 => ?_) (fun hc30 => ?_)
    ·
      try simp only [decide_eq_true_eq, decide_eq_false_iff_not, Bool.not_eq_true', Bool.not_eq_false', Bool.and_eq_true, Bool.or_eq_true, Bool.or_eq_false_iff, Bool.not_not, Bool.and_eq_false_iff] at hc30
      refine C_skip ?_
      refine C_seq ?_
      refine C_block ?_
      refine C_seq ?_
      refine C_region ?_
      have hil : i < ol.length := by omega
      obtain ⟨o, hoi⟩ : ∃ y, ol[i]? = some y := ⟨_, List.getElem?_eq_getElem hil⟩
      have hn0 : 0 ≤ (IntKind.u32.wrap (a0 + o.2)) := by rw [wrap_u32]; omega
      have hn1 : (IntKind.u32.wrap (a0 + o.2)) < 4294967296 := by rw [wrap_u32]; omega
      refine O_p (.i .u32 a0) (r_mv hT23) ?_
      refine O_p v (r_mv hT24) ?_
      refine O_p (.i .i64 (((i : Nat)) : Int)) (r_mv hT28) ?_
      refine O_q (by exact Rw.row (hv _ hH29.top2.fst) rfl (i := i) rfl (r := [(.i .i64 o.1), (.i .u32 o.2)]) (op_row hoi)) fun v32 hv31 => ?_
      obtain ⟨rb33, ro34, rfl, hr35⟩ := hv31
      refine O_p (.p (some (rb33, (ro34 + 1)))) (r_fadd' rfl rfl) ?_
      refine O_p (.i .u32 o.2) (r_ldR (q := 1) rfl (hr35 _ (hv _ hH29.top2.fst)) rfl) ?_
      refine O_p (.i .u32 (IntKind.u32.wrap (a0 + o.2))) (r_bin rfl rfl rfl) ?_
      refine O_p (.i .u32 (IntKind.u32.wrap (a0 + o.2))) (r_mv rfl) ?_
      refine O_nil ?_
      refine C_cut (fun T36 H37 => ∃ s2 : Gp, ∃ S2 : HL, ∃ T2 : HL, GpH s2 ga S2 ∧ DpH s2 gb T2 ∧ s2.d.length ≤ 64 ∧ s2.l.length ≤ i + 1 ∧ Hs H37 (T2 ++ (S2 ++ ((allL H0) ++ ([])))) ∧ T36.get 0 = (.i .u32 a0) ∧ T36.get 1 = v ∧ T36.get 5 = (.b true) ∧ T36.get 6 = (.p (some (ga, 0))) ∧ T36.get 7 = (.p (some (gb, 0))) ∧ T36.get 8 = (.i .i64 (((i : Nat)) : Int)) ∧ T36.get 9 = (.i .u32 (IntKind.u32.wrap (a0 + o.2)))) ?_ (fun T36 H37 hI38 => ?_)
      ·
        refine C_seq ?_
        refine C_region ?_
        refine O_p v (r_mv hT24) ?_
        refine O_p (.i .i64 (((i : Nat)) : Int)) (r_mv hT28) ?_
        refine O_q (by exact Rw.row (hv _ hH29.top2.fst) rfl (i := i) rfl (r := [(.i .i64 o.1), (.i .u32 o.2)]) (op_row hoi)) fun v40 hv39 => ?_
        obtain ⟨rb41, ro42, rfl, hr43⟩ := hv39
        refine O_p (.p (some (rb41, (ro42 + 0)))) (r_fadd' rfl rfl) ?_
        refine O_p (.i .i64 o.1) (r_ldR (q := 0) rfl (hr43 _ (hv _ hH29.top2.fst)) rfl) ?_
        refine O_nil ?_
        refine C_block ?_
        refine C_seq ?_
        refine C_region ?_
        refine O_p (.b (decide (o.1 = 0))) (r_eql rfl rfl) ?_
        refine O_p (.b (decide (o.1 = 0))) (r_mv rfl) ?_
        refine O_nil ?_
        refine C_cond (x := (decide (o.1 = 0))) rfl (fun hc44 => ?_) (fun hc44 => ?_)
        ·
          try simp only [decide_eq_true_eq, decide_eq_false_iff_not, Bool.not_eq_true', Bool.not_eq_false', Bool.and_eq_true, Bool.or_eq_true, Bool.or_eq_false_iff, Bool.not_not, Bool.and_eq_false_iff] at hc44
          refine C_seq ?_
          refine C_region ?_
          refine O_p (.p (some (ga, 0))) (r_mv hT26) ?_
          refine O_p (.i .u32 (IntKind.u32.wrap (a0 + o.2))) (r_mv rfl) ?_
          have hH45 := (hH29.top1)
          refine O_call (Ev.mono (add_ev (n := (IntKind.u32.wrap (a0 + o.2))) hp19 hH45 hp21).sp fun v46 H47 hq48 => ?_)
          obtain ⟨rfl, S49, hG50, hH51⟩ := hq48
          refine O_p (.p (some (gb, 0))) (r_mv hT27) ?_
          refine O_p (.i .u32 (IntKind.u32.wrap (a0 + o.2))) (r_mv rfl) ?_
          have hH52 := (hH51.top1)
          refine O_call (Ev.mono (add2_ev (s := s) (n := (IntKind.u32.wrap (a0 + o.2))) hp20 hH52 hn0 hn1 hp21).sp fun v53 H54 hq55 => ?_)
          obtain ⟨rfl, T56, hD57, hH58⟩ := hq55
          refine O_p (.b false) (r_nqq rfl rfl) ?_
          refine O_nil ?_
          refine C_cond (x := false) rfl (fun h => by cases h) (fun _ => ?_)
          refine C_skip ?_
          have hH59 := (((hH58.top2).top2).top2)
          exact ⟨rfl, (Gp.add s (IntKind.u32.wrap (a0 + o.2))), S49, T56, hG50, hD57, Gp.add_d s (IntKind.u32.wrap (a0 + o.2)) hp21, by have := Gp.add_len s (IntKind.u32.wrap (a0 + o.2)); omega, hH59, hT23, hT24, hT25, hT26, hT27, hT28, rfl⟩
        ·
          try simp only [decide_eq_true_eq, decide_eq_false_iff_not, Bool.not_eq_true', Bool.not_eq_false', Bool.and_eq_true, Bool.or_eq_true, Bool.or_eq_false_iff, Bool.not_not, Bool.and_eq_false_iff] at hc44
          refine C_seq ?_
          refine C_region ?_
          refine O_p (.b (decide (o.1 = 1))) (r_eql rfl rfl) ?_
          refine O_p (.b (decide (o.1 = 1))) (r_mv rfl) ?_
          refine O_nil ?_
          refine C_cond (x := (decide (o.1 = 1))) rfl (fun hc60 => ?_) (fun hc60 => ?_)
          ·
            try simp only [decide_eq_true_eq, decide_eq_false_iff_not, Bool.not_eq_true', Bool.not_eq_false', Bool.and_eq_true, Bool.or_eq_true, Bool.or_eq_false_iff, Bool.not_not, Bool.and_eq_false_iff] at hc60
            refine C_seq ?_
            refine C_region ?_
            refine O_p (.p (some (ga, 0))) (r_mv hT26) ?_
            refine O_p (.i .u32 (IntKind.u32.wrap (a0 + o.2))) (r_mv rfl) ?_
            have hH61 := (hH29.top1)
            refine O_call (Ev.mono (fwd_ev (n := (IntKind.u32.wrap (a0 + o.2))) hp19 hH61) fun v62 H63 hq64 => ?_)
            obtain ⟨rfl, S65, hG66, hH67⟩ := hq64
            refine O_nil ?_
            refine C_region ?_
            refine O_p (.p (some (gb, 0))) (r_mv hT27) ?_
            refine O_p (.i .u32 (IntKind.u32.wrap (a0 + o.2))) (r_mv rfl) ?_
            have hH68 := (hH67.top1)
            refine O_call (Ev.mono (fwd2_ev (s := s) (n := (IntKind.u32.wrap (a0 + o.2))) hp20 hH68 hn0 hn1).sp fun v69 H70 hq71 => ?_)
            obtain ⟨rfl, T72, hD73, hH74⟩ := hq71
            refine O_nil ?_
            have hH75 := (((hH74.top2).top2).top2)
            exact ⟨rfl, (Gp.fwd s (IntKind.u32.wrap (a0 + o.2))), S65, T72, hG66, hD73, by rw [Gp.fwd_d]; exact hp21, by have := Gp.fwd_len s (IntKind.u32.wrap (a0 + o.2)); omega, hH75, hT23, hT24, hT25, hT26, hT27, hT28, rfl⟩
          ·
            try simp only [decide_eq_true_eq, decide_eq_false_iff_not, Bool.not_eq_true', Bool.not_eq_false', Bool.and_eq_true, Bool.or_eq_true, Bool.or_eq_false_iff, Bool.not_not, Bool.and_eq_false_iff] at hc60
            refine C_seq ?_
            refine C_region ?_
            refine O_p (.p (some (ga, 0))) (r_mv hT26) ?_
            have hH76 := (hH29.top1)
            refine O_call (Ev.mono (dups_ev (s := s) hp19 hH76).sp fun v77 H78 hq79 => ?_)
            obtain ⟨dc80, S81, hd82, hG83, hH84⟩ := hq79
            refine O_p (.p (some (gb, 0))) (r_mv hT27) ?_
            have hH85 := (hH84.top2)
            refine O_call (Ev.mono (dups2_ev (s := s) hp20 hH85).sp fun v86 H87 hq88 => ?_)
            obtain ⟨dc89, S90, hd91, hG92, hH93⟩ := hq88
            have hH94 := ((hH93.top1).top3)
            refine O_call (Ev.mono (num_ev (la := s.d) (lb := s.d) hd82 hd91 (by omega) (by omega) hH94) fun v95 H96 hq97 => ?_)
            rw [decide_eq_true (show s.d = s.d from rfl)] at hq97
            obtain ⟨rfl, hH98⟩ := hq97
            refine O_p (.b false) (r_un rfl rfl) ?_
            refine O_nil ?_
            refine C_cond (x := false) rfl (fun h => by cases h) (fun _ => ?_)
            refine C_skip ?_
            have hH99 := ((hH98.sub0).sub0)
            have hH100 := (((hH99.top2).top2).top2)
            exact ⟨rfl, (⟨s.c, s.l, []⟩ : Gp), S81, S90, hG83, hG92, Nat.zero_le 64, by have := hp22; show s.l.length ≤ _; omega, hH100, hT23, hT24, hT25, hT26, hT27, hT28, rfl⟩
      ·
        obtain ⟨s2, S2, T2, hp101, hp102, hp103, hp104, hH112, hT105, hT106, hT107, hT108, hT109, hT110, hT111⟩ := hI38
        obtain ⟨mv, mc, mk, dv, dc, hDs, hms, hdv, rfl⟩ := hp102
        have hH113 := hH112.assoc
        have hH114 := hH113.assoc1
        refine C_seq ?_
        refine C_draw fun b115 H116 hbase117 hA118 => ?_
        have hH119 := hH114.keep (by have := hA118.1; omega) (fun q _ => hA118.2 q) ((hH114.old).aside hA118).ok
        refine D_l (v := (.p (some (ga, 0)))) rfl rfl rfl (r_mv hT108) ?_
        refine D_l (v := (.p (some (gb, 0)))) rfl rfl rfl (r_mv hT109) ?_
        refine D_l (v := (.p (some (gb, 0)))) rfl rfl rfl (r_nilc rfl) ?_
        refine D_l (v := (.p (some (gb, 0)))) rfl rfl rfl (r_fadd' rfl rfl) ?_
        refine D_r (v := (.i .u32 s2.c)) rfl rfl rfl (r_ld rfl hH119.get0 rfl) ?_
        have hH120 := (hH119.top3)
        refine D_call (Ev.mono (cum_ev hp101 hH120).sp fun v121 H122 hq123 => ?_)
        obtain ⟨rfl, hH124⟩ := hq123
        refine And.intro (And.intro (Or.inr (look_run rfl rfl (r_ld rfl hH124.get1 rfl))) True.intro) ?_
        refine D_l (v := (.b false)) rfl rfl rfl (r_nqq rfl rfl) ?_
        refine D_l (v := (.b false)) rfl rfl rfl (r_mv rfl) ?_
        refine D_gk rfl ?_
        refine D_l (v := (.p (some (ga, 0)))) rfl rfl rfl (r_mv hT108) ?_
        refine D_gk rfl ?_
        refine D_l (v := (.p (some (gb, 0)))) rfl rfl rfl (r_mv hT109) ?_
        refine D_gk rfl ?_
        refine D_call (Ev.mono (len_ev hp101 hH124).sp fun v125 H126 hq127 => ?_)
        obtain ⟨rfl, hH128⟩ := hq127
        refine And.intro (And.intro (Or.inl rfl) True.intro) ?_
        refine D_gk rfl ?_
        have hH129 := (((hH128.top3).top3).top3)
        refine D_call (Ev.mono (len2_ev ⟨mv, mc, mk, dv, dc, hDs, hms, hdv, rfl⟩ (Hs.unc hH129)).sp fun v130 H131 hq132 => ?_)
        obtain ⟨rfl, hH133⟩ := hq132
        have hH134 := Hs.assoc1 (Hs.assoc hH133)
        refine And.intro True.intro ?_
        refine D_gk rfl ?_
        refine D_l (v := (.b false)) rfl rfl rfl (r_nqq rfl rfl) ?_
        refine D_l (v := (.b false)) rfl rfl rfl (r_pick_f rfl rfl) ?_
        refine D_l (v := (.b false)) rfl rfl rfl (r_mv rfl) ?_
        refine D_gk rfl ?_
        refine D_l (v := (.p (some (ga, 0)))) rfl rfl rfl (r_mv hT108) ?_
        refine D_gk rfl ?_
        refine D_l (v := (.p (some (gb, 0)))) rfl rfl rfl (r_mv hT109) ?_
        refine D_gk rfl ?_
        have hH135 := (hH134.top3)
        refine D_call (Ev.mono (blocks_ev sort_all (by decide) (by omega) hp101 hH135) fun v136 H137 hq138 => ?_)
        obtain ⟨rc139, hr140, hH141⟩ := hq138
        have hBl : (blocksF s2.c s2.l).length ≤ 64 := List.length_take_le ..
        refine And.intro True.intro ?_
        refine D_gk rfl ?_
        have hH142 := (((hH141.top4).top4).top4)
        refine D_call (Ev.mono (blocks2_ev ⟨mv, mc, mk, dv, dc, hDs, hms, hdv, rfl⟩ (Hs.unc hH142)).sp fun v143 H144 hq145 => ?_)
        obtain ⟨rc146, hr147, hH148⟩ := hq145
        have hH149 := Hs.assoc1 (Hs.assoc hH148)
        refine And.intro True.intro ?_
        refine D_gk rfl ?_
        have hH151 := ((hH149.top3).top5)
        refine D_call (Ev.mono (blk_ev (la := (blocksF s2.c s2.l)) (lb := (blocksF s2.c s2.l)) hr140 hr147 (by omega) (by omega) hH151) fun v152 H153 hq154 => ?_)
        rw [decide_eq_true (show (blocksF s2.c s2.l) = (blocksF s2.c s2.l) from rfl)] at hq154
        obtain ⟨rfl, hH155⟩ := hq154
        refine And.intro True.intro ?_
        refine D_gk rfl ?_
        refine D_l (v := (.b false)) rfl rfl rfl (r_un rfl rfl) ?_
        refine D_l (v := (.b false)) rfl rfl rfl (r_pick_f rfl rfl) ?_
        refine D_l (v := (.b false)) rfl rfl rfl (r_mv rfl) ?_
        refine D_gk rfl ?_
        refine D_l (v := (.p (some (ga, 0)))) rfl rfl rfl (r_mv hT108) ?_
        refine D_gk rfl ?_
        refine D_l (v := (.i .u32 (IntKind.u32.wrap (a0 + o.2)))) rfl rfl rfl (r_mv hT111) ?_
        refine D_gk rfl ?_
        refine D_l (v := (.p (some (gb, 0)))) rfl rfl rfl (r_mv hT109) ?_
        refine D_gk rfl ?_
        refine D_l (v := (.i .u32 (IntKind.u32.wrap (a0 + o.2)))) rfl rfl rfl (r_mv hT111) ?_
        refine D_gk rfl ?_
        have hH156 := (hH155.top5)
        refine D_call (Ev.mono (has_ev (n := (IntKind.u32.wrap (a0 + o.2))) hp101 hH156).sp fun v157 H158 hq159 => ?_)
        obtain ⟨rfl, hH160⟩ := hq159
        refine And.intro True.intro ?_
        refine D_gk rfl ?_
        have hH161 := (((hH160.top5).top5).top5)
        refine D_call (Ev.mono (has2_ev (n := (IntKind.u32.wrap (a0 + o.2))) ⟨mv, mc, mk, dv, dc, hDs, hms, hdv, rfl⟩ (Hs.unc hH161) hn0 hn1).sp fun v162 H163 hq164 => ?_)
        obtain ⟨rfl, hH165⟩ := hq164
        have hH166 := Hs.assoc1 (Hs.assoc hH165)
        refine And.intro True.intro ?_
        refine D_gk rfl ?_
        refine D_l (v := (.b false)) rfl rfl rfl (by exact (by rw [r_beq rfl rfl]; simp)) ?_
        refine D_l (v := (.b false)) rfl rfl rfl (r_pick_f rfl rfl) ?_
        refine D_l (v := (.b false)) rfl rfl rfl (r_mv rfl) ?_
        refine D_gk rfl ?_
        refine D_l (v := (.p (some (ga, 0)))) rfl rfl rfl (r_mv hT108) ?_
        refine D_gk rfl ?_
        refine D_l (v := (.i .u32 (IntKind.u32.wrap (a0 + o.2)))) rfl rfl rfl (r_mv hT111) ?_
        refine D_gk rfl ?_
        refine D_l (v := (.i .u32 (IntKind.u32.wrap ((IntKind.u32.wrap (a0 + o.2)) + 1)))) rfl rfl rfl (r_bin rfl rfl rfl) ?_
        refine D_gk rfl ?_
        refine D_l (v := (.p (some (gb, 0)))) rfl rfl rfl (r_mv hT109) ?_
        refine D_gk rfl ?_
        refine D_l (v := (.i .u32 (IntKind.u32.wrap (a0 + o.2)))) rfl rfl rfl (r_mv hT111) ?_
        refine D_gk rfl ?_
        refine D_l (v := (.i .u32 (IntKind.u32.wrap ((IntKind.u32.wrap (a0 + o.2)) + 1)))) rfl rfl rfl (r_bin rfl rfl rfl) ?_
        refine D_gk rfl ?_
        have hH167 := (hH166.top3)
        refine D_call (Ev.mono (has_ev (n := (IntKind.u32.wrap ((IntKind.u32.wrap (a0 + o.2)) + 1))) hp101 hH167).sp fun v168 H169 hq170 => ?_)
        obtain ⟨rfl, hH171⟩ := hq170
        refine And.intro True.intro ?_
        refine D_gk rfl ?_
        have hH172 := (((hH171.top3).top3).top3)
        refine D_call (Ev.mono (has2_ev (n := (IntKind.u32.wrap ((IntKind.u32.wrap (a0 + o.2)) + 1))) ⟨mv, mc, mk, dv, dc, hDs, hms, hdv, rfl⟩ (Hs.unc hH172) (by rw [wrap_u32]; omega) (by rw [wrap_u32]; omega)).sp fun v173 H174 hq175 => ?_)
        obtain ⟨rfl, hH176⟩ := hq175
        have hH177 := Hs.assoc1 (Hs.assoc hH176)
        refine And.intro True.intro ?_
        refine D_gk rfl ?_
        refine D_l (v := (.b false)) rfl rfl rfl (by exact (by rw [r_beq rfl rfl]; simp)) ?_
        refine D_l (v := (.b false)) rfl rfl rfl (r_pick_f rfl rfl) ?_
        refine D_nil ?_
        refine C_cond (x := false) rfl (fun h => by cases h) (fun _ => ?_)
        refine C_skip ?_
        refine C_region ?_
        refine O_p (.i .i64 (((i : Nat)) : Int)) (r_mv hT110) ?_
        refine O_p (.i .i64 ((((i : Nat)) : Int) + 1)) (by exact (r_addi rfl rfl (wrap_i64 (by omega) (by omega)))) ?_
        refine O_p (.i .i64 ((((i : Nat)) : Int) + 1)) (r_mv rfl) ?_
        refine O_nil ?_
        have hH178 := ((hH177.sub4).sub4)
        have hH179 := (((((hH178.top4).top4).top4).top4).top4)
        have hH180 := Hs.unc hH179
        exact ⟨ol.length - (i + 1), by omega, s2, S2, _, (i + 1), rfl, by omega, hp101, ⟨mv, mc, mk, dv, dc, hDs, hms, hdv, rfl⟩, hp103, hp104, hH180, hT105, hT106, hT107, hT108, hT109, rfl⟩
    ·
      try simp only [decide_eq_true_eq, decide_eq_false_iff_not, Bool.not_eq_true', Bool.not_eq_false', Bool.and_eq_true, Bool.or_eq_true, Bool.or_eq_false_iff, Bool.not_not, Bool.and_eq_false_iff] at hc30
      refine C_exit ?_
      refine nx_exit ?_
      refine nx_exit ?_
      refine bk_hit ?_
      refine C_seq ?_
      refine C_region ?_
      refine O_p (.b true) (r_mv hT25) ?_
      refine O_p (.b true) (r_mv rfl) ?_
      refine O_nil ?_
      refine C_ret ?_
      exact ⟨.inr rfl, _, resL_one (r_tmp (v := .b true) rfl), rfl⟩
set_option maxRecDepth 100000 in
theorem law5 (W : World) (ρ : Rho) (H : AH) (xs : List AV) (args : Array Value) (hR : Rel Try.prog W.heap.size W ρ H W) (hro : RO H) (hv : VRL ρ xs args.toList) (ht : TypedVs Try.prog H 9 Try.f5.params.toList xs) :
    Calls Try.prog 5 args W fun e w' => e = .returned (.bool true) ∧ Below W.heap.size W w' := by
  rw [Try.params5] at ht
  obtain ⟨a0, xs, rfl, g0, a1, xs, rfl, g1, rfl⟩ := ht
  obtain ⟨a0, rfl, wa0⟩ := typedV_int Try.underlying22 g0
  obtain ⟨ol, hol⟩ := opsT hR.aok (typedV_slice Try.underlying36 g1)
  obtain ⟨k, v, H', hex, rfl⟩ := run5 H hR.aok a0 _ ol hol
  exact law_of mixed tabA_ok spA_ok hex hR hv
end Go.Proofs.Ytjheedfobmlalaa.E
namespace Go.Proofs.Ytjheedfobmlalaa.gapsPlays
open Go.ChangeShapes Go.WideShapes Go.RowKit
set_option linter.unusedVariables false
theorem own : ownKnob Try.prog.godebug = none := by kernel_rfl
theorem types : (Try.f5.params.toList.all fun t => E.fit Try.prog 9 t && (Try.prog.readableRec t && decide (t < Try.prog.types.size))) = true := by kernel_rfl
set_option maxRecDepth 100000 in
theorem lifted (os : Os) (started : os.Started) (H : Type) (enc : TypeId × Value → H) :
    ReturnsInHanded {} Try.checked os 5 .any (Rows.gapsPlaysSpec.pre6 enc Try.prog Try.f5 Rows.gapsPlaysRow.domain false) (Rows.gapsPlaysSpec.post enc Try.prog Try.f5 false true false false) :=
  E.law_lifted (C := Try.checked) (k := 9) (tb := 4) E.globals0 E.laid own started (by kernel_rfl) Try.func5
    (ChangeSpec.witness6 (enc := enc) (C := Try.checked) false ⟨#[], #[.int .u32 0, .slice none 0 0], []⟩ 8 (by kernel_rfl) (by kernel_rfl) (by kernel_rfl) (by kernel_rfl))
    rfl rfl Try.underlying4 (fun t ht => by have h := List.all_eq_true.1 types t ht; simp only [Bool.and_eq_true, decide_eq_true_eq] at h; exact h)
    (fun ds hd => by
      rw [Try.params5] at hd
      match ds, hd with
      | [d0, d1], _ => rfl) E.law5
theorem over : Rows.gapsPlaysRow.holds Try.pinned (OpenSpec.ofChange Rows.gapsPlaysSpec) :=
  OpenClaim.holds_of_wide 5 Try.f5 rfl rfl rfl rfl rfl rfl rfl ⟨rfl, rfl, rfl, rfl, rfl⟩ rfl rfl rfl rfl rfl (by kernel_rfl) Try.func5 (by kernel_rfl)
    (of_decide_eq_true (by kernel_rfl)) (by unfold Func.isWrapper; first | (rw [if_pos (by decide +kernel)]; kernel_rfl) | (rw [if_neg (by decide +kernel)]; exact ⟨rfl, rfl⟩))
    (fun os started H enc _ => lifted os started H enc)
end Go.Proofs.Ytjheedfobmlalaa.gapsPlays
namespace Go.Proofs.Ytjheedfobmlalaa
/-- The row, under a short name, for the claim. -/
theorem gapsPlays_holds : Rows.GapsPlaysSaid := gapsPlays.over
#print axioms gapsPlays_holds
end Go.Proofs.Ytjheedfobmlalaa
