/- WindowStays, for every input, without conditions. -/
import Derived.Test.YtjnceigeejdleaaS
import Derived.Test.YtjnceigeejdleaaRows
import Derived.ProofKit
import Derived.OpenShut
namespace Go.Proofs.Ytjnceigeejdleaa.E
open Go.RowKit (Below)
set_option linter.unusedVariables false
set_option linter.unusedSimpArgs false
set_option maxRecDepth 100000 in
theorem run3 (H0 : AH) (hok0 : H0.Ok) (m : Int) (v : AV) (rows : List (List AV)) (hrv : ∀ H', Hs H' (allL H0) → Rw 4 H' v rows) (hrt : ∀ (i : Nat) (r : List AV), rows[i]? = some r → ∃ wh n f y, r = [.i .i64 wh, .i .i64 n, .b f, .i .u32 y]) : Ev tabA spA (.fn (.func 3) [] []) [.i .i64 m, v] H0 (fun v _ => v = .b true) := by
  have hH0 := allL_hs hok0
  refine Ev_C (F := x3) rfl ?_
  refine C_seq ?_
  refine C_region ?_
  refine O_p (.b false) (r_mv rfl) ?_
  refine O_nil ?_
  refine C_seq ?_
  refine C_region ?_
  refine O_call (Ev_sp (v := (.b true)) rfl rfl ?_)
  refine O_p (.b true) (r_mv rfl) ?_
  refine O_nil ?_
  refine C_seq ?_
  refine C_seq ?_
  refine C_region ?_
  refine O_p v (r_mv rfl) ?_
  refine O_p (.i .i64 (((rows.length : Nat)) : Int)) (r_lenOf rfl ((hrv _ hH0.top0.fst).lenOf rfl) (hrv _ hH0.top0.fst).isSl) ?_
  refine O_p (.b (decide (2000 < (((rows.length : Nat)) : Int)))) (r_gtr rfl rfl) ?_
  refine O_nil ?_
  refine C_cond (x := (decide (2000 < (((rows.length : Nat)) : Int)))) rfl (fun hc1 => ?_) (fun hc1 => ?_)
  ·
    try simp only [decide_eq_true_eq, decide_eq_false_iff_not, Bool.not_eq_true', Bool.not_eq_false', Bool.and_eq_true, Bool.or_eq_true, Bool.or_eq_false_iff, Bool.not_not, Bool.and_eq_false_iff] at hc1
    refine C_seq ?_
    refine C_region ?_
    refine O_p (.b true) (r_mv rfl) ?_
    refine O_p (.b true) (r_mv rfl) ?_
    refine O_nil ?_
    refine C_ret ?_
    refine nx_ret ?_
    exact ⟨.inr rfl, _, resL_one (r_tmp (v := .b true) rfl), rfl⟩
  ·
    try simp only [decide_eq_true_eq, decide_eq_false_iff_not, Bool.not_eq_true', Bool.not_eq_false', Bool.and_eq_true, Bool.or_eq_true, Bool.or_eq_false_iff, Bool.not_not, Bool.and_eq_false_iff] at hc1
    refine C_skip ?_
    refine C_seq ?_
    refine C_region ?_
    refine O_p (.i .i64 m) (r_mv rfl) ?_
    refine O_call (Ev.mono (start_ev hH0) fun v2 H3 hq4 => ?_)
    obtain ⟨sa5, sb6, sc7, sd12, sx8, se9, rfl, hok10, hH11⟩ := hq4
    refine O_alloc fun n13 H14 hN15 => ?_
    have hH16 := hH11.new hN15
    refine O_store (vs := [(.i .i64 sa5), (.i .i64 sb6), (.i .i64 sc7), (.i .i64 sd12), (.b se9), (.i .u32 sx8)]) (c' := [(.i .i64 sa5), (.i .i64 sb6), (.i .i64 sc7), (.i .i64 sd12), (.b se9), (.i .u32 sx8)]) rfl (by rfl) hH16.get0 rfl (List.cons_ne_nil _ _) (Nat.le_of_ble_eq_true rfl) rfl fun H17 hW18 => ?_
    have hH19 := hH16.wr0 hW18
    refine O_nil ?_
    refine C_seq ?_
    refine C_region ?_
    refine O_p (.p (some (n13, 3))) (r_fadd' rfl rfl) ?_
    refine O_p (.i .i64 sd12) (r_ld rfl hH19.get0 rfl) ?_
    refine O_p (.i .i64 sd12) (r_mv rfl) ?_
    refine O_nil ?_
    refine C_seq ?_
    refine C_seq ?_
    refine C_region ?_
    refine O_p (.i .i64 0) (r_mv rfl) ?_
    refine O_nil ?_
    refine C_block ?_
    have hH20 := ((hH19.top1).top1)
    have hdd : 1 ≤ sd12 ∧ sd12 ≤ 65536 := hok10.1
    refine C_while (fun m21 T22 H23 => ∃ a : Int, ∃ b : Int, ∃ c : Int, ∃ x : Int, ∃ e : Bool, ∃ i : Nat, m21 = rows.length - i ∧ i ≤ rows.length ∧ WOk a b c sd12 ∧ Hs H23 ([(n13, some (.cells ([(.i .i64 a), (.i .i64 b), (.i .i64 c), (.i .i64 sd12), (.b e), (.i .u32 x)]) true))] ++ ((allL H0) ++ ([]))) ∧ T22.get 1 = v ∧ T22.get 4 = (.b false) ∧ T22.get 5 = (.b true) ∧ T22.get 6 = (.p (some (n13, 0))) ∧ T22.get 7 = (.i .i64 sd12) ∧ T22.get 8 = (.i .i64 (((i : Nat)) : Int))) (fun m21 T22 H23 hI24 => ?_) rows.length _ _ ⟨sa5, sb6, sc7, sx8, se9, 0, rfl, Nat.zero_le _, hok10, hH20, rfl, rfl, rfl, rfl, rfl, rfl⟩
    obtain ⟨a, b, c, x, e, i, hm25, hp26, hp27, hH34, hT28, hT29, hT30, hT31, hT32, hT33⟩ := hI24
    refine C_seq ?_
    refine C_seq ?_
    refine C_region ?_
    refine O_p (.i .i64 (((i : Nat)) : Int)) (r_mv hT33) ?_
    refine O_p v (r_mv hT28) ?_
    refine O_p (.i .i64 (((rows.length : Nat)) : Int)) (r_lenOf rfl ((hrv _ hH34.top1.fst).lenOf rfl) (hrv _ hH34.top1.fst).isSl) ?_
    refine O_p (.b (decide ((((i : Nat)) : Int) < (((rows.length : Nat)) : Int)))) (r_lss rfl rfl) ?_
    refine O_nil ?_
    refine C_cond (x := (decide ((((i : Nat)) : Int) < (((rows.length : Nat)) : Int)))) rfl (fun hc35 => ?_) (fun hc35 => ?_)
    ·
      try simp only [decide_eq_true_eq, decide_eq_false_iff_not, Bool.not_eq_true', Bool.not_eq_false', Bool.and_eq_true, Bool.or_eq_true, Bool.or_eq_false_iff, Bool.not_not, Bool.and_eq_false_iff] at hc35
      refine C_skip ?_
      refine C_seq ?_
      refine C_block ?_
      refine C_seq ?_
      refine C_seq ?_
      refine C_region ?_
      have hin : i < rows.length := by omega
      obtain ⟨r, hr⟩ : ∃ r, rows[i]? = some r := ⟨_, List.getElem?_eq_getElem hin⟩
      obtain ⟨wh, n, f, y, rfl⟩ := hrt i r hr
      refine O_p v (r_mv hT28) ?_
      refine O_p (.i .i64 (((i : Nat)) : Int)) (r_mv hT33) ?_
      refine O_q (by exact Rw.row (hrv _ hH34.top1.fst) rfl (i := i) rfl (r := [(.i .i64 wh), (.i .i64 n), (.b f), (.i .u32 y)]) hr) fun v37 hv36 => ?_
      obtain ⟨rb38, ro39, rfl, hr40⟩ := hv36
      refine O_p (.p (some (rb38, (ro39 + 0)))) (r_fadd' rfl rfl) ?_
      refine O_p (.i .i64 wh) (r_ldR (q := 0) rfl (hr40 _ (hrv _ hH34.top1.fst)) rfl) ?_
      refine O_nil ?_
      refine C_block ?_
      refine C_seq ?_
      refine C_region ?_
      refine O_p (.b (decide (wh = 0))) (r_eql rfl rfl) ?_
      refine O_p (.b (decide (wh = 0))) (r_mv rfl) ?_
      refine O_nil ?_
      refine C_cond (x := (decide (wh = 0))) rfl (fun hc41 => ?_) (fun hc41 => ?_)
      ·
        try simp only [decide_eq_true_eq, decide_eq_false_iff_not, Bool.not_eq_true', Bool.not_eq_false', Bool.and_eq_true, Bool.or_eq_true, Bool.or_eq_false_iff, Bool.not_not, Bool.and_eq_false_iff] at hc41
        refine C_draw fun b42 H43 hbase44 hA45 => ?_
        have hH46 := hH34.keep (by have := hA45.1; omega) (fun q _ => hA45.2 q) ((hH34.old).aside hA45).ok
        refine D_l (v := v) rfl rfl rfl (r_mv hT28) ?_
        refine D_l (v := (.i .i64 (((i : Nat)) : Int))) rfl rfl rfl (r_mv hT33) ?_
        refine D_q rfl rfl rfl (by exact Rw.row (hrv _ hH46.top1.fst) rfl (i := i) rfl (r := [(.i .i64 wh), (.i .i64 n), (.b f), (.i .u32 y)]) hr) fun v48 hv47 => ?_
        obtain ⟨rb49, ro50, rfl, hr51⟩ := hv47
        refine D_l (v := (.p (some (rb49, (ro50 + 1))))) rfl rfl rfl (r_fadd' rfl rfl) ?_
        refine D_l (v := v) rfl rfl rfl (r_mv hT28) ?_
        refine D_l (v := (.i .i64 (((i : Nat)) : Int))) rfl rfl rfl (r_mv hT33) ?_
        refine D_q rfl rfl rfl (by exact Rw.row (hrv _ hH46.top1.fst) rfl (i := i) rfl (r := [(.i .i64 wh), (.i .i64 n), (.b f), (.i .u32 y)]) hr) fun v53 hv52 => ?_
        obtain ⟨rb54, ro55, rfl, hr56⟩ := hv52
        refine D_l (v := (.p (some (rb54, (ro55 + 2))))) rfl rfl rfl (r_fadd' rfl rfl) ?_
        refine D_l (v := v) rfl rfl rfl (r_mv hT28) ?_
        refine D_l (v := (.i .i64 (((i : Nat)) : Int))) rfl rfl rfl (r_mv hT33) ?_
        refine D_q rfl rfl rfl (by exact Rw.row (hrv _ hH46.top1.fst) rfl (i := i) rfl (r := [(.i .i64 wh), (.i .i64 n), (.b f), (.i .u32 y)]) hr) fun v58 hv57 => ?_
        obtain ⟨rb59, ro60, rfl, hr61⟩ := hv57
        refine D_l (v := (.p (some (rb59, (ro60 + 3))))) rfl rfl rfl (r_fadd' rfl rfl) ?_
        refine D_r (v := (.agg [(.i .i64 a), (.i .i64 b), (.i .i64 c), (.i .i64 sd12), (.b e), (.i .u32 x)])) rfl rfl rfl (r_ldA hT31 hH46.get0 rfl) ?_
        refine D_r (v := (.i .i64 n)) rfl rfl rfl (r_ldR (q := 1) rfl (hr51 _ (hrv _ hH46.top1.fst)) rfl) ?_
        refine D_r (v := (.b f)) rfl rfl rfl (r_ldR (q := 2) rfl (hr56 _ (hrv _ hH46.top1.fst)) rfl) ?_
        refine D_r (v := (.i .u32 y)) rfl rfl rfl (r_ldR (q := 3) rfl (hr61 _ (hrv _ hH46.top1.fst)) rfl) ?_
        refine D_call (Ev.mono (acked_ev hp27 hH46) fun v62 H63 hq64 => ?_)
        obtain ⟨sa65, sb66, sc67, sx68, se69, rfl, hok70, hH71⟩ := hq64
        refine And.intro (And.intro (Or.inl rfl) (And.intro (Or.inl rfl) (And.intro (Or.inl rfl) (And.intro (Or.inl rfl) True.intro)))) ?_
        refine D_store (vs := [(.i .i64 sa65), (.i .i64 sb66), (.i .i64 sc67), (.i .i64 sd12), (.b se69), (.i .u32 sx68)]) (c' := [(.i .i64 sa65), (.i .i64 sb66), (.i .i64 sc67), (.i .i64 sd12), (.b se69), (.i .u32 sx68)]) hT31 (by rfl) hH71.get0 rfl (List.cons_ne_nil _ _) (Nat.le_of_ble_eq_true rfl) rfl fun H72 hW73 => ?_
        have hH74 := hH71.wr0 hW73
        refine And.intro True.intro ?_
        refine D_nil ?_
        refine C_seq ?_
        refine C_region ?_
        refine O_p (.p (some (n13, 3))) (r_fadd' hT31 rfl) ?_
        refine O_p (.i .i64 sd12) (r_ld rfl hH74.get0 rfl) ?_
        refine O_p (.i .i64 sd12) (r_mv hT32) ?_
        refine O_p (.b false) (r_nqq rfl rfl) ?_
        refine O_p (.b false) (r_mv rfl) ?_
        refine O_gk rfl ?_
        refine O_p (.agg [(.i .i64 sa65), (.i .i64 sb66), (.i .i64 sc67), (.i .i64 sd12), (.b se69), (.i .u32 sx68)]) (r_ldA hT31 hH74.get0 rfl) ?_
        refine O_gk rfl ?_
        refine O_call (Ev.mono (theirs_ev hH74) fun v75 H76 hq77 => ?_)
        obtain ⟨rfl, hH78⟩ := hq77
        refine O_gk rfl ?_
        refine O_call (Ev.mono (rmay_ev hok70 hH78) fun v79 H80 hq81 => ?_)
        obtain ⟨rfl, hH82⟩ := hq81
        refine O_gk rfl ?_
        refine O_p (.b false) (r_un rfl rfl) ?_
        refine O_p (.b false) (r_pick_f rfl rfl) ?_
        refine O_nil ?_
        refine C_cond (x := false) rfl (fun h => by cases h) (fun _ => ?_)
        refine C_skip ?_
        refine C_region ?_
        refine O_p (.i .i64 (((i : Nat)) : Int)) (r_mv hT33) ?_
        refine O_p (.i .i64 ((((i : Nat)) : Int) + 1)) (by exact (r_addi rfl rfl (wrap_i64 (by omega) (by omega)))) ?_
        refine O_p (.i .i64 ((((i : Nat)) : Int) + 1)) (r_mv rfl) ?_
        refine O_nil ?_
        have hH83 := ((hH82.top1).top1)
        exact ⟨rows.length - (i + 1), by omega, sa65, sb66, sc67, sx68, se69, (i + 1), rfl, by omega, hok70, hH83, hT28, hT29, hT30, hT31, hT32, rfl⟩
      ·
        try simp only [decide_eq_true_eq, decide_eq_false_iff_not, Bool.not_eq_true', Bool.not_eq_false', Bool.and_eq_true, Bool.or_eq_true, Bool.or_eq_false_iff, Bool.not_not, Bool.and_eq_false_iff] at hc41
        refine C_seq ?_
        refine C_region ?_
        refine O_p (.b (decide (wh = 1))) (r_eql rfl rfl) ?_
        refine O_p (.b (decide (wh = 1))) (r_mv rfl) ?_
        refine O_nil ?_
        refine C_cond (x := (decide (wh = 1))) rfl (fun hc84 => ?_) (fun hc84 => ?_)
        ·
          try simp only [decide_eq_true_eq, decide_eq_false_iff_not, Bool.not_eq_true', Bool.not_eq_false', Bool.and_eq_true, Bool.or_eq_true, Bool.or_eq_false_iff, Bool.not_not, Bool.and_eq_false_iff] at hc84
          refine C_draw fun b85 H86 hbase87 hA88 => ?_
          have hH89 := hH34.keep (by have := hA88.1; omega) (fun q _ => hA88.2 q) ((hH34.old).aside hA88).ok
          refine D_l (v := v) rfl rfl rfl (r_mv hT28) ?_
          refine D_l (v := (.i .i64 (((i : Nat)) : Int))) rfl rfl rfl (r_mv hT33) ?_
          refine D_q rfl rfl rfl (by exact Rw.row (hrv _ hH89.top1.fst) rfl (i := i) rfl (r := [(.i .i64 wh), (.i .i64 n), (.b f), (.i .u32 y)]) hr) fun v91 hv90 => ?_
          obtain ⟨rb92, ro93, rfl, hr94⟩ := hv90
          refine D_l (v := (.p (some (rb92, (ro93 + 3))))) rfl rfl rfl (r_fadd' rfl rfl) ?_
          refine D_r (v := (.agg [(.i .i64 a), (.i .i64 b), (.i .i64 c), (.i .i64 sd12), (.b e), (.i .u32 x)])) rfl rfl rfl (r_ldA hT31 hH89.get0 rfl) ?_
          refine D_r (v := (.i .u32 y)) rfl rfl rfl (r_ldR (q := 3) rfl (hr94 _ (hrv _ hH89.top1.fst)) rfl) ?_
          refine D_call (Ev.mono (lost_ev hp27 hH89) fun v95 H96 hq97 => ?_)
          obtain ⟨sa98, sb99, sc100, sx101, se102, rfl, hok103, hH104⟩ := hq97
          refine And.intro (And.intro (Or.inl rfl) (And.intro (Or.inl rfl) True.intro)) ?_
          refine D_store (vs := [(.i .i64 sa98), (.i .i64 sb99), (.i .i64 sc100), (.i .i64 sd12), (.b se102), (.i .u32 sx101)]) (c' := [(.i .i64 sa98), (.i .i64 sb99), (.i .i64 sc100), (.i .i64 sd12), (.b se102), (.i .u32 sx101)]) hT31 (by rfl) hH104.get0 rfl (List.cons_ne_nil _ _) (Nat.le_of_ble_eq_true rfl) rfl fun H105 hW106 => ?_
          have hH107 := hH104.wr0 hW106
          refine And.intro True.intro ?_
          refine D_nil ?_
          refine C_seq ?_
          refine C_region ?_
          refine O_p (.p (some (n13, 3))) (r_fadd' hT31 rfl) ?_
          refine O_p (.i .i64 sd12) (r_ld rfl hH107.get0 rfl) ?_
          refine O_p (.i .i64 sd12) (r_mv hT32) ?_
          refine O_p (.b false) (r_nqq rfl rfl) ?_
          refine O_p (.b false) (r_mv rfl) ?_
          refine O_gk rfl ?_
          refine O_p (.agg [(.i .i64 sa98), (.i .i64 sb99), (.i .i64 sc100), (.i .i64 sd12), (.b se102), (.i .u32 sx101)]) (r_ldA hT31 hH107.get0 rfl) ?_
          refine O_gk rfl ?_
          refine O_call (Ev.mono (theirs_ev hH107) fun v108 H109 hq110 => ?_)
          obtain ⟨rfl, hH111⟩ := hq110
          refine O_gk rfl ?_
          refine O_call (Ev.mono (rmay_ev hok103 hH111) fun v112 H113 hq114 => ?_)
          obtain ⟨rfl, hH115⟩ := hq114
          refine O_gk rfl ?_
          refine O_p (.b false) (r_un rfl rfl) ?_
          refine O_p (.b false) (r_pick_f rfl rfl) ?_
          refine O_nil ?_
          refine C_cond (x := false) rfl (fun h => by cases h) (fun _ => ?_)
          refine C_skip ?_
          refine C_region ?_
          refine O_p (.i .i64 (((i : Nat)) : Int)) (r_mv hT33) ?_
          refine O_p (.i .i64 ((((i : Nat)) : Int) + 1)) (by exact (r_addi rfl rfl (wrap_i64 (by omega) (by omega)))) ?_
          refine O_p (.i .i64 ((((i : Nat)) : Int) + 1)) (r_mv rfl) ?_
          refine O_nil ?_
          have hH116 := ((hH115.top1).top1)
          exact ⟨rows.length - (i + 1), by omega, sa98, sb99, sc100, sx101, se102, (i + 1), rfl, by omega, hok103, hH116, hT28, hT29, hT30, hT31, hT32, rfl⟩
        ·
          try simp only [decide_eq_true_eq, decide_eq_false_iff_not, Bool.not_eq_true', Bool.not_eq_false', Bool.and_eq_true, Bool.or_eq_true, Bool.or_eq_false_iff, Bool.not_not, Bool.and_eq_false_iff] at hc84
          refine C_region ?_
          refine O_p (.agg [(.i .i64 a), (.i .i64 b), (.i .i64 c), (.i .i64 sd12), (.b e), (.i .u32 x)]) (r_ldA hT31 hH34.get0 rfl) ?_
          refine O_call (Ev.mono (timeout_ev hp27 hH34) fun v117 H118 hq119 => ?_)
          obtain ⟨sa120, sb121, sc122, sx123, se124, rfl, hok125, hH126⟩ := hq119
          refine O_store (vs := [(.i .i64 sa120), (.i .i64 sb121), (.i .i64 sc122), (.i .i64 sd12), (.b se124), (.i .u32 sx123)]) (c' := [(.i .i64 sa120), (.i .i64 sb121), (.i .i64 sc122), (.i .i64 sd12), (.b se124), (.i .u32 sx123)]) hT31 (by rfl) hH126.get0 rfl (List.cons_ne_nil _ _) (Nat.le_of_ble_eq_true rfl) rfl fun H127 hW128 => ?_
          have hH129 := hH126.wr0 hW128
          refine O_nil ?_
          refine C_seq ?_
          refine C_region ?_
          refine O_p (.p (some (n13, 3))) (r_fadd' hT31 rfl) ?_
          refine O_p (.i .i64 sd12) (r_ld rfl hH129.get0 rfl) ?_
          refine O_p (.i .i64 sd12) (r_mv hT32) ?_
          refine O_p (.b false) (r_nqq rfl rfl) ?_
          refine O_p (.b false) (r_mv rfl) ?_
          refine O_gk rfl ?_
          refine O_p (.agg [(.i .i64 sa120), (.i .i64 sb121), (.i .i64 sc122), (.i .i64 sd12), (.b se124), (.i .u32 sx123)]) (r_ldA hT31 hH129.get0 rfl) ?_
          refine O_gk rfl ?_
          refine O_call (Ev.mono (theirs_ev hH129) fun v130 H131 hq132 => ?_)
          obtain ⟨rfl, hH133⟩ := hq132
          refine O_gk rfl ?_
          refine O_call (Ev.mono (rmay_ev hok125 hH133) fun v134 H135 hq136 => ?_)
          obtain ⟨rfl, hH137⟩ := hq136
          refine O_gk rfl ?_
          refine O_p (.b false) (r_un rfl rfl) ?_
          refine O_p (.b false) (r_pick_f rfl rfl) ?_
          refine O_nil ?_
          refine C_cond (x := false) rfl (fun h => by cases h) (fun _ => ?_)
          refine C_skip ?_
          refine C_region ?_
          refine O_p (.i .i64 (((i : Nat)) : Int)) (r_mv hT33) ?_
          refine O_p (.i .i64 ((((i : Nat)) : Int) + 1)) (by exact (r_addi rfl rfl (wrap_i64 (by omega) (by omega)))) ?_
          refine O_p (.i .i64 ((((i : Nat)) : Int) + 1)) (r_mv rfl) ?_
          refine O_nil ?_
          have hH138 := ((hH137.top1).top1)
          exact ⟨rows.length - (i + 1), by omega, sa120, sb121, sc122, sx123, se124, (i + 1), rfl, by omega, hok125, hH138, hT28, hT29, hT30, hT31, hT32, rfl⟩
    ·
      try simp only [decide_eq_true_eq, decide_eq_false_iff_not, Bool.not_eq_true', Bool.not_eq_false', Bool.and_eq_true, Bool.or_eq_true, Bool.or_eq_false_iff, Bool.not_not, Bool.and_eq_false_iff] at hc35
      refine C_exit ?_
      refine nx_exit ?_
      refine nx_exit ?_
      refine bk_hit ?_
      refine C_seq ?_
      refine C_region ?_
      refine O_p (.b true) (r_mv hT30) ?_
      refine O_p (.b true) (r_mv rfl) ?_
      refine O_gk rfl ?_
      refine O_p (.i .i64 sd12) (r_mv hT32) ?_
      refine O_gk rfl ?_
      refine O_p (.b true) (by exact (by rw [r_geq rfl rfl, decide_eq_true (by first | omega | assumption)])) ?_
      refine O_p (.b true) (r_pick_t rfl rfl) ?_
      refine O_p (.b true) (r_mv rfl) ?_
      refine O_gk rfl ?_
      refine O_p (.i .i64 sd12) (r_mv hT32) ?_
      refine O_gk rfl ?_
      refine O_p (.b true) (by exact (by rw [r_leq rfl rfl, decide_eq_true (by first | omega | assumption)])) ?_
      refine O_p (.b true) (r_pick_t rfl rfl) ?_
      refine O_p (.b true) (r_mv rfl) ?_
      refine O_nil ?_
      refine C_ret ?_
      exact ⟨.inr rfl, _, resL_one (r_tmp (v := .b true) rfl), rfl⟩
set_option maxRecDepth 100000 in
theorem run3T (H : AH) (hok : H.Ok) (m : Int) {v : AV} (h : Typed Try.prog H 9 22 [v]) : Ev tabA spA (.fn (.func 3) [] []) [.i .i64 m, v] H (fun v _ => v = .b true) := by
  obtain ⟨p, n, c, rfl, hnc, _, hr⟩ := typed_recs (z := 4) Try.underlying22 (by kernel_rfl) h
  obtain ⟨rows, hrw, _, hrt⟩ := Rw.given hnc hr
  refine run3 H hok m _ rows (fun H' hh => hrw.ro (R := []) hok (by rw [List.append_nil]; exact hh)) (fun i r hi => ?_)
  obtain ⟨pl, pq⟩ := struct_parts (qs := [(3, 0, 1), (3, 1, 1), (4, 2, 1), (24, 3, 1)]) Try.underlying29 (hrt i r hi) (by kernel_rfl)
  rw [show Try.prog.cellsOf 29 = 4 by kernel_rfl] at pl
  obtain ⟨y0, y1, y2, y3, rfl⟩ : ∃ a b c d, r = [a, b, c, d] := by
    match r, pl with
    | [a, b, c, d], _ => exact ⟨a, b, c, d, rfl⟩
  simp only [List.forall_mem_cons, List.drop_zero, List.drop_succ_cons, List.take_succ_cons, List.take_zero] at pq
  obtain ⟨q0, q1, q2, q3, _⟩ := pq
  obtain ⟨n0, e0, _⟩ := typed_int Try.underlying3 q0
  obtain ⟨n1, e1, _⟩ := typed_int Try.underlying3 q1
  obtain ⟨n2, e2⟩ := typed_bool Try.underlying4 q2
  obtain ⟨n3, e3, _⟩ := typed_int Try.underlying24 q3
  cases e0; cases e1; cases e2; cases e3
  exact ⟨n0, n1, n2, n3, rfl⟩
set_option maxRecDepth 100000 in
theorem law3 (W : World) (ρ : Rho) (H : AH) (xs : List AV) (args : Array Value) (hR : Rel Try.prog W.heap.size W ρ H W) (hro : RO H) (hv : VRL ρ xs args.toList) (ht : TypedVs Try.prog H 9 Try.f3.params.toList xs) :
    Calls Try.prog 3 args W fun e w' => e = .returned (.bool true) ∧ Below W.heap.size W w' := by
  rw [Try.params3] at ht
  obtain ⟨a0, xs, rfl, g0, a1, xs, rfl, g1, rfl⟩ := ht
  obtain ⟨m, rfl, _⟩ := typedV_int Try.underlying3 g0
  obtain ⟨k, v, H', hex, rfl⟩ := run3T H hR.aok m (typedV_slice Try.underlying22 g1)
  exact law_of mixed tabA_ok spA_ok hex hR hv
end Go.Proofs.Ytjnceigeejdleaa.E
namespace Go.Proofs.Ytjnceigeejdleaa.windowStays
open Go.ChangeShapes Go.WideShapes Go.RowKit
set_option linter.unusedVariables false
theorem own : ownKnob Try.prog.godebug = none := by kernel_rfl
theorem types : (Try.f3.params.toList.all fun t => E.fit Try.prog 9 t && (Try.prog.readableRec t && decide (t < Try.prog.types.size))) = true := by kernel_rfl
set_option maxRecDepth 100000 in
theorem lifted (os : Os) (started : os.Started) (H : Type) (enc : TypeId × Value → H) :
    ReturnsInHanded {} Try.checked os 3 .any (Rows.windowStaysSpec.pre6 enc Try.prog Try.f3 Rows.windowStaysRow.domain false) (Rows.windowStaysSpec.post enc Try.prog Try.f3 false true false false) :=
  E.law_lifted (C := Try.checked) (k := 9) (tb := 4) E.globals0 E.laid own started (by kernel_rfl) Try.func3
    (ChangeSpec.witness6 (enc := enc) (C := Try.checked) false ⟨#[], #[.int .i64 0, .slice none 0 0], []⟩ 8 (by kernel_rfl) (by kernel_rfl) (by kernel_rfl) (by kernel_rfl))
    rfl rfl Try.underlying4 (fun t ht => by have h := List.all_eq_true.1 types t ht; simp only [Bool.and_eq_true, decide_eq_true_eq] at h; exact h)
    (fun ds hd => by
      rw [Try.params3] at hd
      match ds, hd with
      | [d0, d1], _ => rfl) E.law3
theorem over : Rows.windowStaysRow.holds Try.pinned (OpenSpec.ofChange Rows.windowStaysSpec) :=
  OpenClaim.holds_of_wide 3 Try.f3 rfl rfl rfl rfl rfl rfl rfl ⟨rfl, rfl, rfl, rfl, rfl⟩ rfl rfl rfl rfl rfl (by kernel_rfl) Try.func3 (by kernel_rfl)
    (of_decide_eq_true (by kernel_rfl)) (by unfold Func.isWrapper; first | (rw [if_pos (by decide +kernel)]; kernel_rfl) | (rw [if_neg (by decide +kernel)]; exact ⟨rfl, rfl⟩))
    (fun os started H enc _ => lifted os started H enc)
end Go.Proofs.Ytjnceigeejdleaa.windowStays
namespace Go.Proofs.Ytjnceigeejdleaa
/-- The row, under a short name, for the claim. -/
theorem windowStays_holds : Rows.WindowStaysSaid := windowStays.over
#print axioms windowStays_holds
end Go.Proofs.Ytjnceigeejdleaa
