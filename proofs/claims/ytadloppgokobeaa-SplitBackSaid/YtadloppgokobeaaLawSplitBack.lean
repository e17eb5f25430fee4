/- SplitBack, for every input, without conditions. -/
import Derived.Test.YtadloppgokobeaaQ
import Derived.Test.YtadloppgokobeaaRows
import Derived.ProofKit
import Derived.OpenShut
namespace Go.Proofs.Ytadloppgokobeaa.E
open Go.RowKit (Below)
set_option linter.unusedVariables false
set_option linter.unusedSimpArgs false
set_option maxRecDepth 100000 in
set_option maxHeartbeats 1000000 in
theorem run5 (H0 : AH) (hok0 : H0.Ok) (ao ap : Int) (au : Bool) (ada : Option (Nat × Nat)) (adc : Nat) (ad : List UInt8) (ahb : Bs H0 (.sl ada ad.length adc 0) ad) (ahc : ad.length ≤ adc) (ahm : adc ≤ maxLen) (tsn ssn most att : Int) : Ev tabA spA (.fn (.func 5) [] []) [.agg [.i .u16 ao, .b au, .i .u32 ap, .sl ada ad.length adc 0], .i .u32 tsn, .i .u16 ssn, .i .i64 most, .i .i64 att] H0 (fun v _ => v = .b true) := by
  have hH0 := allL_hs hok0
  have aB : ∀ H', Hs H' (allL H0) → Bs H' (.sl ada ad.length adc 0) ad := fun H' hh => Bs.ro (R := []) ahb hok0 (by rw [List.append_nil]; exact hh)
  refine Ev_C (F := x5) rfl ?_
  refine C_seq ?_
  refine C_region ?_
  refine O_box (z := [(.i .u16 ao), (.b au), (.i .u32 ap), (.sl ada ad.length adc 0)]) rfl fun n1 H2 hN3 => ?_
  have hH4 := hH0.new hN3
  refine O_p (.b false) (r_mv rfl) ?_
  refine O_nil ?_
  refine C_seq ?_
  refine C_region ?_
  refine O_call (Ev_sp (v := (.b true)) rfl rfl ?_)
  refine O_p (.b true) (r_mv rfl) ?_
  refine O_nil ?_
  refine C_seq ?_
  refine C_seq ?_
  refine C_region ?_
  refine O_p (.p (some (n1, 3))) (r_fadd' rfl rfl) ?_
  refine O_p (.sl ada ad.length adc 0) (r_ld rfl hH4.get0 rfl) ?_
  refine O_p (.i .i64 (((ad.length : Nat)) : Int)) (r_len rfl) ?_
  refine O_p (.b (decide (2000 < (((ad.length : Nat)) : Int)))) (r_gtr rfl rfl) ?_
  refine O_nil ?_
  refine C_cond (x := (decide (2000 < (((ad.length : Nat)) : Int)))) rfl (fun hc5 => ?_) (fun hc5 => ?_)
  ·
    try simp only [decide_eq_true_eq, decide_eq_false_iff_not, Bool.not_eq_true', Bool.not_eq_false', Bool.and_eq_true, Bool.or_eq_true, Bool.or_eq_false_iff, Bool.not_not, Bool.and_eq_false_iff] at hc5
    refine C_seq ?_
    refine C_region ?_
    refine O_p (.b true) (r_mv rfl) ?_
    refine O_p (.b true) (r_mv rfl) ?_
    refine O_nil ?_
    refine C_ret ?_
    refine nx_ret ?_
    exact ⟨.inr rfl, _, resL_one (r_tmp (v := .b true) rfl), rfl⟩
  ·
    try simp only [decide_eq_true_eq, decide_eq_false_iff_not, Bool.not_eq_true', Bool.not_eq_false', Bool.and_eq_true, Bool.or_eq_true, Bool.or_eq_false_iff, Bool.not_not, Bool.and_eq_false_iff] at hc5
    refine C_skip ?_
    refine C_seq ?_
    refine C_region ?_
    refine O_p (.agg [(.i .u16 ao), (.b au), (.i .u32 ap), (.sl ada ad.length adc 0)]) (r_ldA rfl hH4.get0 rfl) ?_
    refine O_p (.i .u32 tsn) (r_mv rfl) ?_
    refine O_p (.i .u16 ssn) (r_mv rfl) ?_
    refine O_p (.i .i64 most) (r_mv rfl) ?_
    have hH6 := (hH4.top1)
    refine O_call (Ev.mono (split8_ev au ao ap tsn ssn most (.inl rfl) ahc (Nat.le_trans ahm (by decide)) aB hH6) fun v7 H8 hq9 => ?_)
    obtain ⟨D10, w11, rfl, hck12, hH13⟩ := hq9
    obtain ⟨rows14, hrw15, hcr16⟩ := hck12
    refine O_p (.tup [w11, (.i .i64 (splitE ad.length most))]) (r_mv rfl) ?_
    refine O_p w11 (r_ext rfl rfl) ?_
    refine O_p (.i .i64 (splitE ad.length most)) (r_ext rfl rfl) ?_
    refine O_p w11 (r_mv rfl) ?_
    refine O_p (.i .i64 (splitE ad.length most)) (r_mv rfl) ?_
    refine O_nil ?_
    refine C_seq ?_
    refine C_seq ?_
    by_cases hE : splitE ad.length most = 0
    ·
      obtain ⟨hl0, hl1, hm0, hm1⟩ := splitE_le hE
      obtain ⟨k, rfl⟩ : ∃ k : Nat, most = k := ⟨most.toNat, by omega⟩
      obtain ⟨cs, hcs⟩ : ∃ cs, cs = splitS au ao ap tsn ssn k ad := ⟨_, rfl⟩
      have hLLa : (splitL au ao ap tsn ssn ((k : Nat) : Int) ad) = cs := by rw [hcs]; unfold splitL; rw [if_pos hE, Int.toNat_natCast]
      rw [hLLa] at hcr16
      have hrla := hcr16.1
      have hlen : cs.length = (nPcs ad.length k) := by rw [hcs, splitS_len]
      have hq0 : 0 < (nPcs ad.length k) := nPcs_pos hl0 (by omega)
      have hql : (nPcs ad.length k) ≤ ad.length := nPcs_le (by omega)
      have hM : isM cs = true := by rw [hcs]; exact split_isM hl0 (by omega)
      have hms : msgS cs = ⟨ao, au, ap, ad⟩ := by rw [hcs]; exact split_msg hl0 (by omega)
      have hb : ∀ x ∈ cs, x.d.length ≤ k := by rw [hcs]; exact splitS_bound
      refine C_region ?_
      refine O_p (.i .i64 (splitE ad.length ((k : Nat) : Int))) (r_mv rfl) ?_
      refine O_p (.b false) (by exact (by rw [r_neq rfl rfl, decide_eq_true (by first | omega | assumption)]; rfl)) ?_
      refine O_nil ?_
      refine C_cond (x := false) rfl (fun h => by cases h) (fun _ => ?_)
      refine C_skip ?_
      refine C_seq ?_
      refine C_region ?_
      refine O_p w11 (r_mv rfl) ?_
      have hH17 := ((hH13.top1).top1)
      have hH18 : Hs H8 ((D10 ++ ((allL H0))) ++ ([(n1, some (.cells ([(.i .u16 ao), (.b au), (.i .u32 ap), (.sl ada ad.length adc 0)]) true))] ++ ([]))) := by have h := hH17; simpa only [List.append_assoc, List.cons_append, List.nil_append] using h
      refine O_call (Ev.mono (whole_ev (v := w11) (⟨rows14, hrw15, hcr16⟩ : Cks true (D10 ++ (allL H0)) w11 cs) (by omega) (by have h1 := ck_bound hb; have h2 : cs.length * k ≤ 2000 * 1172 := Nat.mul_le_mul (by omega) (by omega); omega) hH18) fun v19 H20 hq21 => ?_)
      rw [hms, hM] at hq21
      obtain ⟨o22, c23, rfl, hSq24, hH25⟩ := hq21
      have hH26 : Hs H20 ((qseg o22 c23) ++ (D10 ++ ((allL H0) ++ ([(n1, some (.cells ([(.i .u16 ao), (.b au), (.i .u32 ap), (.sl ada ad.length adc 0)]) true))] ++ ([]))))) := by have h := hH25; simpa only [List.append_assoc, List.cons_append, List.nil_append] using h
      refine O_p (.tup [(.agg [(.i .u16 ao), (.b au), (.i .u32 ap), o22]), (.b true)]) (r_mv rfl) ?_
      refine O_p (.agg [(.i .u16 ao), (.b au), (.i .u32 ap), o22]) (r_ext rfl rfl) ?_
      refine O_p (.b true) (r_ext rfl rfl) ?_
      refine O_alloc fun n27 H28 hN29 => ?_
      have hH30 := hH26.new hN29
      refine O_store (vs := [(.i .u16 ao), (.b au), (.i .u32 ap), o22]) (c' := [(.i .u16 ao), (.b au), (.i .u32 ap), o22]) rfl (by rfl) hH30.get0 rfl (List.cons_ne_nil _ _) (Nat.le_of_ble_eq_true rfl) rfl fun H31 hW32 => ?_
      have hH33 := hH30.wr0 hW32
      refine O_p (.b true) (r_mv rfl) ?_
      refine O_nil ?_
      refine C_seq ?_
      refine C_seq ?_
      refine C_region ?_
      refine O_p (.b true) (r_mv rfl) ?_
      refine O_p (.b false) (r_un rfl rfl) ?_
      refine O_p (.b false) (r_mv rfl) ?_
      refine O_gk rfl ?_
      refine O_p (.agg [(.i .u16 ao), (.b au), (.i .u32 ap), (.sl ada ad.length adc 0)]) (r_ldA rfl hH33.get4 rfl) ?_
      refine O_gk rfl ?_
      refine O_p (.agg [(.i .u16 ao), (.b au), (.i .u32 ap), o22]) (r_ldA rfl hH33.get0 rfl) ?_
      refine O_gk rfl ?_
      have hH34 := ((hH33.top3).top2)
      have hH35 := Hs.unassoc hH34
      refine O_call (Ev.mono (same13_ev (x := ⟨ao, au, ap, ad⟩) (y := ⟨ao, au, ap, ad⟩) (fun _ hh => aB _ hh.sub) (fun _ hh => Sq.bs (R := []) hSq24 (by rw [List.append_nil]; exact hh.fst)) hH35) fun v36 H37 hq38 => ?_)
      rw [sameM_refl] at hq38
      obtain ⟨rfl, hH39⟩ := hq38
      refine O_gk rfl ?_
      refine O_p (.b false) (r_un rfl rfl) ?_
      refine O_p (.b false) (r_pick_f rfl rfl) ?_
      refine O_p (.b false) (r_mv rfl) ?_
      refine O_gk rfl ?_
      refine O_p w11 (r_mv rfl) ?_
      refine O_gk rfl ?_
      refine O_p (.i .i64 (((cs.length : Nat)) : Int)) (r_lenOf rfl ((hrw15 _ (Hs.fst (Hs.unassoc ((hH39.assoc.top1).top3)))).lenOf hcr16.1) (hrw15 _ (Hs.fst (Hs.unassoc ((hH39.assoc.top1).top3)))).isSl) ?_
      refine O_gk rfl ?_
      refine O_p (.b false) (by exact (by rw [r_eql rfl rfl, decide_eq_false (by omega)])) ?_
      refine O_p (.b false) (r_pick_f rfl rfl) ?_
      refine O_nil ?_
      refine C_cond (x := false) rfl (fun h => by cases h) (fun _ => ?_)
      refine C_skip ?_
      refine C_seq ?_
      refine C_region ?_
      refine O_p w11 (r_mv rfl) ?_
      refine O_q (by exact Rw.lo (hrw15 _ (Hs.fst (Hs.unassoc ((hH39.assoc.top1).top3)))) rfl (i := 1) rfl (by rw [hcr16.1]; omega)) fun v41 hv40 => ?_
      have hM2 : isM (cs.drop 1) = false := by rw [hcs]; exact split_tail
      have hms2 := msgS_no hM2
      have hH42 := ((hH39.assoc.top1).top3)
      have hH43 : Hs H37 ((D10 ++ ((allL H0))) ++ ((qseg o22 c23) ++ ([(n27, some (.cells ([(.i .u16 ao), (.b au), (.i .u32 ap), o22]) true))] ++ ([(n1, some (.cells ([(.i .u16 ao), (.b au), (.i .u32 ap), (.sl ada ad.length adc 0)]) true))] ++ ([]))))) := by have h := hH42; simpa only [List.append_assoc, List.cons_append, List.nil_append] using h
      refine O_call (Ev.mono (whole_ev (v := v41) (Cks.drop hrw15 hcr16 hv40) (by rw [List.length_drop]; omega) (by have h1 := ck_bound (l := cs.drop 1) fun x hx => hb x (List.mem_of_mem_drop hx); rw [List.length_drop] at h1; have h2 : (cs.length - 1) * k ≤ 2000 * 1172 := Nat.mul_le_mul (by omega) (by omega); omega) hH43) fun v44 H45 hq46 => ?_)
      rw [hms2, hM2] at hq46
      obtain ⟨o47, c48, rfl, hSq49, hH50⟩ := hq46
      have hH51 : Hs H45 ((qseg o47 c48) ++ (D10 ++ ((allL H0) ++ ((qseg o22 c23) ++ ([(n27, some (.cells ([(.i .u16 ao), (.b au), (.i .u32 ap), o22]) true))] ++ ([(n1, some (.cells ([(.i .u16 ao), (.b au), (.i .u32 ap), (.sl ada ad.length adc 0)]) true))] ++ ([]))))))) := by have h := hH50; simpa only [List.append_assoc, List.cons_append, List.nil_append] using h
      refine O_p (.tup [(.agg [(.i .u16 0), (.b false), (.i .u32 0), o47]), (.b false)]) (r_mv rfl) ?_
      refine O_p (.agg [(.i .u16 0), (.b false), (.i .u32 0), o47]) (r_ext rfl rfl) ?_
      refine O_p (.b false) (r_ext rfl rfl) ?_
      refine O_alloc fun n52 H53 hN54 => ?_
      have hH55 := hH51.new hN54
      refine O_store (vs := [(.i .u16 0), (.b false), (.i .u32 0), o47]) (c' := [(.i .u16 0), (.b false), (.i .u32 0), o47]) rfl (by rfl) hH55.get0 rfl (List.cons_ne_nil _ _) (Nat.le_of_ble_eq_true rfl) rfl fun H56 hW57 => ?_
      have hH58 := hH55.wr0 hW57
      refine O_p (.b false) (r_mv rfl) ?_
      refine O_nil ?_
      refine C_seq ?_
      refine C_region ?_
      refine O_p w11 (r_mv rfl) ?_
      refine O_p w11 (r_mv rfl) ?_
      refine O_p (.i .i64 (((cs.length : Nat)) : Int)) (r_lenOf rfl ((hrw15 _ (Hs.fst (Hs.unassoc ((hH58.top3).top3)))).lenOf hcr16.1) (hrw15 _ (Hs.fst (Hs.unassoc ((hH58.top3).top3)))).isSl) ?_
      refine O_p (.i .i64 ((((cs.length - 1) : Nat)) : Int)) (by exact (r_subn (a := cs.length) (b := 1) rfl rfl (by omega) (by omega))) ?_
      refine O_q (by exact Rw.hi (hrw15 _ (Hs.fst (Hs.unassoc ((hH58.top3).top3)))) rfl (i := (cs.length - 1)) rfl (by rw [hcr16.1]; omega)) fun v60 hv59 => ?_
      have hM3 : isM (cs.take (cs.length - 1)) = false := by rw [hcs]; exact split_init
      have hms3 := msgS_no hM3
      have hH61 := ((hH58.top3).top3)
      have hH62 : Hs H56 ((D10 ++ ((allL H0))) ++ ([(n52, some (.cells ([(.i .u16 0), (.b false), (.i .u32 0), o47]) true))] ++ ((qseg o47 c48) ++ ((qseg o22 c23) ++ ([(n27, some (.cells ([(.i .u16 ao), (.b au), (.i .u32 ap), o22]) true))] ++ ([(n1, some (.cells ([(.i .u16 ao), (.b au), (.i .u32 ap), (.sl ada ad.length adc 0)]) true))] ++ ([]))))))) := by have h := hH61; simpa only [List.append_assoc, List.cons_append, List.nil_append] using h
      refine O_call (Ev.mono (whole_ev (v := v60) (Cks.take hrw15 hcr16 hv59) (by rw [List.length_take]; omega) (by have h1 := ck_bound (l := cs.take (cs.length - 1)) fun x hx => hb x (List.mem_of_mem_take hx); rw [List.length_take] at h1; have h2 : min (cs.length - 1) cs.length * k ≤ 2000 * 1172 := Nat.mul_le_mul (by omega) (by omega); omega) hH62) fun v63 H64 hq65 => ?_)
      rw [hms3, hM3] at hq65
      obtain ⟨o66, c67, rfl, hSq68, hH69⟩ := hq65
      have hH70 : Hs H64 ((qseg o66 c67) ++ (D10 ++ ((allL H0) ++ ([(n52, some (.cells ([(.i .u16 0), (.b false), (.i .u32 0), o47]) true))] ++ ((qseg o47 c48) ++ ((qseg o22 c23) ++ ([(n27, some (.cells ([(.i .u16 ao), (.b au), (.i .u32 ap), o22]) true))] ++ ([(n1, some (.cells ([(.i .u16 ao), (.b au), (.i .u32 ap), (.sl ada ad.length adc 0)]) true))] ++ ([]))))))))) := by have h := hH69; simpa only [List.append_assoc, List.cons_append, List.nil_append] using h
      refine O_p (.tup [(.agg [(.i .u16 0), (.b false), (.i .u32 0), o66]), (.b false)]) (r_mv rfl) ?_
      refine O_p (.agg [(.i .u16 0), (.b false), (.i .u32 0), o66]) (r_ext rfl rfl) ?_
      refine O_p (.b false) (r_ext rfl rfl) ?_
      refine O_alloc fun n71 H72 hN73 => ?_
      have hH74 := hH70.new hN73
      refine O_store (vs := [(.i .u16 0), (.b false), (.i .u32 0), o66]) (c' := [(.i .u16 0), (.b false), (.i .u32 0), o66]) rfl (by rfl) hH74.get0 rfl (List.cons_ne_nil _ _) (Nat.le_of_ble_eq_true rfl) rfl fun H75 hW76 => ?_
      have hH77 := hH74.wr0 hW76
      refine O_p (.b false) (r_mv rfl) ?_
      refine O_nil ?_
      refine C_seq ?_
      refine C_seq ?_
      refine C_region ?_
      refine O_p w11 (r_mv rfl) ?_
      refine O_p (.i .i64 (((cs.length : Nat)) : Int)) (r_lenOf rfl ((hrw15 _ (Hs.fst (Hs.unassoc ((hH77.top3).top3)))).lenOf hcr16.1) (hrw15 _ (Hs.fst (Hs.unassoc ((hH77.top3).top3)))).isSl) ?_
      refine O_p (.b (decide ((((cs.length : Nat)) : Int) < 2))) (r_lss rfl rfl) ?_
      refine O_nil ?_
      refine C_cond (x := (decide ((((cs.length : Nat)) : Int) < 2))) rfl (fun hc78 => ?_) (fun hc78 => ?_)
      ·
        try simp only [decide_eq_true_eq, decide_eq_false_iff_not, Bool.not_eq_true', Bool.not_eq_false', Bool.and_eq_true, Bool.or_eq_true, Bool.or_eq_false_iff, Bool.not_not, Bool.and_eq_false_iff] at hc78
        refine C_seq ?_
        refine C_region ?_
        refine O_p (.b true) (r_mv rfl) ?_
        refine O_p (.b true) (r_mv rfl) ?_
        refine O_gk rfl ?_
        refine O_p (.b false) (r_mv rfl) ?_
        refine O_gk rfl ?_
        refine O_p (.b true) (r_un rfl rfl) ?_
        refine O_p (.b true) (r_pick_t rfl rfl) ?_
        refine O_p (.b true) (r_mv rfl) ?_
        refine O_gk rfl ?_
        refine O_p (.b false) (r_mv rfl) ?_
        refine O_gk rfl ?_
        refine O_p (.b true) (r_un rfl rfl) ?_
        refine O_p (.b true) (r_pick_t rfl rfl) ?_
        refine O_p (.b true) (r_mv rfl) ?_
        refine O_nil ?_
        refine C_ret ?_
        refine nx_ret ?_
        exact ⟨.inr rfl, _, resL_one (r_tmp (v := .b true) rfl), rfl⟩
      ·
        try simp only [decide_eq_true_eq, decide_eq_false_iff_not, Bool.not_eq_true', Bool.not_eq_false', Bool.and_eq_true, Bool.or_eq_true, Bool.or_eq_false_iff, Bool.not_not, Bool.and_eq_false_iff] at hc78
        refine C_skip ?_
        refine C_seq ?_
        refine C_region ?_
        refine O_p (.i .i64 att) (r_mv rfl) ?_
        obtain ⟨q79, hq79, hlq79⟩ := and_nat att 65535 (by decide)
        refine O_p (.i .i64 (((q79 : Nat)) : Int)) (by exact (by rw [← hq79]; exact r_bin rfl rfl rfl)) ?_
        refine O_p w11 (r_mv rfl) ?_
        refine O_p (.i .i64 (((cs.length : Nat)) : Int)) (r_lenOf rfl ((hrw15 _ (Hs.fst (Hs.unassoc ((hH77.top3).top3)))).lenOf hcr16.1) (hrw15 _ (Hs.fst (Hs.unassoc ((hH77.top3).top3)))).isSl) ?_
        refine O_p (.i .i64 ((((cs.length - 1) : Nat)) : Int)) (by exact (r_subn (a := cs.length) (b := 1) rfl rfl (by omega) (by omega))) ?_
        refine O_p (.i .i64 ((((q79 % (cs.length - 1)) : Nat)) : Int)) (by exact (r_remn (a := q79) (b := (cs.length - 1)) rfl rfl (by omega))) ?_
        refine O_p (.i .i64 ((((q79 % (cs.length - 1)) : Nat)) : Int)) (r_mv rfl) ?_
        refine O_nil ?_
        refine C_seq ?_
        refine C_region ?_
        refine O_bslice (c := []) rfl fun n80 H81 hN82 => ?_
        have hH83 := hH77.new hN82
        refine O_p w11 (r_mv rfl) ?_
        refine O_qh (by exact r_appq (n := 0) (k := rows14.length) (new := rows14.flatten) hH83.top0 (Sq.full (b := n80) (n := 0) (g := 0) (sz := 12) (l := []) (.inl rfl) rfl) rfl rfl ((hrw15 _ (Hs.fst (Hs.unassoc ((hH83.top4).top4)))).len) (Rw.src (hrw15 _ (Hs.fst (Hs.unassoc ((hH83.top4).top4))))) (flat_len hcr16.lens) (by decide) (by decide) rfl (by first | omega | (simp only [List.length_take, List.length_drop, List.length_append, List.length_cons, List.length_nil, beN_len] <;> omega))) fun o84 H85 hA87 => ?_
        obtain ⟨c86, hA87, hH88⟩ := hA87
        refine O_p o84 (r_mv rfl) ?_
        refine O_nil ?_
        refine C_seq ?_
        refine C_region ?_
        have hkl : (q79 % (cs.length - 1)) < cs.length - 1 := Nat.mod_lt _ (by omega)
        generalize (q79 % (cs.length - 1)) = kk at hkl ⊢
        have hxA : cs[kk]? = some (pieceC au ao ap tsn ssn k ad kk) := by rw [hcs]; exact splitS_at _ _ _ _ _ _ _ (by omega)
        have hxB : cs[kk + 1]? = some (pieceC au ao ap tsn ssn k ad (kk + 1)) := by rw [hcs]; exact splitS_at _ _ _ _ _ _ _ (by omega)
        obtain ⟨rA, hrA, hrowA⟩ := hcr16.2 _ _ hxA
        obtain ⟨bA, blA, duA, skA, paA, aA, capA, gA, rfl, _, _, _, ⟨_, hfA, haA, _⟩, _⟩ := id hrowA
        obtain ⟨rB, hrB, hrowB⟩ := hcr16.2 _ _ hxB
        obtain ⟨bB, blB, duB, skB, paB, aB, capB, gB, rfl, _, _, _, ⟨_, hfB, haB, _⟩, _⟩ := id hrowB
        have hxs : Sq 12 o84 c86 rows14.flatten := hA87
        refine O_p o84 (r_mv rfl) ?_
        refine O_p (.i .i64 (((kk : Nat)) : Int)) (r_mv rfl) ?_
        refine O_p w11 (r_mv rfl) ?_
        refine O_p (.i .i64 (((kk : Nat)) : Int)) (r_mv rfl) ?_
        refine O_p (.i .i64 ((((kk : Nat)) : Int) + 1)) (by exact (r_addi rfl rfl (wrap_i64 (by omega) (by omega)))) ?_
        refine O_q (by exact Rw.row (hrw15 _ (Hs.fst (Hs.unassoc ((hH88.top4).top4)))) rfl (i := (kk + 1)) rfl (r := [(.i .u8 (pieceC au ao ap tsn ssn k ad (kk + 1)).k), (.i .u8 (pieceC au ao ap tsn ssn k ad (kk + 1)).f), (.i .u32 (pieceC au ao ap tsn ssn k ad (kk + 1)).a), (.i .u32 bB), (.i .u16 (pieceC au ao ap tsn ssn k ad (kk + 1)).o), (.i .u16 (pieceC au ao ap tsn ssn k ad (kk + 1)).i), (.i .u32 (pieceC au ao ap tsn ssn k ad (kk + 1)).p), blB, duB, skB, paB, (.sl aB (pieceC au ao ap tsn ssn k ad (kk + 1)).d.length capB gB)]) hrB) fun v90 hv89 => ?_
        obtain ⟨rb91, ro92, rfl, hr93⟩ := hv89
        refine O_p (.agg [(.i .u8 (pieceC au ao ap tsn ssn k ad (kk + 1)).k), (.i .u8 (pieceC au ao ap tsn ssn k ad (kk + 1)).f), (.i .u32 (pieceC au ao ap tsn ssn k ad (kk + 1)).a), (.i .u32 bB), (.i .u16 (pieceC au ao ap tsn ssn k ad (kk + 1)).o), (.i .u16 (pieceC au ao ap tsn ssn k ad (kk + 1)).i), (.i .u32 (pieceC au ao ap tsn ssn k ad (kk + 1)).p), blB, duB, skB, paB, (.sl aB (pieceC au ao ap tsn ssn k ad (kk + 1)).d.length capB gB)]) (r_ldRA (q := 0) rfl (hr93 _ (hrw15 _ (Hs.fst (Hs.unassoc ((hH88.top4).top4))))) rfl) ?_
        refine O_q (by exact Sq.cell hxs hcr16.lens hH88.top0 rfl (i := kk) rfl (r := [(.i .u8 (pieceC au ao ap tsn ssn k ad kk).k), (.i .u8 (pieceC au ao ap tsn ssn k ad kk).f), (.i .u32 (pieceC au ao ap tsn ssn k ad kk).a), (.i .u32 bA), (.i .u16 (pieceC au ao ap tsn ssn k ad kk).o), (.i .u16 (pieceC au ao ap tsn ssn k ad kk).i), (.i .u32 (pieceC au ao ap tsn ssn k ad kk).p), blA, duA, skA, paA, (.sl aA (pieceC au ao ap tsn ssn k ad kk).d.length capA gA)]) hrA (by decide)) fun v95 hv94 => ?_
        obtain ⟨rb96, ro97, rfl, hrg98, hrt99, hrb100, hput101, hqs102⟩ := hv94
        refine O_store (vs := [(.i .u8 (pieceC au ao ap tsn ssn k ad (kk + 1)).k), (.i .u8 (pieceC au ao ap tsn ssn k ad (kk + 1)).f), (.i .u32 (pieceC au ao ap tsn ssn k ad (kk + 1)).a), (.i .u32 bB), (.i .u16 (pieceC au ao ap tsn ssn k ad (kk + 1)).o), (.i .u16 (pieceC au ao ap tsn ssn k ad (kk + 1)).i), (.i .u32 (pieceC au ao ap tsn ssn k ad (kk + 1)).p), blB, duB, skB, paB, (.sl aB (pieceC au ao ap tsn ssn k ad (kk + 1)).d.length capB gB)]) (c' := (putAt c86 (ro97 + 0) [(.i .u8 (pieceC au ao ap tsn ssn k ad (kk + 1)).k), (.i .u8 (pieceC au ao ap tsn ssn k ad (kk + 1)).f), (.i .u32 (pieceC au ao ap tsn ssn k ad (kk + 1)).a), (.i .u32 bB), (.i .u16 (pieceC au ao ap tsn ssn k ad (kk + 1)).o), (.i .u16 (pieceC au ao ap tsn ssn k ad (kk + 1)).i), (.i .u32 (pieceC au ao ap tsn ssn k ad (kk + 1)).p), blB, duB, skB, paB, (.sl aB (pieceC au ao ap tsn ssn k ad (kk + 1)).d.length capB gB)])) rfl (by rfl) hrg98 rfl (List.cons_ne_nil _ _) (by have := hrb100; show _ + 12 ≤ _; omega) rfl fun H103 hW104 => ?_
        have hH106 := Hs.cong0 (Hs.wr0 (Hs.cong0 hH88 (hqs102 _)) hW104) (hqs102 _).symm
        have hSq105 := hput101 0 [(.i .u8 (pieceC au ao ap tsn ssn k ad (kk + 1)).k), (.i .u8 (pieceC au ao ap tsn ssn k ad (kk + 1)).f), (.i .u32 (pieceC au ao ap tsn ssn k ad (kk + 1)).a), (.i .u32 bB), (.i .u16 (pieceC au ao ap tsn ssn k ad (kk + 1)).o), (.i .u16 (pieceC au ao ap tsn ssn k ad (kk + 1)).i), (.i .u32 (pieceC au ao ap tsn ssn k ad (kk + 1)).p), blB, duB, skB, paB, (.sl aB (pieceC au ao ap tsn ssn k ad (kk + 1)).d.length capB gB)] [(.i .u8 (pieceC au ao ap tsn ssn k ad (kk + 1)).k), (.i .u8 (pieceC au ao ap tsn ssn k ad (kk + 1)).f), (.i .u32 (pieceC au ao ap tsn ssn k ad (kk + 1)).a), (.i .u32 bB), (.i .u16 (pieceC au ao ap tsn ssn k ad (kk + 1)).o), (.i .u16 (pieceC au ao ap tsn ssn k ad (kk + 1)).i), (.i .u32 (pieceC au ao ap tsn ssn k ad (kk + 1)).p), blB, duB, skB, paB, (.sl aB (pieceC au ao ap tsn ssn k ad (kk + 1)).d.length capB gB)] (Nat.le_of_ble_eq_true rfl) rfl
        have hcx1 : CksR true (D10 ++ (allL H0)) (rows14.set kk [(.i .u8 (pieceC au ao ap tsn ssn k ad (kk + 1)).k), (.i .u8 (pieceC au ao ap tsn ssn k ad (kk + 1)).f), (.i .u32 (pieceC au ao ap tsn ssn k ad (kk + 1)).a), (.i .u32 bB), (.i .u16 (pieceC au ao ap tsn ssn k ad (kk + 1)).o), (.i .u16 (pieceC au ao ap tsn ssn k ad (kk + 1)).i), (.i .u32 (pieceC au ao ap tsn ssn k ad (kk + 1)).p), blB, duB, skB, paB, (.sl aB (pieceC au ao ap tsn ssn k ad (kk + 1)).d.length capB gB)]) (cs.set kk (pieceC au ao ap tsn ssn k ad (kk + 1))) := hcr16.set hrowB
        refine O_nil ?_
        refine C_seq ?_
        refine C_region ?_
        refine O_p o84 (r_mv rfl) ?_
        refine O_p (.i .i64 (((kk : Nat)) : Int)) (r_mv rfl) ?_
        refine O_p (.i .i64 ((((kk : Nat)) : Int) + 1)) (by exact (r_addi rfl rfl (wrap_i64 (by omega) (by omega)))) ?_
        refine O_p w11 (r_mv rfl) ?_
        refine O_p (.i .i64 (((kk : Nat)) : Int)) (r_mv rfl) ?_
        refine O_q (by exact Rw.row (hrw15 _ (Hs.fst (Hs.unassoc ((hH106.top4).top4)))) rfl (i := kk) rfl (r := [(.i .u8 (pieceC au ao ap tsn ssn k ad kk).k), (.i .u8 (pieceC au ao ap tsn ssn k ad kk).f), (.i .u32 (pieceC au ao ap tsn ssn k ad kk).a), (.i .u32 bA), (.i .u16 (pieceC au ao ap tsn ssn k ad kk).o), (.i .u16 (pieceC au ao ap tsn ssn k ad kk).i), (.i .u32 (pieceC au ao ap tsn ssn k ad kk).p), blA, duA, skA, paA, (.sl aA (pieceC au ao ap tsn ssn k ad kk).d.length capA gA)]) hrA) fun v108 hv107 => ?_
        obtain ⟨rb109, ro110, rfl, hr111⟩ := hv107
        refine O_p (.agg [(.i .u8 (pieceC au ao ap tsn ssn k ad kk).k), (.i .u8 (pieceC au ao ap tsn ssn k ad kk).f), (.i .u32 (pieceC au ao ap tsn ssn k ad kk).a), (.i .u32 bA), (.i .u16 (pieceC au ao ap tsn ssn k ad kk).o), (.i .u16 (pieceC au ao ap tsn ssn k ad kk).i), (.i .u32 (pieceC au ao ap tsn ssn k ad kk).p), blA, duA, skA, paA, (.sl aA (pieceC au ao ap tsn ssn k ad kk).d.length capA gA)]) (r_ldRA (q := 0) rfl (hr111 _ (hrw15 _ (Hs.fst (Hs.unassoc ((hH106.top4).top4))))) rfl) ?_
        refine O_q (by exact Sq.cell hSq105 hcx1.lens hH106.top0 rfl (i := (kk + 1)) rfl (r := [(.i .u8 (pieceC au ao ap tsn ssn k ad (kk + 1)).k), (.i .u8 (pieceC au ao ap tsn ssn k ad (kk + 1)).f), (.i .u32 (pieceC au ao ap tsn ssn k ad (kk + 1)).a), (.i .u32 bB), (.i .u16 (pieceC au ao ap tsn ssn k ad (kk + 1)).o), (.i .u16 (pieceC au ao ap tsn ssn k ad (kk + 1)).i), (.i .u32 (pieceC au ao ap tsn ssn k ad (kk + 1)).p), blB, duB, skB, paB, (.sl aB (pieceC au ao ap tsn ssn k ad (kk + 1)).d.length capB gB)]) ((List.getElem?_set_ne (by omega)).trans hrB) (by decide)) fun v113 hv112 => ?_
        obtain ⟨rb114, ro115, rfl, hrg116, hrt117, hrb118, hput119, hqs120⟩ := hv112
        refine O_store (vs := [(.i .u8 (pieceC au ao ap tsn ssn k ad kk).k), (.i .u8 (pieceC au ao ap tsn ssn k ad kk).f), (.i .u32 (pieceC au ao ap tsn ssn k ad kk).a), (.i .u32 bA), (.i .u16 (pieceC au ao ap tsn ssn k ad kk).o), (.i .u16 (pieceC au ao ap tsn ssn k ad kk).i), (.i .u32 (pieceC au ao ap tsn ssn k ad kk).p), blA, duA, skA, paA, (.sl aA (pieceC au ao ap tsn ssn k ad kk).d.length capA gA)]) (c' := (putAt (putAt c86 (ro97 + 0) [(.i .u8 (pieceC au ao ap tsn ssn k ad (kk + 1)).k), (.i .u8 (pieceC au ao ap tsn ssn k ad (kk + 1)).f), (.i .u32 (pieceC au ao ap tsn ssn k ad (kk + 1)).a), (.i .u32 bB), (.i .u16 (pieceC au ao ap tsn ssn k ad (kk + 1)).o), (.i .u16 (pieceC au ao ap tsn ssn k ad (kk + 1)).i), (.i .u32 (pieceC au ao ap tsn ssn k ad (kk + 1)).p), blB, duB, skB, paB, (.sl aB (pieceC au ao ap tsn ssn k ad (kk + 1)).d.length capB gB)]) (ro115 + 0) [(.i .u8 (pieceC au ao ap tsn ssn k ad kk).k), (.i .u8 (pieceC au ao ap tsn ssn k ad kk).f), (.i .u32 (pieceC au ao ap tsn ssn k ad kk).a), (.i .u32 bA), (.i .u16 (pieceC au ao ap tsn ssn k ad kk).o), (.i .u16 (pieceC au ao ap tsn ssn k ad kk).i), (.i .u32 (pieceC au ao ap tsn ssn k ad kk).p), blA, duA, skA, paA, (.sl aA (pieceC au ao ap tsn ssn k ad kk).d.length capA gA)])) rfl (by rfl) hrg116 rfl (List.cons_ne_nil _ _) (by have := hrb118; show _ + 12 ≤ _; omega) rfl fun H121 hW122 => ?_
        have hH124 := Hs.cong0 (Hs.wr0 (Hs.cong0 hH106 (hqs120 _)) hW122) (hqs120 _).symm
        have hSq123 := hput119 0 [(.i .u8 (pieceC au ao ap tsn ssn k ad kk).k), (.i .u8 (pieceC au ao ap tsn ssn k ad kk).f), (.i .u32 (pieceC au ao ap tsn ssn k ad kk).a), (.i .u32 bA), (.i .u16 (pieceC au ao ap tsn ssn k ad kk).o), (.i .u16 (pieceC au ao ap tsn ssn k ad kk).i), (.i .u32 (pieceC au ao ap tsn ssn k ad kk).p), blA, duA, skA, paA, (.sl aA (pieceC au ao ap tsn ssn k ad kk).d.length capA gA)] [(.i .u8 (pieceC au ao ap tsn ssn k ad kk).k), (.i .u8 (pieceC au ao ap tsn ssn k ad kk).f), (.i .u32 (pieceC au ao ap tsn ssn k ad kk).a), (.i .u32 bA), (.i .u16 (pieceC au ao ap tsn ssn k ad kk).o), (.i .u16 (pieceC au ao ap tsn ssn k ad kk).i), (.i .u32 (pieceC au ao ap tsn ssn k ad kk).p), blA, duA, skA, paA, (.sl aA (pieceC au ao ap tsn ssn k ad kk).d.length capA gA)] (Nat.le_of_ble_eq_true rfl) rfl
        have hcx2 : CksR true (D10 ++ (allL H0)) ((rows14.set kk [(.i .u8 (pieceC au ao ap tsn ssn k ad (kk + 1)).k), (.i .u8 (pieceC au ao ap tsn ssn k ad (kk + 1)).f), (.i .u32 (pieceC au ao ap tsn ssn k ad (kk + 1)).a), (.i .u32 bB), (.i .u16 (pieceC au ao ap tsn ssn k ad (kk + 1)).o), (.i .u16 (pieceC au ao ap tsn ssn k ad (kk + 1)).i), (.i .u32 (pieceC au ao ap tsn ssn k ad (kk + 1)).p), blB, duB, skB, paB, (.sl aB (pieceC au ao ap tsn ssn k ad (kk + 1)).d.length capB gB)]).set (kk + 1) [(.i .u8 (pieceC au ao ap tsn ssn k ad kk).k), (.i .u8 (pieceC au ao ap tsn ssn k ad kk).f), (.i .u32 (pieceC au ao ap tsn ssn k ad kk).a), (.i .u32 bA), (.i .u16 (pieceC au ao ap tsn ssn k ad kk).o), (.i .u16 (pieceC au ao ap tsn ssn k ad kk).i), (.i .u32 (pieceC au ao ap tsn ssn k ad kk).p), blA, duA, skA, paA, (.sl aA (pieceC au ao ap tsn ssn k ad kk).d.length capA gA)]) ((cs.set kk (pieceC au ao ap tsn ssn k ad (kk + 1))).set (kk + 1) (pieceC au ao ap tsn ssn k ad kk)) := hcx1.set hrowA
        have hM4 : isM ((cs.set kk (pieceC au ao ap tsn ssn k ad (kk + 1))).set (kk + 1) (pieceC au ao ap tsn ssn k ad kk)) = false := by rw [hcs]; exact split_swap (by omega)
        have hms4 := msgS_no hM4
        have hb4 : ∀ x ∈ ((cs.set kk (pieceC au ao ap tsn ssn k ad (kk + 1))).set (kk + 1) (pieceC au ao ap tsn ssn k ad kk)), x.d.length ≤ k := by
          intro x hx
          rcases List.mem_or_eq_of_mem_set hx with hx | rfl
          · rcases List.mem_or_eq_of_mem_set hx with hx | rfl
            · exact hb x hx
            · exact hb _ (List.mem_of_getElem? hxB)
          · exact hb _ (List.mem_of_getElem? hxA)
        refine O_nil ?_
        refine C_seq ?_
        refine C_region ?_
        refine O_p o84 (r_mv rfl) ?_
        have hH125 := (((hH124.top4).top4).top2)
        have hH126 : Hs H121 (((qseg o84 (putAt (putAt c86 (ro97 + 0) [(.i .u8 (pieceC au ao ap tsn ssn k ad (kk + 1)).k), (.i .u8 (pieceC au ao ap tsn ssn k ad (kk + 1)).f), (.i .u32 (pieceC au ao ap tsn ssn k ad (kk + 1)).a), (.i .u32 bB), (.i .u16 (pieceC au ao ap tsn ssn k ad (kk + 1)).o), (.i .u16 (pieceC au ao ap tsn ssn k ad (kk + 1)).i), (.i .u32 (pieceC au ao ap tsn ssn k ad (kk + 1)).p), blB, duB, skB, paB, (.sl aB (pieceC au ao ap tsn ssn k ad (kk + 1)).d.length capB gB)]) (ro115 + 0) [(.i .u8 (pieceC au ao ap tsn ssn k ad kk).k), (.i .u8 (pieceC au ao ap tsn ssn k ad kk).f), (.i .u32 (pieceC au ao ap tsn ssn k ad kk).a), (.i .u32 bA), (.i .u16 (pieceC au ao ap tsn ssn k ad kk).o), (.i .u16 (pieceC au ao ap tsn ssn k ad kk).i), (.i .u32 (pieceC au ao ap tsn ssn k ad kk).p), blA, duA, skA, paA, (.sl aA (pieceC au ao ap tsn ssn k ad kk).d.length capA gA)])) ++ (D10 ++ ((allL H0)))) ++ ([(n71, some (.cells ([(.i .u16 0), (.b false), (.i .u32 0), o66]) true))] ++ ((qseg o66 c67) ++ ([(n52, some (.cells ([(.i .u16 0), (.b false), (.i .u32 0), o47]) true))] ++ ((qseg o47 c48) ++ ((qseg o22 c23) ++ ([(n27, some (.cells ([(.i .u16 ao), (.b au), (.i .u32 ap), o22]) true))] ++ ([(n1, some (.cells ([(.i .u16 ao), (.b au), (.i .u32 ap), (.sl ada ad.length adc 0)]) true))] ++ ([]))))))))) := by have h := hH125; simpa only [List.append_assoc, List.cons_append, List.nil_append] using h
        refine O_call (Ev.mono (whole_ev (v := o84) (Cks.sq hSq123 hcx2) (by rw [List.length_set, List.length_set]; omega) (by have h1 := ck_bound hb4; rw [List.length_set, List.length_set] at h1; have h2 : cs.length * k ≤ 2000 * 1172 := Nat.mul_le_mul (by omega) (by omega); omega) hH126) fun v127 H128 hq129 => ?_)
        rw [hms4, hM4] at hq129
        obtain ⟨o130, c131, rfl, hSq132, hH133⟩ := hq129
        have hH134 : Hs H128 ((qseg o130 c131) ++ ((qseg o84 (putAt (putAt c86 (ro97 + 0) [(.i .u8 (pieceC au ao ap tsn ssn k ad (kk + 1)).k), (.i .u8 (pieceC au ao ap tsn ssn k ad (kk + 1)).f), (.i .u32 (pieceC au ao ap tsn ssn k ad (kk + 1)).a), (.i .u32 bB), (.i .u16 (pieceC au ao ap tsn ssn k ad (kk + 1)).o), (.i .u16 (pieceC au ao ap tsn ssn k ad (kk + 1)).i), (.i .u32 (pieceC au ao ap tsn ssn k ad (kk + 1)).p), blB, duB, skB, paB, (.sl aB (pieceC au ao ap tsn ssn k ad (kk + 1)).d.length capB gB)]) (ro115 + 0) [(.i .u8 (pieceC au ao ap tsn ssn k ad kk).k), (.i .u8 (pieceC au ao ap tsn ssn k ad kk).f), (.i .u32 (pieceC au ao ap tsn ssn k ad kk).a), (.i .u32 bA), (.i .u16 (pieceC au ao ap tsn ssn k ad kk).o), (.i .u16 (pieceC au ao ap tsn ssn k ad kk).i), (.i .u32 (pieceC au ao ap tsn ssn k ad kk).p), blA, duA, skA, paA, (.sl aA (pieceC au ao ap tsn ssn k ad kk).d.length capA gA)])) ++ (D10 ++ ((allL H0) ++ ([(n71, some (.cells ([(.i .u16 0), (.b false), (.i .u32 0), o66]) true))] ++ ((qseg o66 c67) ++ ([(n52, some (.cells ([(.i .u16 0), (.b false), (.i .u32 0), o47]) true))] ++ ((qseg o47 c48) ++ ((qseg o22 c23) ++ ([(n27, some (.cells ([(.i .u16 ao), (.b au), (.i .u32 ap), o22]) true))] ++ ([(n1, some (.cells ([(.i .u16 ao), (.b au), (.i .u32 ap), (.sl ada ad.length adc 0)]) true))] ++ ([])))))))))))) := by have h := hH133; simpa only [List.append_assoc, List.cons_append, List.nil_append] using h
        refine O_p (.tup [(.agg [(.i .u16 0), (.b false), (.i .u32 0), o130]), (.b false)]) (r_mv rfl) ?_
        refine O_p (.agg [(.i .u16 0), (.b false), (.i .u32 0), o130]) (r_ext rfl rfl) ?_
        refine O_p (.b false) (r_ext rfl rfl) ?_
        refine O_alloc fun n135 H136 hN137 => ?_
        have hH138 := hH134.new hN137
        refine O_store (vs := [(.i .u16 0), (.b false), (.i .u32 0), o130]) (c' := [(.i .u16 0), (.b false), (.i .u32 0), o130]) rfl (by rfl) hH138.get0 rfl (List.cons_ne_nil _ _) (Nat.le_of_ble_eq_true rfl) rfl fun H139 hW140 => ?_
        have hH141 := hH138.wr0 hW140
        refine O_p (.b false) (r_mv rfl) ?_
        refine O_nil ?_
        refine C_seq ?_
        refine C_region ?_
        refine O_p (.b true) (r_mv rfl) ?_
        refine O_p (.b true) (r_mv rfl) ?_
        refine O_gk rfl ?_
        refine O_p (.b false) (r_mv rfl) ?_
        refine O_gk rfl ?_
        refine O_p (.b true) (r_un rfl rfl) ?_
        refine O_p (.b true) (r_pick_t rfl rfl) ?_
        refine O_p (.b true) (r_mv rfl) ?_
        refine O_gk rfl ?_
        refine O_p (.b false) (r_mv rfl) ?_
        refine O_gk rfl ?_
        refine O_p (.b true) (r_un rfl rfl) ?_
        refine O_p (.b true) (r_pick_t rfl rfl) ?_
        refine O_p (.b true) (r_mv rfl) ?_
        refine O_gk rfl ?_
        refine O_p (.b false) (r_mv rfl) ?_
        refine O_gk rfl ?_
        refine O_p (.b true) (r_un rfl rfl) ?_
        refine O_p (.b true) (r_pick_t rfl rfl) ?_
        refine O_p (.b true) (r_mv rfl) ?_
        refine O_nil ?_
        refine C_ret ?_
        exact ⟨.inr rfl, _, resL_one (r_tmp (v := .b true) rfl), rfl⟩
    ·
      have hE1 := splitE_two hE (by omega)
      have hL0 : (splitL au ao ap tsn ssn most ad).length = 0 := by unfold splitL; rw [if_neg hE]; rfl
      refine C_region ?_
      refine O_p (.i .i64 (splitE ad.length most)) (r_mv rfl) ?_
      refine O_p (.b true) (by exact (by rw [r_neq rfl rfl, decide_eq_false (by first | omega | assumption)]; rfl)) ?_
      refine O_nil ?_
      refine C_cond (x := true) rfl (fun _ => ?_) (fun h => by cases h)
      refine C_seq ?_
      refine C_region ?_
      refine O_p (.b true) (r_mv rfl) ?_
      refine O_p (.b true) (r_mv rfl) ?_
      refine O_gk rfl ?_
      refine O_p (.i .i64 (splitE ad.length most)) (r_mv rfl) ?_
      refine O_gk rfl ?_
      refine O_p (.b true) (by exact (by rw [r_eql rfl rfl, decide_eq_true hE1])) ?_
      refine O_p (.b true) (r_pick_t rfl rfl) ?_
      refine O_p (.b true) (r_mv rfl) ?_
      refine O_gk rfl ?_
      refine O_p w11 (r_mv rfl) ?_
      refine O_gk rfl ?_
      refine O_p (.i .i64 ((((splitL au ao ap tsn ssn most ad).length : Nat)) : Int)) (r_lenOf rfl ((hrw15 _ (Hs.fst (Hs.unassoc ((hH13.top1).top1)))).lenOf hcr16.1) (hrw15 _ (Hs.fst (Hs.unassoc ((hH13.top1).top1)))).isSl) ?_
      refine O_gk rfl ?_
      refine O_p (.b true) (by exact (by rw [r_eql rfl rfl, decide_eq_true (by omega)])) ?_
      refine O_p (.b true) (r_pick_t rfl rfl) ?_
      refine O_p (.b true) (r_mv rfl) ?_
      refine O_nil ?_
      refine C_ret ?_
      refine nx_ret ?_
      exact ⟨.inr rfl, _, resL_one (r_tmp (v := .b true) rfl), rfl⟩
set_option maxRecDepth 100000 in
theorem law5 (W : World) (ρ : Rho) (H : AH) (xs : List AV) (args : Array Value) (hR : Rel Try.prog W.heap.size W ρ H W) (hro : RO H) (hv : VRL ρ xs args.toList) (ht : TypedVs Try.prog H 9 Try.f5.params.toList xs) :
    Calls Try.prog 5 args W fun e w' => e = .returned (.bool true) ∧ Below W.heap.size W w' := by
  rw [Try.params5] at ht
  obtain ⟨a0, xs, rfl, g0, a1, xs, rfl, g1, a2, xs, rfl, g2, a3, xs, rfl, g3, a4, xs, rfl, g4, rfl⟩ := ht
  obtain ⟨al, rfl, ag⟩ := typedV_struct Try.underlying26 g0
  obtain ⟨ahl, ahq⟩ := struct_parts (qs := [(22, 0, 1), (4, 1, 1), (23, 2, 1), (24, 3, 1)]) Try.underlying26 ag (by kernel_rfl)
  rw [show Try.prog.cellsOf 26 = 4 by kernel_rfl] at ahl
  obtain ⟨ax0, ax1, ax2, ax3, rfl⟩ : ∃ a b c d, al = [a, b, c, d] := by
    match al, ahl with
    | [a, b, c, d], _ => exact ⟨a, b, c, d, rfl⟩
  simp only [List.forall_mem_cons, List.drop_zero, List.drop_succ_cons, List.take_succ_cons, List.take_zero] at ahq
  obtain ⟨aq0, aq1, aq2, aq3, _⟩ := ahq
  obtain ⟨ao, ae0, aw0⟩ := typed_int Try.underlying22 aq0
  obtain ⟨au, ae1⟩ := typed_bool Try.underlying4 aq1
  obtain ⟨ap, ae2, aw2⟩ := typed_int Try.underlying23 aq2
  cases ae0; cases ae1; cases ae2
  obtain ⟨ada, adn, adc, ad, rfl, ahb, rfl, ahc, ahm⟩ := typed_bytes Try.underlying24 Try.underlying5 (by kernel_rfl) aq3
  obtain ⟨tsn, rfl, wtsn⟩ := typedV_int Try.underlying23 g1
  obtain ⟨ssn, rfl, wssn⟩ := typedV_int Try.underlying22 g2
  obtain ⟨most, rfl, wmost⟩ := typedV_int Try.underlying3 g3
  obtain ⟨att, rfl, watt⟩ := typedV_int Try.underlying3 g4
  obtain ⟨k, v, H', hex, rfl⟩ := run5 H hR.aok ao ap au ada adc ad ahb ahc ahm tsn ssn most att
  exact law_of mixed tabA_ok spA_ok hex hR hv
end Go.Proofs.Ytadloppgokobeaa.E
namespace Go.Proofs.Ytadloppgokobeaa.splitBack
open Go.ChangeShapes Go.WideShapes Go.RowKit
set_option linter.unusedVariables false
theorem own : ownKnob Try.prog.godebug = none := by kernel_rfl
theorem types : (Try.f5.params.toList.all fun t => E.fit Try.prog 9 t && (Try.prog.readableRec t && decide (t < Try.prog.types.size))) = true := by kernel_rfl
set_option maxRecDepth 100000 in
theorem lifted (os : Os) (started : os.Started) (H : Type) (enc : TypeId × Value → H) :
    ReturnsInHanded {} Try.checked os 5 .any (Rows.splitBackSpec.pre6 enc Try.prog Try.f5 Rows.splitBackRow.domain false) (Rows.splitBackSpec.post enc Try.prog Try.f5 false true false false) :=
  E.law_lifted (C := Try.checked) (k := 9) (tb := 4) E.globals0 E.laid own started (by kernel_rfl) Try.func5
    (ChangeSpec.witness6 (enc := enc) (C := Try.checked) false ⟨#[], #[.agg #[.int .u16 0, .bool false, .int .u32 0, .slice none 0 0], .int .u32 0, .int .u16 0, .int .i64 0, .int .i64 0], []⟩ 8 (by kernel_rfl) (by kernel_rfl) (by kernel_rfl) (by kernel_rfl))
    rfl rfl Try.underlying4 (fun t ht => by have h := List.all_eq_true.1 types t ht; simp only [Bool.and_eq_true, decide_eq_true_eq] at h; exact h)
    (fun ds hd => by
      rw [Try.params5] at hd
      match ds, hd with
      | [d0, d1, d2, d3, d4], _ => rfl) E.law5
theorem over : Rows.splitBackRow.holds Try.pinned (OpenSpec.ofChange Rows.splitBackSpec) :=
  OpenClaim.holds_of_wide 5 Try.f5 rfl rfl rfl rfl rfl rfl rfl ⟨rfl, rfl, rfl, rfl, rfl⟩ rfl rfl rfl rfl rfl (by kernel_rfl) Try.func5 (by kernel_rfl)
    (of_decide_eq_true (by kernel_rfl)) (by unfold Func.isWrapper; first | (rw [if_pos (by decide +kernel)]; kernel_rfl) | (rw [if_neg (by decide +kernel)]; exact ⟨rfl, rfl⟩))
    (fun os started H enc _ => lifted os started H enc)
end Go.Proofs.Ytadloppgokobeaa.splitBack
namespace Go.Proofs.Ytadloppgokobeaa
/-- The row, under a short name, for the claim. -/
theorem splitBack_holds : Rows.SplitBackSaid := splitBack.over
#print axioms splitBack_holds
end Go.Proofs.Ytadloppgokobeaa
