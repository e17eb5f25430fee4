/- DcepWraps, for every input, without conditions. -/
import Derived.Test.YtfhbdddjclodhaaDoorF
namespace Go.Proofs.YtfhbdddjclodhaaDoor.E
open Go.RowKit (Below)
open Go.Lib
set_option linter.unusedVariables false
set_option linter.unusedSimpArgs false
set_option maxRecDepth 100000 in
set_option maxHeartbeats 1000000 in
theorem run600 (H : AH) (hok : H.Ok) (htb : Tb H) (ba : Option (Nat × Nat)) (bc : Nat) (b : List UInt8) (bhb : Bs H (.sl ba b.length bc 0) b) (bhc : b.length ≤ bc) (bhm0 : bc ≤ maxLen) (ppid : Int) (he : 0 < b.length) : Ev tabV spV (.fn (.func 6) [] []) [.b false, .sl ba b.length bc 0, .i .u32 ppid] H (fun v _ => v = .b true) := by
  refine Ev_C (F := x6) rfl ?_
  have hO0 := Old.refl hok
  have bhm : bc ≤ 9223372036854775807 := bhm0
  have hul : (uB ppid b).length ≤ b.length := by unfold uB; split <;> simp
  have hu1 : uT 53 b = false ∧ uB 53 b = b ∧ uO 53 b = true := u_2 (ppid := 53) (b := b) (by omega) (by omega) he
  refine C_seq ?_
  refine C_region ?_
  refine O_p (.b false) (r_mv rfl) ?_
  refine O_nil ?_
  refine C_seq ?_
  refine C_region ?_
  refine O_call (Ev.mono (awake_ev (htb.kp hok hO0)) fun v1 H2 hq3 => ?_)
  obtain ⟨rfl, hq3⟩ := hq3
  subst H2
  refine O_p (.b true) (r_mv rfl) ?_
  refine O_nil ?_
  refine C_seq ?_
  refine C_seq ?_
  refine C_region ?_
  refine O_p (.sl ba b.length bc 0) (r_mv rfl) ?_
  refine O_p (.i .i64 (((b.length : Nat)) : Int)) (r_len rfl) ?_
  refine O_p (.b (decide (1000 < (((b.length : Nat)) : Int)))) (r_gtr rfl rfl) ?_
  refine O_nil ?_
  refine C_cond (x := (decide (1000 < (((b.length : Nat)) : Int)))) rfl (fun hc4 => ?_) (fun hc4 => ?_)
  ·
    simp only [decide_eq_true_eq, decide_eq_false_iff_not, Bool.not_eq_true', Bool.not_eq_false', Bool.and_eq_true, Bool.or_eq_true, Bool.or_eq_false_iff, Bool.not_not] at hc4
    refine C_seq ?_
    refine C_region ?_
    refine O_p (.b true) (r_mv rfl) ?_
    refine O_p (.b true) (r_mv rfl) ?_
    refine O_nil ?_
    refine C_ret ?_
    refine nx_ret ?_
    exact ⟨.inr rfl, _, resL_one (r_tmp (v := .b true) rfl), rfl⟩
  ·
    simp only [decide_eq_true_eq, decide_eq_false_iff_not, Bool.not_eq_true', Bool.not_eq_false', Bool.and_eq_true, Bool.or_eq_true, Bool.or_eq_false_iff, Bool.not_not] at hc4
    refine C_skip ?_
    refine C_seq ?_
    refine C_region ?_
    refine O_p (.b false) (r_mv rfl) ?_
    refine O_p (.sl ba b.length bc 0) (r_mv rfl) ?_
    refine O_call (Ev.mono (wrap_00 hO0.ok (.inl rfl) (bhb.old hok hO0) (by first | omega | (simp only [List.length_take, List.length_drop, List.length_append, List.length_cons, List.length_nil, beN_len] <;> omega)) (by first | omega | (simp only [List.length_take, List.length_drop, List.length_append, List.length_cons, List.length_nil, beN_len] <;> omega)) (by first | omega | (simp only [List.length_take, List.length_drop, List.length_append, List.length_cons, List.length_nil, beN_len] <;> omega)) (by omega)) fun v5 H6 hq7 => ?_)
    obtain ⟨o8, rfl, hM9, hK10⟩ := hq7
    have hx_hK10 := hK10.next
    have hO11 := hO0.trans hK10
    have hx_hO11 := hO11.next
    have hM12 := hM9.down (N := H.next) (by omega)
    refine O_p (.tup [(.i .u32 53), o8]) (r_mv rfl) ?_
    refine O_p (.i .u32 53) (r_ext rfl rfl) ?_
    refine O_p o8 (r_ext rfl rfl) ?_
    refine O_p (.i .u32 53) (r_mv rfl) ?_
    refine O_p o8 (r_mv rfl) ?_
    refine O_nil ?_
    refine C_seq ?_
    refine C_region ?_
    refine O_p (.i .u32 53) (r_mv rfl) ?_
    refine O_p o8 (r_mv rfl) ?_
    have hsf17 : Own 1 H6 o8 (bcells b) := hM12.own
    obtain ⟨oa13, og14, rfl, hog15, hob16⟩ := hsf17.bs
    have base18 := Old.refl hO11.ok
    refine O_call (Ev.mono (unwrap_ev hO11.ok 53 hog15 (hM12.own.asbs) (by first | omega | (simp only [List.length_take, List.length_drop, List.length_append, List.length_cons, List.length_nil, beN_len] <;> omega)) (by first | omega | (simp only [List.length_take, List.length_drop, List.length_append, List.length_cons, List.length_nil, beN_len] <;> omega)) (by first | omega | (simp only [List.length_take, List.length_drop, List.length_append, List.length_cons, List.length_nil, beN_len] <;> omega))) fun v19 H20 hq21 => ?_)
    rw [hu1.1, hu1.2.1, hu1.2.2] at hq21
    obtain ⟨o22, rfl, hM23, hK24⟩ := hq21
    have hx_hK24 := hK24.next
    have hM25 := hM12.kp hK24
    have hO26 := hO11.trans hK24
    have hx_hO26 := hO26.next
    have hO27 := base18.trans hK24
    have hM28 := hM23.down (N := H.next) (by omega)
    refine O_p (.tup [(.b false), o22, (.b true)]) (r_mv rfl) ?_
    refine O_p (.b false) (r_ext rfl rfl) ?_
    refine O_p o22 (r_ext rfl rfl) ?_
    refine O_p (.b true) (r_ext rfl rfl) ?_
    refine O_p (.b false) (r_mv rfl) ?_
    refine O_p o22 (r_mv rfl) ?_
    refine O_p (.b true) (r_mv rfl) ?_
    refine O_nil ?_
    refine C_seq ?_
    refine C_region ?_
    refine O_p (.i .u32 ppid) (r_mv rfl) ?_
    refine O_p (.sl ba b.length bc 0) (r_mv rfl) ?_
    refine O_call (Ev.mono (unwrap_ev hO26.ok ppid (.inl rfl) (bhb.old hok hO26) (by first | omega | (simp only [List.length_take, List.length_drop, List.length_append, List.length_cons, List.length_nil, beN_len] <;> omega)) (by first | omega | (simp only [List.length_take, List.length_drop, List.length_append, List.length_cons, List.length_nil, beN_len] <;> omega)) (by first | omega | (simp only [List.length_take, List.length_drop, List.length_append, List.length_cons, List.length_nil, beN_len] <;> omega))) fun v29 H30 hq31 => ?_)
    obtain ⟨o32, rfl, hM33, hK34⟩ := hq31
    have hx_hK34 := hK34.next
    have hM35 := hM25.kp hK34
    have hM36 := hM28.kp hK34
    have hO37 := hO26.trans hK34
    have hx_hO37 := hO37.next
    have hO38 := hO27.trans hK34
    have hM39 := hM33.down (N := H.next) (by omega)
    refine O_p (.tup [(.b (uT ppid b)), o32, (.b (uO ppid b))]) (r_mv rfl) ?_
    refine O_p (.b (uT ppid b)) (r_ext rfl rfl) ?_
    refine O_p o32 (r_ext rfl rfl) ?_
    refine O_p (.b (uO ppid b)) (r_ext rfl rfl) ?_
    refine O_p (.b (uT ppid b)) (r_mv rfl) ?_
    refine O_p o32 (r_mv rfl) ?_
    refine O_p (.b (uO ppid b)) (r_mv rfl) ?_
    refine O_nil ?_
    refine C_seq ?_
    refine C_region ?_
    refine O_p (.i .u32 ppid) (r_mv rfl) ?_
    refine O_p (.sl ba b.length bc 0) (r_mv rfl) ?_
    refine O_call (Ev.mono (runwrap_ev hO37.ok ppid (.inl rfl) (bhb.old hok hO37) (by first | omega | (simp only [List.length_take, List.length_drop, List.length_append, List.length_cons, List.length_nil, beN_len] <;> omega)) (by first | omega | (simp only [List.length_take, List.length_drop, List.length_append, List.length_cons, List.length_nil, beN_len] <;> omega)) (by first | omega | (simp only [List.length_take, List.length_drop, List.length_append, List.length_cons, List.length_nil, beN_len] <;> omega))) fun v40 H41 hq42 => ?_)
    obtain ⟨ra43, rn44, rc45, rg46, rfl, hrg47, hrb48, hrc49, hrm50, hK51⟩ := hq42
    have hl_rn44 := hrb48.length
    subst hl_rn44
    have hx_hK51 := hK51.next
    have hM52 := hM35.kp hK51
    have hM53 := hM36.kp hK51
    have hM54 := hM39.kp hK51
    have hO55 := hO37.trans hK51
    have hx_hO55 := hO55.next
    have hO56 := hO38.trans hK51
    have base57 := Old.refl hO55.ok
    refine O_p (.tup [(.b (uT ppid b)), (.sl ra43 (uB ppid b).length rc45 rg46), (.b (uO ppid b))]) (r_mv rfl) ?_
    refine O_p (.b (uT ppid b)) (r_ext rfl rfl) ?_
    refine O_p (.sl ra43 (uB ppid b).length rc45 rg46) (r_ext rfl rfl) ?_
    refine O_p (.b (uO ppid b)) (r_ext rfl rfl) ?_
    refine O_p (.b (uT ppid b)) (r_mv rfl) ?_
    refine O_p (.sl ra43 (uB ppid b).length rc45 rg46) (r_mv rfl) ?_
    refine O_p (.b (uO ppid b)) (r_mv rfl) ?_
    refine O_nil ?_
    refine C_seq ?_
    refine C_region ?_
    refine O_p (.i .u32 53) (r_mv rfl) ?_
    refine O_nil ?_
    refine C_seq ?_
    refine C_seq ?_
    refine C_region ?_
    refine O_p (.b false) (r_mv rfl) ?_
    refine O_nil ?_
    refine C_cond (x := false) rfl (fun h => by cases h) (fun _ => ?_)
    refine C_skip ?_
    refine C_seq ?_
    refine C_seq ?_
    refine C_region ?_
    refine O_p (.sl ba b.length bc 0) (r_mv rfl) ?_
    refine O_p (.i .i64 (((b.length : Nat)) : Int)) (r_len rfl) ?_
    refine O_p (.b false) (by exact (by rw [r_eql rfl rfl, decide_eq_false (by first | omega | assumption)])) ?_
    refine O_nil ?_
    refine C_cond (x := false) rfl (fun h => by cases h) (fun _ => ?_)
    refine C_skip ?_
    refine C_seq ?_
    refine C_region ?_
    refine O_p (.b true) (r_mv rfl) ?_
    refine O_p (.b true) (r_mv rfl) ?_
    refine O_gs (v := (.i .u32 53)) rfl (r_mv rfl) ?_
    refine O_gs (v := (.i .u32 53)) rfl (r_mv rfl) ?_
    refine O_gs (v := (.b true)) rfl (by exact (by rw [r_eql rfl rfl, decide_eq_true (by decide)])) ?_
    refine O_p (.b true) (r_pick_t rfl rfl) ?_
    refine O_p (.b true) (r_mv rfl) ?_
    refine O_gs (v := (.sl oa13 (b).length (b).length og14)) rfl (r_mv rfl) ?_
    refine O_gs (v := (.i .i64 ((((b).length : Nat)) : Int))) rfl (r_len rfl) ?_
    refine O_gs (v := (.b true)) rfl (by exact (by rw [r_gtr rfl rfl, decide_eq_true (by first | omega | assumption)])) ?_
    refine O_p (.b true) (r_pick_t rfl rfl) ?_
    refine O_p (.b true) (r_mv rfl) ?_
    refine O_gs (v := (.b false)) rfl (r_mv rfl) ?_
    refine O_gs (v := (.b false)) rfl (r_mv rfl) ?_
    refine O_gs (v := (.b true)) rfl (r_beqq rfl rfl) ?_
    refine O_p (.b true) (r_pick_t rfl rfl) ?_
    refine O_p (.b true) (r_mv rfl) ?_
    refine O_gs (v := o22) rfl (r_mv rfl) ?_
    refine O_gs (v := (.sl ba b.length bc 0)) rfl (r_mv rfl) ?_
    have hsf62 : Own 1 H41 o22 (bcells b) := hM53.own
    obtain ⟨oa58, og59, rfl, hog60, hob61⟩ := hsf62.bs
    have base63 := Old.refl hO55.ok
    refine O_gcall rfl (Ev.mono (same_ev hO55.ok hog60 (hM53.own.asbs) (by first | omega | (simp only [List.length_take, List.length_drop, List.length_append, List.length_cons, List.length_nil, beN_len] <;> omega)) (by first | omega | (simp only [List.length_take, List.length_drop, List.length_append, List.length_cons, List.length_nil, beN_len] <;> omega)) (.inl rfl) (bhb.old hok hO55) (by first | omega | (simp only [List.length_take, List.length_drop, List.length_append, List.length_cons, List.length_nil, beN_len] <;> omega)) (by first | omega | (simp only [List.length_take, List.length_drop, List.length_append, List.length_cons, List.length_nil, beN_len] <;> omega))) fun v64 H65 hq66 => ?_)
    rw [show decide (b = b) = true from decide_eq_true rfl] at hq66
    obtain ⟨rfl, hq66⟩ := hq66
    subst H65
    refine O_p (.b true) (r_pick_t rfl rfl) ?_
    refine O_p (.b true) (r_mv rfl) ?_
    refine O_gs (v := (.b true)) rfl (r_mv rfl) ?_
    refine O_p (.b true) (r_pick_t rfl rfl) ?_
    refine O_p (.b true) (r_mv rfl) ?_
    refine O_gs (v := (.b (uT ppid b))) rfl (r_mv rfl) ?_
    refine O_gs (v := (.b (uT ppid b))) rfl (r_mv rfl) ?_
    refine O_gs (v := (.b true)) rfl (r_beqq rfl rfl) ?_
    refine O_p (.b true) (r_pick_t rfl rfl) ?_
    refine O_p (.b true) (r_mv rfl) ?_
    refine O_gs (v := o32) rfl (r_mv rfl) ?_
    refine O_gs (v := (.sl ra43 (uB ppid b).length rc45 rg46)) rfl (r_mv rfl) ?_
    have hsf71 : Own 1 H41 o32 (bcells (uB ppid b)) := hM54.own
    obtain ⟨oa67, og68, rfl, hog69, hob70⟩ := hsf71.bs
    have base72 := Old.refl hO55.ok
    refine O_gcall rfl (Ev.mono (same_ev hO55.ok hog69 (hM54.own.asbs) (by first | omega | (simp only [List.length_take, List.length_drop, List.length_append, List.length_cons, List.length_nil, beN_len] <;> omega)) (by first | omega | (simp only [List.length_take, List.length_drop, List.length_append, List.length_cons, List.length_nil, beN_len] <;> omega)) hrg47 (hrb48.old hO55.ok base57) (by first | omega | (simp only [List.length_take, List.length_drop, List.length_append, List.length_cons, List.length_nil, beN_len] <;> omega)) (by first | omega | (simp only [List.length_take, List.length_drop, List.length_append, List.length_cons, List.length_nil, beN_len] <;> omega))) fun v73 H74 hq75 => ?_)
    rw [show decide ((uB ppid b) = (uB ppid b)) = true from decide_eq_true rfl] at hq75
    obtain ⟨rfl, hq75⟩ := hq75
    subst H74
    refine O_p (.b true) (r_pick_t rfl rfl) ?_
    refine O_p (.b true) (r_mv rfl) ?_
    refine O_gs (v := (.b (uO ppid b))) rfl (r_mv rfl) ?_
    refine O_gs (v := (.b (uO ppid b))) rfl (r_mv rfl) ?_
    refine O_gs (v := (.b true)) rfl (r_beqq rfl rfl) ?_
    refine O_p (.b true) (r_pick_t rfl rfl) ?_
    refine O_p (.b true) (r_mv rfl) ?_
    refine O_nil ?_
    refine C_ret ?_
    exact ⟨.inr rfl, _, resL_one (r_tmp (v := .b true) rfl), rfl⟩
set_option maxRecDepth 100000 in
set_option maxHeartbeats 1000000 in
theorem run601 (H : AH) (hok : H.Ok) (htb : Tb H) (ba : Option (Nat × Nat)) (bc : Nat) (b : List UInt8) (bhb : Bs H (.sl ba b.length bc 0) b) (bhc : b.length ≤ bc) (bhm0 : bc ≤ maxLen) (ppid : Int) (he : b.length = 0) : Ev tabV spV (.fn (.func 6) [] []) [.b false, .sl ba b.length bc 0, .i .u32 ppid] H (fun v _ => v = .b true) := by
  refine Ev_C (F := x6) rfl ?_
  have hO0 := Old.refl hok
  have bhm : bc ≤ 9223372036854775807 := bhm0
  have hul : (uB ppid b).length ≤ b.length := by unfold uB; split <;> simp
  have hb0 : b = [] := List.eq_nil_of_length_eq_zero he
  have hu1 := u_1 (ppid := 57) (b := [0]) (by omega)
  have hu1 : uT 57 [0] = false ∧ uB 57 [0] = b ∧ uO 57 [0] = true := ⟨hu1.1, by rw [hb0]; exact hu1.2.1, hu1.2.2⟩
  refine C_seq ?_
  refine C_region ?_
  refine O_p (.b false) (r_mv rfl) ?_
  refine O_nil ?_
  refine C_seq ?_
  refine C_region ?_
  refine O_call (Ev.mono (awake_ev (htb.kp hok hO0)) fun v1 H2 hq3 => ?_)
  obtain ⟨rfl, hq3⟩ := hq3
  subst H2
  refine O_p (.b true) (r_mv rfl) ?_
  refine O_nil ?_
  refine C_seq ?_
  refine C_seq ?_
  refine C_region ?_
  refine O_p (.sl ba b.length bc 0) (r_mv rfl) ?_
  refine O_p (.i .i64 (((b.length : Nat)) : Int)) (r_len rfl) ?_
  refine O_p (.b (decide (1000 < (((b.length : Nat)) : Int)))) (r_gtr rfl rfl) ?_
  refine O_nil ?_
  refine C_cond (x := (decide (1000 < (((b.length : Nat)) : Int)))) rfl (fun hc4 => ?_) (fun hc4 => ?_)
  ·
    simp only [decide_eq_true_eq, decide_eq_false_iff_not, Bool.not_eq_true', Bool.not_eq_false', Bool.and_eq_true, Bool.or_eq_true, Bool.or_eq_false_iff, Bool.not_not] at hc4
    refine C_seq ?_
    refine C_region ?_
    refine O_p (.b true) (r_mv rfl) ?_
    refine O_p (.b true) (r_mv rfl) ?_
    refine O_nil ?_
    refine C_ret ?_
    refine nx_ret ?_
    exact ⟨.inr rfl, _, resL_one (r_tmp (v := .b true) rfl), rfl⟩
  ·
    simp only [decide_eq_true_eq, decide_eq_false_iff_not, Bool.not_eq_true', Bool.not_eq_false', Bool.and_eq_true, Bool.or_eq_true, Bool.or_eq_false_iff, Bool.not_not] at hc4
    refine C_skip ?_
    refine C_seq ?_
    refine C_region ?_
    refine O_p (.b false) (r_mv rfl) ?_
    refine O_p (.sl ba b.length bc 0) (r_mv rfl) ?_
    refine O_call (Ev.mono (wrap_01 hO0.ok (.inl rfl) (bhb.old hok hO0) (by first | omega | (simp only [List.length_take, List.length_drop, List.length_append, List.length_cons, List.length_nil, beN_len] <;> omega)) (by first | omega | (simp only [List.length_take, List.length_drop, List.length_append, List.length_cons, List.length_nil, beN_len] <;> omega)) (by first | omega | (simp only [List.length_take, List.length_drop, List.length_append, List.length_cons, List.length_nil, beN_len] <;> omega)) (by omega)) fun v5 H6 hq7 => ?_)
    obtain ⟨o8, rfl, hM9, hK10⟩ := hq7
    have hx_hK10 := hK10.next
    have hO11 := hO0.trans hK10
    have hx_hO11 := hO11.next
    have hM12 := hM9.down (N := H.next) (by omega)
    refine O_p (.tup [(.i .u32 57), o8]) (r_mv rfl) ?_
    refine O_p (.i .u32 57) (r_ext rfl rfl) ?_
    refine O_p o8 (r_ext rfl rfl) ?_
    refine O_p (.i .u32 57) (r_mv rfl) ?_
    refine O_p o8 (r_mv rfl) ?_
    refine O_nil ?_
    refine C_seq ?_
    refine C_region ?_
    refine O_p (.i .u32 57) (r_mv rfl) ?_
    refine O_p o8 (r_mv rfl) ?_
    have hsf17 : Own 1 H6 o8 (bcells ([0] : List UInt8)) := hM12.own
    obtain ⟨oa13, og14, rfl, hog15, hob16⟩ := hsf17.bs
    have base18 := Old.refl hO11.ok
    refine O_call (Ev.mono (unwrap_ev hO11.ok 57 hog15 (hM12.own.asbs) (by first | omega | (simp only [List.length_take, List.length_drop, List.length_append, List.length_cons, List.length_nil, beN_len] <;> omega)) (by first | omega | (simp only [List.length_take, List.length_drop, List.length_append, List.length_cons, List.length_nil, beN_len] <;> omega)) (by first | omega | (simp only [List.length_take, List.length_drop, List.length_append, List.length_cons, List.length_nil, beN_len] <;> omega))) fun v19 H20 hq21 => ?_)
    rw [hu1.1, hu1.2.1, hu1.2.2] at hq21
    obtain ⟨o22, rfl, hM23, hK24⟩ := hq21
    have hx_hK24 := hK24.next
    have hM25 := hM12.kp hK24
    have hO26 := hO11.trans hK24
    have hx_hO26 := hO26.next
    have hO27 := base18.trans hK24
    have hM28 := hM23.down (N := H.next) (by omega)
    refine O_p (.tup [(.b false), o22, (.b true)]) (r_mv rfl) ?_
    refine O_p (.b false) (r_ext rfl rfl) ?_
    refine O_p o22 (r_ext rfl rfl) ?_
    refine O_p (.b true) (r_ext rfl rfl) ?_
    refine O_p (.b false) (r_mv rfl) ?_
    refine O_p o22 (r_mv rfl) ?_
    refine O_p (.b true) (r_mv rfl) ?_
    refine O_nil ?_
    refine C_seq ?_
    refine C_region ?_
    refine O_p (.i .u32 ppid) (r_mv rfl) ?_
    refine O_p (.sl ba b.length bc 0) (r_mv rfl) ?_
    refine O_call (Ev.mono (unwrap_ev hO26.ok ppid (.inl rfl) (bhb.old hok hO26) (by first | omega | (simp only [List.length_take, List.length_drop, List.length_append, List.length_cons, List.length_nil, beN_len] <;> omega)) (by first | omega | (simp only [List.length_take, List.length_drop, List.length_append, List.length_cons, List.length_nil, beN_len] <;> omega)) (by first | omega | (simp only [List.length_take, List.length_drop, List.length_append, List.length_cons, List.length_nil, beN_len] <;> omega))) fun v29 H30 hq31 => ?_)
    obtain ⟨o32, rfl, hM33, hK34⟩ := hq31
    have hx_hK34 := hK34.next
    have hM35 := hM25.kp hK34
    have hM36 := hM28.kp hK34
    have hO37 := hO26.trans hK34
    have hx_hO37 := hO37.next
    have hO38 := hO27.trans hK34
    have hM39 := hM33.down (N := H.next) (by omega)
    refine O_p (.tup [(.b (uT ppid b)), o32, (.b (uO ppid b))]) (r_mv rfl) ?_
    refine O_p (.b (uT ppid b)) (r_ext rfl rfl) ?_
    refine O_p o32 (r_ext rfl rfl) ?_
    refine O_p (.b (uO ppid b)) (r_ext rfl rfl) ?_
    refine O_p (.b (uT ppid b)) (r_mv rfl) ?_
    refine O_p o32 (r_mv rfl) ?_
    refine O_p (.b (uO ppid b)) (r_mv rfl) ?_
    refine O_nil ?_
    refine C_seq ?_
    refine C_region ?_
    refine O_p (.i .u32 ppid) (r_mv rfl) ?_
    refine O_p (.sl ba b.length bc 0) (r_mv rfl) ?_
    refine O_call (Ev.mono (runwrap_ev hO37.ok ppid (.inl rfl) (bhb.old hok hO37) (by first | omega | (simp only [List.length_take, List.length_drop, List.length_append, List.length_cons, List.length_nil, beN_len] <;> omega)) (by first | omega | (simp only [List.length_take, List.length_drop, List.length_append, List.length_cons, List.length_nil, beN_len] <;> omega)) (by first | omega | (simp only [List.length_take, List.length_drop, List.length_append, List.length_cons, List.length_nil, beN_len] <;> omega))) fun v40 H41 hq42 => ?_)
    obtain ⟨ra43, rn44, rc45, rg46, rfl, hrg47, hrb48, hrc49, hrm50, hK51⟩ := hq42
    have hl_rn44 := hrb48.length
    subst hl_rn44
    have hx_hK51 := hK51.next
    have hM52 := hM35.kp hK51
    have hM53 := hM36.kp hK51
    have hM54 := hM39.kp hK51
    have hO55 := hO37.trans hK51
    have hx_hO55 := hO55.next
    have hO56 := hO38.trans hK51
    have base57 := Old.refl hO55.ok
    refine O_p (.tup [(.b (uT ppid b)), (.sl ra43 (uB ppid b).length rc45 rg46), (.b (uO ppid b))]) (r_mv rfl) ?_
    refine O_p (.b (uT ppid b)) (r_ext rfl rfl) ?_
    refine O_p (.sl ra43 (uB ppid b).length rc45 rg46) (r_ext rfl rfl) ?_
    refine O_p (.b (uO ppid b)) (r_ext rfl rfl) ?_
    refine O_p (.b (uT ppid b)) (r_mv rfl) ?_
    refine O_p (.sl ra43 (uB ppid b).length rc45 rg46) (r_mv rfl) ?_
    refine O_p (.b (uO ppid b)) (r_mv rfl) ?_
    refine O_nil ?_
    refine C_seq ?_
    refine C_region ?_
    refine O_p (.i .u32 53) (r_mv rfl) ?_
    refine O_nil ?_
    refine C_seq ?_
    refine C_seq ?_
    refine C_region ?_
    refine O_p (.b false) (r_mv rfl) ?_
    refine O_nil ?_
    refine C_cond (x := false) rfl (fun h => by cases h) (fun _ => ?_)
    refine C_skip ?_
    refine C_seq ?_
    refine C_seq ?_
    refine C_region ?_
    refine O_p (.sl ba b.length bc 0) (r_mv rfl) ?_
    refine O_p (.i .i64 (((b.length : Nat)) : Int)) (r_len rfl) ?_
    refine O_p (.b true) (by exact (by rw [r_eql rfl rfl, decide_eq_true (by first | omega | assumption)])) ?_
    refine O_nil ?_
    refine C_cond (x := true) rfl (fun _ => ?_) (fun h => by cases h)
    refine C_seq ?_
    refine C_region ?_
    refine O_p (.i .u32 53) (r_mv rfl) ?_
    refine O_p (.i .u32 (IntKind.u32.wrap (53 + 4))) (r_bin rfl rfl rfl) ?_
    refine O_p (.i .u32 (IntKind.u32.wrap (53 + 4))) (r_mv rfl) ?_
    refine O_nil ?_
    refine C_seq ?_
    refine C_region ?_
    refine O_p (.b false) (r_mv rfl) ?_
    refine O_nil ?_
    refine C_cond (x := false) rfl (fun h => by cases h) (fun _ => ?_)
    refine C_skip ?_
    refine C_seq ?_
    refine C_region ?_
    refine O_p (.b true) (r_mv rfl) ?_
    refine O_p (.b true) (r_mv rfl) ?_
    refine O_gs (v := (.i .u32 57)) rfl (r_mv rfl) ?_
    refine O_gs (v := (.i .u32 (IntKind.u32.wrap (53 + 4)))) rfl (r_mv rfl) ?_
    refine O_gs (v := (.b true)) rfl (by exact (by rw [r_eql rfl rfl, decide_eq_true (by decide)])) ?_
    refine O_p (.b true) (r_pick_t rfl rfl) ?_
    refine O_p (.b true) (r_mv rfl) ?_
    refine O_gs (v := (.sl oa13 (([0] : List UInt8)).length (([0] : List UInt8)).length og14)) rfl (r_mv rfl) ?_
    refine O_gs (v := (.i .i64 ((((([0] : List UInt8)).length : Nat)) : Int))) rfl (r_len rfl) ?_
    refine O_gs (v := (.b true)) rfl (by exact (by rw [r_gtr rfl rfl, decide_eq_true (by decide)])) ?_
    refine O_p (.b true) (r_pick_t rfl rfl) ?_
    refine O_p (.b true) (r_mv rfl) ?_
    refine O_gs (v := (.b false)) rfl (r_mv rfl) ?_
    refine O_gs (v := (.b false)) rfl (r_mv rfl) ?_
    refine O_gs (v := (.b true)) rfl (r_beqq rfl rfl) ?_
    refine O_p (.b true) (r_pick_t rfl rfl) ?_
    refine O_p (.b true) (r_mv rfl) ?_
    refine O_gs (v := o22) rfl (r_mv rfl) ?_
    refine O_gs (v := (.sl ba b.length bc 0)) rfl (r_mv rfl) ?_
    have hsf62 : Own 1 H41 o22 (bcells b) := hM53.own
    obtain ⟨oa58, og59, rfl, hog60, hob61⟩ := hsf62.bs
    have base63 := Old.refl hO55.ok
    refine O_gcall rfl (Ev.mono (same_ev hO55.ok hog60 (hM53.own.asbs) (by first | omega | (simp only [List.length_take, List.length_drop, List.length_append, List.length_cons, List.length_nil, beN_len] <;> omega)) (by first | omega | (simp only [List.length_take, List.length_drop, List.length_append, List.length_cons, List.length_nil, beN_len] <;> omega)) (.inl rfl) (bhb.old hok hO55) (by first | omega | (simp only [List.length_take, List.length_drop, List.length_append, List.length_cons, List.length_nil, beN_len] <;> omega)) (by first | omega | (simp only [List.length_take, List.length_drop, List.length_append, List.length_cons, List.length_nil, beN_len] <;> omega))) fun v64 H65 hq66 => ?_)
    rw [show decide (b = b) = true from decide_eq_true rfl] at hq66
    obtain ⟨rfl, hq66⟩ := hq66
    subst H65
    refine O_p (.b true) (r_pick_t rfl rfl) ?_
    refine O_p (.b true) (r_mv rfl) ?_
    refine O_gs (v := (.b true)) rfl (r_mv rfl) ?_
    refine O_p (.b true) (r_pick_t rfl rfl) ?_
    refine O_p (.b true) (r_mv rfl) ?_
    refine O_gs (v := (.b (uT ppid b))) rfl (r_mv rfl) ?_
    refine O_gs (v := (.b (uT ppid b))) rfl (r_mv rfl) ?_
    refine O_gs (v := (.b true)) rfl (r_beqq rfl rfl) ?_
    refine O_p (.b true) (r_pick_t rfl rfl) ?_
    refine O_p (.b true) (r_mv rfl) ?_
    refine O_gs (v := o32) rfl (r_mv rfl) ?_
    refine O_gs (v := (.sl ra43 (uB ppid b).length rc45 rg46)) rfl (r_mv rfl) ?_
    have hsf71 : Own 1 H41 o32 (bcells (uB ppid b)) := hM54.own
    obtain ⟨oa67, og68, rfl, hog69, hob70⟩ := hsf71.bs
    have base72 := Old.refl hO55.ok
    refine O_gcall rfl (Ev.mono (same_ev hO55.ok hog69 (hM54.own.asbs) (by first | omega | (simp only [List.length_take, List.length_drop, List.length_append, List.length_cons, List.length_nil, beN_len] <;> omega)) (by first | omega | (simp only [List.length_take, List.length_drop, List.length_append, List.length_cons, List.length_nil, beN_len] <;> omega)) hrg47 (hrb48.old hO55.ok base57) (by first | omega | (simp only [List.length_take, List.length_drop, List.length_append, List.length_cons, List.length_nil, beN_len] <;> omega)) (by first | omega | (simp only [List.length_take, List.length_drop, List.length_append, List.length_cons, List.length_nil, beN_len] <;> omega))) fun v73 H74 hq75 => ?_)
    rw [show decide ((uB ppid b) = (uB ppid b)) = true from decide_eq_true rfl] at hq75
    obtain ⟨rfl, hq75⟩ := hq75
    subst H74
    refine O_p (.b true) (r_pick_t rfl rfl) ?_
    refine O_p (.b true) (r_mv rfl) ?_
    refine O_gs (v := (.b (uO ppid b))) rfl (r_mv rfl) ?_
    refine O_gs (v := (.b (uO ppid b))) rfl (r_mv rfl) ?_
    refine O_gs (v := (.b true)) rfl (r_beqq rfl rfl) ?_
    refine O_p (.b true) (r_pick_t rfl rfl) ?_
    refine O_p (.b true) (r_mv rfl) ?_
    refine O_nil ?_
    refine C_ret ?_
    exact ⟨.inr rfl, _, resL_one (r_tmp (v := .b true) rfl), rfl⟩
set_option maxRecDepth 100000 in
set_option maxHeartbeats 1000000 in
theorem run610 (H : AH) (hok : H.Ok) (htb : Tb H) (ba : Option (Nat × Nat)) (bc : Nat) (b : List UInt8) (bhb : Bs H (.sl ba b.length bc 0) b) (bhc : b.length ≤ bc) (bhm0 : bc ≤ maxLen) (ppid : Int) (he : 0 < b.length) : Ev tabV spV (.fn (.func 6) [] []) [.b true, .sl ba b.length bc 0, .i .u32 ppid] H (fun v _ => v = .b true) := by
  refine Ev_C (F := x6) rfl ?_
  have hO0 := Old.refl hok
  have bhm : bc ≤ 9223372036854775807 := bhm0
  have hul : (uB ppid b).length ≤ b.length := by unfold uB; split <;> simp
  have hu1 : uT 51 b = true ∧ uB 51 b = b ∧ uO 51 b = true := u_2 (ppid := 51) (b := b) (by omega) (by omega) he
  refine C_seq ?_
  refine C_region ?_
  refine O_p (.b false) (r_mv rfl) ?_
  refine O_nil ?_
  refine C_seq ?_
  refine C_region ?_
  refine O_call (Ev.mono (awake_ev (htb.kp hok hO0)) fun v1 H2 hq3 => ?_)
  obtain ⟨rfl, hq3⟩ := hq3
  subst H2
  refine O_p (.b true) (r_mv rfl) ?_
  refine O_nil ?_
  refine C_seq ?_
  refine C_seq ?_
  refine C_region ?_
  refine O_p (.sl ba b.length bc 0) (r_mv rfl) ?_
  refine O_p (.i .i64 (((b.length : Nat)) : Int)) (r_len rfl) ?_
  refine O_p (.b (decide (1000 < (((b.length : Nat)) : Int)))) (r_gtr rfl rfl) ?_
  refine O_nil ?_
  refine C_cond (x := (decide (1000 < (((b.length : Nat)) : Int)))) rfl (fun hc4 => ?_) (fun hc4 => ?_)
  ·
    simp only [decide_eq_true_eq, decide_eq_false_iff_not, Bool.not_eq_true', Bool.not_eq_false', Bool.and_eq_true, Bool.or_eq_true, Bool.or_eq_false_iff, Bool.not_not] at hc4
    refine C_seq ?_
    refine C_region ?_
    refine O_p (.b true) (r_mv rfl) ?_
    refine O_p (.b true) (r_mv rfl) ?_
    refine O_nil ?_
    refine C_ret ?_
    refine nx_ret ?_
    exact ⟨.inr rfl, _, resL_one (r_tmp (v := .b true) rfl), rfl⟩
  ·
    simp only [decide_eq_true_eq, decide_eq_false_iff_not, Bool.not_eq_true', Bool.not_eq_false', Bool.and_eq_true, Bool.or_eq_true, Bool.or_eq_false_iff, Bool.not_not] at hc4
    refine C_skip ?_
    refine C_seq ?_
    refine C_region ?_
    refine O_p (.b true) (r_mv rfl) ?_
    refine O_p (.sl ba b.length bc 0) (r_mv rfl) ?_
    refine O_call (Ev.mono (wrap_10 hO0.ok (.inl rfl) (bhb.old hok hO0) (by first | omega | (simp only [List.length_take, List.length_drop, List.length_append, List.length_cons, List.length_nil, beN_len] <;> omega)) (by first | omega | (simp only [List.length_take, List.length_drop, List.length_append, List.length_cons, List.length_nil, beN_len] <;> omega)) (by first | omega | (simp only [List.length_take, List.length_drop, List.length_append, List.length_cons, List.length_nil, beN_len] <;> omega)) (by omega)) fun v5 H6 hq7 => ?_)
    obtain ⟨o8, rfl, hM9, hK10⟩ := hq7
    have hx_hK10 := hK10.next
    have hO11 := hO0.trans hK10
    have hx_hO11 := hO11.next
    have hM12 := hM9.down (N := H.next) (by omega)
    refine O_p (.tup [(.i .u32 51), o8]) (r_mv rfl) ?_
    refine O_p (.i .u32 51) (r_ext rfl rfl) ?_
    refine O_p o8 (r_ext rfl rfl) ?_
    refine O_p (.i .u32 51) (r_mv rfl) ?_
    refine O_p o8 (r_mv rfl) ?_
    refine O_nil ?_
    refine C_seq ?_
    refine C_region ?_
    refine O_p (.i .u32 51) (r_mv rfl) ?_
    refine O_p o8 (r_mv rfl) ?_
    have hsf17 : Own 1 H6 o8 (bcells b) := hM12.own
    obtain ⟨oa13, og14, rfl, hog15, hob16⟩ := hsf17.bs
    have base18 := Old.refl hO11.ok
    refine O_call (Ev.mono (unwrap_ev hO11.ok 51 hog15 (hM12.own.asbs) (by first | omega | (simp only [List.length_take, List.length_drop, List.length_append, List.length_cons, List.length_nil, beN_len] <;> omega)) (by first | omega | (simp only [List.length_take, List.length_drop, List.length_append, List.length_cons, List.length_nil, beN_len] <;> omega)) (by first | omega | (simp only [List.length_take, List.length_drop, List.length_append, List.length_cons, List.length_nil, beN_len] <;> omega))) fun v19 H20 hq21 => ?_)
    rw [hu1.1, hu1.2.1, hu1.2.2] at hq21
    obtain ⟨o22, rfl, hM23, hK24⟩ := hq21
    have hx_hK24 := hK24.next
    have hM25 := hM12.kp hK24
    have hO26 := hO11.trans hK24
    have hx_hO26 := hO26.next
    have hO27 := base18.trans hK24
    have hM28 := hM23.down (N := H.next) (by omega)
    refine O_p (.tup [(.b true), o22, (.b true)]) (r_mv rfl) ?_
    refine O_p (.b true) (r_ext rfl rfl) ?_
    refine O_p o22 (r_ext rfl rfl) ?_
    refine O_p (.b true) (r_ext rfl rfl) ?_
    refine O_p (.b true) (r_mv rfl) ?_
    refine O_p o22 (r_mv rfl) ?_
    refine O_p (.b true) (r_mv rfl) ?_
    refine O_nil ?_
    refine C_seq ?_
    refine C_region ?_
    refine O_p (.i .u32 ppid) (r_mv rfl) ?_
    refine O_p (.sl ba b.length bc 0) (r_mv rfl) ?_
    refine O_call (Ev.mono (unwrap_ev hO26.ok ppid (.inl rfl) (bhb.old hok hO26) (by first | omega | (simp only [List.length_take, List.length_drop, List.length_append, List.length_cons, List.length_nil, beN_len] <;> omega)) (by first | omega | (simp only [List.length_take, List.length_drop, List.length_append, List.length_cons, List.length_nil, beN_len] <;> omega)) (by first | omega | (simp only [List.length_take, List.length_drop, List.length_append, List.length_cons, List.length_nil, beN_len] <;> omega))) fun v29 H30 hq31 => ?_)
    obtain ⟨o32, rfl, hM33, hK34⟩ := hq31
    have hx_hK34 := hK34.next
    have hM35 := hM25.kp hK34
    have hM36 := hM28.kp hK34
    have hO37 := hO26.trans hK34
    have hx_hO37 := hO37.next
    have hO38 := hO27.trans hK34
    have hM39 := hM33.down (N := H.next) (by omega)
    refine O_p (.tup [(.b (uT ppid b)), o32, (.b (uO ppid b))]) (r_mv rfl) ?_
    refine O_p (.b (uT ppid b)) (r_ext rfl rfl) ?_
    refine O_p o32 (r_ext rfl rfl) ?_
    refine O_p (.b (uO ppid b)) (r_ext rfl rfl) ?_
    refine O_p (.b (uT ppid b)) (r_mv rfl) ?_
    refine O_p o32 (r_mv rfl) ?_
    refine O_p (.b (uO ppid b)) (r_mv rfl) ?_
    refine O_nil ?_
    refine C_seq ?_
    refine C_region ?_
    refine O_p (.i .u32 ppid) (r_mv rfl) ?_
    refine O_p (.sl ba b.length bc 0) (r_mv rfl) ?_
    refine O_call (Ev.mono (runwrap_ev hO37.ok ppid (.inl rfl) (bhb.old hok hO37) (by first | omega | (simp only [List.length_take, List.length_drop, List.length_append, List.length_cons, List.length_nil, beN_len] <;> omega)) (by first | omega | (simp only [List.length_take, List.length_drop, List.length_append, List.length_cons, List.length_nil, beN_len] <;> omega)) (by first | omega | (simp only [List.length_take, List.length_drop, List.length_append, List.length_cons, List.length_nil, beN_len] <;> omega))) fun v40 H41 hq42 => ?_)
    obtain ⟨ra43, rn44, rc45, rg46, rfl, hrg47, hrb48, hrc49, hrm50, hK51⟩ := hq42
    have hl_rn44 := hrb48.length
    subst hl_rn44
    have hx_hK51 := hK51.next
    have hM52 := hM35.kp hK51
    have hM53 := hM36.kp hK51
    have hM54 := hM39.kp hK51
    have hO55 := hO37.trans hK51
    have hx_hO55 := hO55.next
    have hO56 := hO38.trans hK51
    have base57 := Old.refl hO55.ok
    refine O_p (.tup [(.b (uT ppid b)), (.sl ra43 (uB ppid b).length rc45 rg46), (.b (uO ppid b))]) (r_mv rfl) ?_
    refine O_p (.b (uT ppid b)) (r_ext rfl rfl) ?_
    refine O_p (.sl ra43 (uB ppid b).length rc45 rg46) (r_ext rfl rfl) ?_
    refine O_p (.b (uO ppid b)) (r_ext rfl rfl) ?_
    refine O_p (.b (uT ppid b)) (r_mv rfl) ?_
    refine O_p (.sl ra43 (uB ppid b).length rc45 rg46) (r_mv rfl) ?_
    refine O_p (.b (uO ppid b)) (r_mv rfl) ?_
    refine O_nil ?_
    refine C_seq ?_
    refine C_region ?_
    refine O_p (.i .u32 53) (r_mv rfl) ?_
    refine O_nil ?_
    refine C_seq ?_
    refine C_seq ?_
    refine C_region ?_
    refine O_p (.b true) (r_mv rfl) ?_
    refine O_nil ?_
    refine C_cond (x := true) rfl (fun _ => ?_) (fun h => by cases h)
    refine C_region ?_
    refine O_p (.i .u32 51) (r_mv rfl) ?_
    refine O_nil ?_
    refine C_seq ?_
    refine C_seq ?_
    refine C_region ?_
    refine O_p (.sl ba b.length bc 0) (r_mv rfl) ?_
    refine O_p (.i .i64 (((b.length : Nat)) : Int)) (r_len rfl) ?_
    refine O_p (.b false) (by exact (by rw [r_eql rfl rfl, decide_eq_false (by first | omega | assumption)])) ?_
    refine O_nil ?_
    refine C_cond (x := false) rfl (fun h => by cases h) (fun _ => ?_)
    refine C_skip ?_
    refine C_seq ?_
    refine C_region ?_
    refine O_p (.b true) (r_mv rfl) ?_
    refine O_p (.b true) (r_mv rfl) ?_
    refine O_gs (v := (.i .u32 51)) rfl (r_mv rfl) ?_
    refine O_gs (v := (.i .u32 51)) rfl (r_mv rfl) ?_
    refine O_gs (v := (.b true)) rfl (by exact (by rw [r_eql rfl rfl, decide_eq_true (by decide)])) ?_
    refine O_p (.b true) (r_pick_t rfl rfl) ?_
    refine O_p (.b true) (r_mv rfl) ?_
    refine O_gs (v := (.sl oa13 (b).length (b).length og14)) rfl (r_mv rfl) ?_
    refine O_gs (v := (.i .i64 ((((b).length : Nat)) : Int))) rfl (r_len rfl) ?_
    refine O_gs (v := (.b true)) rfl (by exact (by rw [r_gtr rfl rfl, decide_eq_true (by first | omega | assumption)])) ?_
    refine O_p (.b true) (r_pick_t rfl rfl) ?_
    refine O_p (.b true) (r_mv rfl) ?_
    refine O_gs (v := (.b true)) rfl (r_mv rfl) ?_
    refine O_gs (v := (.b true)) rfl (r_mv rfl) ?_
    refine O_gs (v := (.b true)) rfl (r_beqq rfl rfl) ?_
    refine O_p (.b true) (r_pick_t rfl rfl) ?_
    refine O_p (.b true) (r_mv rfl) ?_
    refine O_gs (v := o22) rfl (r_mv rfl) ?_
    refine O_gs (v := (.sl ba b.length bc 0)) rfl (r_mv rfl) ?_
    have hsf62 : Own 1 H41 o22 (bcells b) := hM53.own
    obtain ⟨oa58, og59, rfl, hog60, hob61⟩ := hsf62.bs
    have base63 := Old.refl hO55.ok
    refine O_gcall rfl (Ev.mono (same_ev hO55.ok hog60 (hM53.own.asbs) (by first | omega | (simp only [List.length_take, List.length_drop, List.length_append, List.length_cons, List.length_nil, beN_len] <;> omega)) (by first | omega | (simp only [List.length_take, List.length_drop, List.length_append, List.length_cons, List.length_nil, beN_len] <;> omega)) (.inl rfl) (bhb.old hok hO55) (by first | omega | (simp only [List.length_take, List.length_drop, List.length_append, List.length_cons, List.length_nil, beN_len] <;> omega)) (by first | omega | (simp only [List.length_take, List.length_drop, List.length_append, List.length_cons, List.length_nil, beN_len] <;> omega))) fun v64 H65 hq66 => ?_)
    rw [show decide (b = b) = true from decide_eq_true rfl] at hq66
    obtain ⟨rfl, hq66⟩ := hq66
    subst H65
    refine O_p (.b true) (r_pick_t rfl rfl) ?_
    refine O_p (.b true) (r_mv rfl) ?_
    refine O_gs (v := (.b true)) rfl (r_mv rfl) ?_
    refine O_p (.b true) (r_pick_t rfl rfl) ?_
    refine O_p (.b true) (r_mv rfl) ?_
    refine O_gs (v := (.b (uT ppid b))) rfl (r_mv rfl) ?_
    refine O_gs (v := (.b (uT ppid b))) rfl (r_mv rfl) ?_
    refine O_gs (v := (.b true)) rfl (r_beqq rfl rfl) ?_
    refine O_p (.b true) (r_pick_t rfl rfl) ?_
    refine O_p (.b true) (r_mv rfl) ?_
    refine O_gs (v := o32) rfl (r_mv rfl) ?_
    refine O_gs (v := (.sl ra43 (uB ppid b).length rc45 rg46)) rfl (r_mv rfl) ?_
    have hsf71 : Own 1 H41 o32 (bcells (uB ppid b)) := hM54.own
    obtain ⟨oa67, og68, rfl, hog69, hob70⟩ := hsf71.bs
    have base72 := Old.refl hO55.ok
    refine O_gcall rfl (Ev.mono (same_ev hO55.ok hog69 (hM54.own.asbs) (by first | omega | (simp only [List.length_take, List.length_drop, List.length_append, List.length_cons, List.length_nil, beN_len] <;> omega)) (by first | omega | (simp only [List.length_take, List.length_drop, List.length_append, List.length_cons, List.length_nil, beN_len] <;> omega)) hrg47 (hrb48.old hO55.ok base57) (by first | omega | (simp only [List.length_take, List.length_drop, List.length_append, List.length_cons, List.length_nil, beN_len] <;> omega)) (by first | omega | (simp only [List.length_take, List.length_drop, List.length_append, List.length_cons, List.length_nil, beN_len] <;> omega))) fun v73 H74 hq75 => ?_)
    rw [show decide ((uB ppid b) = (uB ppid b)) = true from decide_eq_true rfl] at hq75
    obtain ⟨rfl, hq75⟩ := hq75
    subst H74
    refine O_p (.b true) (r_pick_t rfl rfl) ?_
    refine O_p (.b true) (r_mv rfl) ?_
    refine O_gs (v := (.b (uO ppid b))) rfl (r_mv rfl) ?_
    refine O_gs (v := (.b (uO ppid b))) rfl (r_mv rfl) ?_
    refine O_gs (v := (.b true)) rfl (r_beqq rfl rfl) ?_
    refine O_p (.b true) (r_pick_t rfl rfl) ?_
    refine O_p (.b true) (r_mv rfl) ?_
    refine O_nil ?_
    refine C_ret ?_
    exact ⟨.inr rfl, _, resL_one (r_tmp (v := .b true) rfl), rfl⟩
set_option maxRecDepth 100000 in
set_option maxHeartbeats 1000000 in
theorem run611 (H : AH) (hok : H.Ok) (htb : Tb H) (ba : Option (Nat × Nat)) (bc : Nat) (b : List UInt8) (bhb : Bs H (.sl ba b.length bc 0) b) (bhc : b.length ≤ bc) (bhm0 : bc ≤ maxLen) (ppid : Int) (he : b.length = 0) : Ev tabV spV (.fn (.func 6) [] []) [.b true, .sl ba b.length bc 0, .i .u32 ppid] H (fun v _ => v = .b true) := by
  refine Ev_C (F := x6) rfl ?_
  have hO0 := Old.refl hok
  have bhm : bc ≤ 9223372036854775807 := bhm0
  have hul : (uB ppid b).length ≤ b.length := by unfold uB; split <;> simp
  have hb0 : b = [] := List.eq_nil_of_length_eq_zero he
  have hu1 := u_1 (ppid := 56) (b := [0]) (by omega)
  have hu1 : uT 56 [0] = true ∧ uB 56 [0] = b ∧ uO 56 [0] = true := ⟨hu1.1, by rw [hb0]; exact hu1.2.1, hu1.2.2⟩
  refine C_seq ?_
  refine C_region ?_
  refine O_p (.b false) (r_mv rfl) ?_
  refine O_nil ?_
  refine C_seq ?_
  refine C_region ?_
  refine O_call (Ev.mono (awake_ev (htb.kp hok hO0)) fun v1 H2 hq3 => ?_)
  obtain ⟨rfl, hq3⟩ := hq3
  subst H2
  refine O_p (.b true) (r_mv rfl) ?_
  refine O_nil ?_
  refine C_seq ?_
  refine C_seq ?_
  refine C_region ?_
  refine O_p (.sl ba b.length bc 0) (r_mv rfl) ?_
  refine O_p (.i .i64 (((b.length : Nat)) : Int)) (r_len rfl) ?_
  refine O_p (.b (decide (1000 < (((b.length : Nat)) : Int)))) (r_gtr rfl rfl) ?_
  refine O_nil ?_
  refine C_cond (x := (decide (1000 < (((b.length : Nat)) : Int)))) rfl (fun hc4 => ?_) (fun hc4 => ?_)
  ·
    simp only [decide_eq_true_eq, decide_eq_false_iff_not, Bool.not_eq_true', Bool.not_eq_false', Bool.and_eq_true, Bool.or_eq_true, Bool.or_eq_false_iff, Bool.not_not] at hc4
    refine C_seq ?_
    refine C_region ?_
    refine O_p (.b true) (r_mv rfl) ?_
    refine O_p (.b true) (r_mv rfl) ?_
    refine O_nil ?_
    refine C_ret ?_
    refine nx_ret ?_
    exact ⟨.inr rfl, _, resL_one (r_tmp (v := .b true) rfl), rfl⟩
  ·
    simp only [decide_eq_true_eq, decide_eq_false_iff_not, Bool.not_eq_true', Bool.not_eq_false', Bool.and_eq_true, Bool.or_eq_true, Bool.or_eq_false_iff, Bool.not_not] at hc4
    refine C_skip ?_
    refine C_seq ?_
    refine C_region ?_
    refine O_p (.b true) (r_mv rfl) ?_
    refine O_p (.sl ba b.length bc 0) (r_mv rfl) ?_
    refine O_call (Ev.mono (wrap_11 hO0.ok (.inl rfl) (bhb.old hok hO0) (by first | omega | (simp only [List.length_take, List.length_drop, List.length_append, List.length_cons, List.length_nil, beN_len] <;> omega)) (by first | omega | (simp only [List.length_take, List.length_drop, List.length_append, List.length_cons, List.length_nil, beN_len] <;> omega)) (by first | omega | (simp only [List.length_take, List.length_drop, List.length_append, List.length_cons, List.length_nil, beN_len] <;> omega)) (by omega)) fun v5 H6 hq7 => ?_)
    obtain ⟨o8, rfl, hM9, hK10⟩ := hq7
    have hx_hK10 := hK10.next
    have hO11 := hO0.trans hK10
    have hx_hO11 := hO11.next
    have hM12 := hM9.down (N := H.next) (by omega)
    refine O_p (.tup [(.i .u32 56), o8]) (r_mv rfl) ?_
    refine O_p (.i .u32 56) (r_ext rfl rfl) ?_
    refine O_p o8 (r_ext rfl rfl) ?_
    refine O_p (.i .u32 56) (r_mv rfl) ?_
    refine O_p o8 (r_mv rfl) ?_
    refine O_nil ?_
    refine C_seq ?_
    refine C_region ?_
    refine O_p (.i .u32 56) (r_mv rfl) ?_
    refine O_p o8 (r_mv rfl) ?_
    have hsf17 : Own 1 H6 o8 (bcells ([0] : List UInt8)) := hM12.own
    obtain ⟨oa13, og14, rfl, hog15, hob16⟩ := hsf17.bs
    have base18 := Old.refl hO11.ok
    refine O_call (Ev.mono (unwrap_ev hO11.ok 56 hog15 (hM12.own.asbs) (by first | omega | (simp only [List.length_take, List.length_drop, List.length_append, List.length_cons, List.length_nil, beN_len] <;> omega)) (by first | omega | (simp only [List.length_take, List.length_drop, List.length_append, List.length_cons, List.length_nil, beN_len] <;> omega)) (by first | omega | (simp only [List.length_take, List.length_drop, List.length_append, List.length_cons, List.length_nil, beN_len] <;> omega))) fun v19 H20 hq21 => ?_)
    rw [hu1.1, hu1.2.1, hu1.2.2] at hq21
    obtain ⟨o22, rfl, hM23, hK24⟩ := hq21
    have hx_hK24 := hK24.next
    have hM25 := hM12.kp hK24
    have hO26 := hO11.trans hK24
    have hx_hO26 := hO26.next
    have hO27 := base18.trans hK24
    have hM28 := hM23.down (N := H.next) (by omega)
    refine O_p (.tup [(.b true), o22, (.b true)]) (r_mv rfl) ?_
    refine O_p (.b true) (r_ext rfl rfl) ?_
    refine O_p o22 (r_ext rfl rfl) ?_
    refine O_p (.b true) (r_ext rfl rfl) ?_
    refine O_p (.b true) (r_mv rfl) ?_
    refine O_p o22 (r_mv rfl) ?_
    refine O_p (.b true) (r_mv rfl) ?_
    refine O_nil ?_
    refine C_seq ?_
    refine C_region ?_
    refine O_p (.i .u32 ppid) (r_mv rfl) ?_
    refine O_p (.sl ba b.length bc 0) (r_mv rfl) ?_
    refine O_call (Ev.mono (unwrap_ev hO26.ok ppid (.inl rfl) (bhb.old hok hO26) (by first | omega | (simp only [List.length_take, List.length_drop, List.length_append, List.length_cons, List.length_nil, beN_len] <;> omega)) (by first | omega | (simp only [List.length_take, List.length_drop, List.length_append, List.length_cons, List.length_nil, beN_len] <;> omega)) (by first | omega | (simp only [List.length_take, List.length_drop, List.length_append, List.length_cons, List.length_nil, beN_len] <;> omega))) fun v29 H30 hq31 => ?_)
    obtain ⟨o32, rfl, hM33, hK34⟩ := hq31
    have hx_hK34 := hK34.next
    have hM35 := hM25.kp hK34
    have hM36 := hM28.kp hK34
    have hO37 := hO26.trans hK34
    have hx_hO37 := hO37.next
    have hO38 := hO27.trans hK34
    have hM39 := hM33.down (N := H.next) (by omega)
    refine O_p (.tup [(.b (uT ppid b)), o32, (.b (uO ppid b))]) (r_mv rfl) ?_
    refine O_p (.b (uT ppid b)) (r_ext rfl rfl) ?_
    refine O_p o32 (r_ext rfl rfl) ?_
    refine O_p (.b (uO ppid b)) (r_ext rfl rfl) ?_
    refine O_p (.b (uT ppid b)) (r_mv rfl) ?_
    refine O_p o32 (r_mv rfl) ?_
    refine O_p (.b (uO ppid b)) (r_mv rfl) ?_
    refine O_nil ?_
    refine C_seq ?_
    refine C_region ?_
    refine O_p (.i .u32 ppid) (r_mv rfl) ?_
    refine O_p (.sl ba b.length bc 0) (r_mv rfl) ?_
    refine O_call (Ev.mono (runwrap_ev hO37.ok ppid (.inl rfl) (bhb.old hok hO37) (by first | omega | (simp only [List.length_take, List.length_drop, List.length_append, List.length_cons, List.length_nil, beN_len] <;> omega)) (by first | omega | (simp only [List.length_take, List.length_drop, List.length_append, List.length_cons, List.length_nil, beN_len] <;> omega)) (by first | omega | (simp only [List.length_take, List.length_drop, List.length_append, List.length_cons, List.length_nil, beN_len] <;> omega))) fun v40 H41 hq42 => ?_)
    obtain ⟨ra43, rn44, rc45, rg46, rfl, hrg47, hrb48, hrc49, hrm50, hK51⟩ := hq42
    have hl_rn44 := hrb48.length
    subst hl_rn44
    have hx_hK51 := hK51.next
    have hM52 := hM35.kp hK51
    have hM53 := hM36.kp hK51
    have hM54 := hM39.kp hK51
    have hO55 := hO37.trans hK51
    have hx_hO55 := hO55.next
    have hO56 := hO38.trans hK51
    have base57 := Old.refl hO55.ok
    refine O_p (.tup [(.b (uT ppid b)), (.sl ra43 (uB ppid b).length rc45 rg46), (.b (uO ppid b))]) (r_mv rfl) ?_
    refine O_p (.b (uT ppid b)) (r_ext rfl rfl) ?_
    refine O_p (.sl ra43 (uB ppid b).length rc45 rg46) (r_ext rfl rfl) ?_
    refine O_p (.b (uO ppid b)) (r_ext rfl rfl) ?_
    refine O_p (.b (uT ppid b)) (r_mv rfl) ?_
    refine O_p (.sl ra43 (uB ppid b).length rc45 rg46) (r_mv rfl) ?_
    refine O_p (.b (uO ppid b)) (r_mv rfl) ?_
    refine O_nil ?_
    refine C_seq ?_
    refine C_region ?_
    refine O_p (.i .u32 53) (r_mv rfl) ?_
    refine O_nil ?_
    refine C_seq ?_
    refine C_seq ?_
    refine C_region ?_
    refine O_p (.b true) (r_mv rfl) ?_
    refine O_nil ?_
    refine C_cond (x := true) rfl (fun _ => ?_) (fun h => by cases h)
    refine C_region ?_
    refine O_p (.i .u32 51) (r_mv rfl) ?_
    refine O_nil ?_
    refine C_seq ?_
    refine C_seq ?_
    refine C_region ?_
    refine O_p (.sl ba b.length bc 0) (r_mv rfl) ?_
    refine O_p (.i .i64 (((b.length : Nat)) : Int)) (r_len rfl) ?_
    refine O_p (.b true) (by exact (by rw [r_eql rfl rfl, decide_eq_true (by first | omega | assumption)])) ?_
    refine O_nil ?_
    refine C_cond (x := true) rfl (fun _ => ?_) (fun h => by cases h)
    refine C_seq ?_
    refine C_region ?_
    refine O_p (.i .u32 51) (r_mv rfl) ?_
    refine O_p (.i .u32 (IntKind.u32.wrap (51 + 4))) (r_bin rfl rfl rfl) ?_
    refine O_p (.i .u32 (IntKind.u32.wrap (51 + 4))) (r_mv rfl) ?_
    refine O_nil ?_
    refine C_seq ?_
    refine C_region ?_
    refine O_p (.b true) (r_mv rfl) ?_
    refine O_nil ?_
    refine C_cond (x := true) rfl (fun _ => ?_) (fun h => by cases h)
    refine C_region ?_
    refine O_p (.i .u32 56) (r_mv rfl) ?_
    refine O_nil ?_
    refine C_seq ?_
    refine C_region ?_
    refine O_p (.b true) (r_mv rfl) ?_
    refine O_p (.b true) (r_mv rfl) ?_
    refine O_gs (v := (.i .u32 56)) rfl (r_mv rfl) ?_
    refine O_gs (v := (.i .u32 56)) rfl (r_mv rfl) ?_
    refine O_gs (v := (.b true)) rfl (by exact (by rw [r_eql rfl rfl, decide_eq_true (by decide)])) ?_
    refine O_p (.b true) (r_pick_t rfl rfl) ?_
    refine O_p (.b true) (r_mv rfl) ?_
    refine O_gs (v := (.sl oa13 (([0] : List UInt8)).length (([0] : List UInt8)).length og14)) rfl (r_mv rfl) ?_
    refine O_gs (v := (.i .i64 ((((([0] : List UInt8)).length : Nat)) : Int))) rfl (r_len rfl) ?_
    refine O_gs (v := (.b true)) rfl (by exact (by rw [r_gtr rfl rfl, decide_eq_true (by decide)])) ?_
    refine O_p (.b true) (r_pick_t rfl rfl) ?_
    refine O_p (.b true) (r_mv rfl) ?_
    refine O_gs (v := (.b true)) rfl (r_mv rfl) ?_
    refine O_gs (v := (.b true)) rfl (r_mv rfl) ?_
    refine O_gs (v := (.b true)) rfl (r_beqq rfl rfl) ?_
    refine O_p (.b true) (r_pick_t rfl rfl) ?_
    refine O_p (.b true) (r_mv rfl) ?_
    refine O_gs (v := o22) rfl (r_mv rfl) ?_
    refine O_gs (v := (.sl ba b.length bc 0)) rfl (r_mv rfl) ?_
    have hsf62 : Own 1 H41 o22 (bcells b) := hM53.own
    obtain ⟨oa58, og59, rfl, hog60, hob61⟩ := hsf62.bs
    have base63 := Old.refl hO55.ok
    refine O_gcall rfl (Ev.mono (same_ev hO55.ok hog60 (hM53.own.asbs) (by first | omega | (simp only [List.length_take, List.length_drop, List.length_append, List.length_cons, List.length_nil, beN_len] <;> omega)) (by first | omega | (simp only [List.length_take, List.length_drop, List.length_append, List.length_cons, List.length_nil, beN_len] <;> omega)) (.inl rfl) (bhb.old hok hO55) (by first | omega | (simp only [List.length_take, List.length_drop, List.length_append, List.length_cons, List.length_nil, beN_len] <;> omega)) (by first | omega | (simp only [List.length_take, List.length_drop, List.length_append, List.length_cons, List.length_nil, beN_len] <;> omega))) fun v64 H65 hq66 => ?_)
    rw [show decide (b = b) = true from decide_eq_true rfl] at hq66
    obtain ⟨rfl, hq66⟩ := hq66
    subst H65
    refine O_p (.b true) (r_pick_t rfl rfl) ?_
    refine O_p (.b true) (r_mv rfl) ?_
    refine O_gs (v := (.b true)) rfl (r_mv rfl) ?_
    refine O_p (.b true) (r_pick_t rfl rfl) ?_
    refine O_p (.b true) (r_mv rfl) ?_
    refine O_gs (v := (.b (uT ppid b))) rfl (r_mv rfl) ?_
    refine O_gs (v := (.b (uT ppid b))) rfl (r_mv rfl) ?_
    refine O_gs (v := (.b true)) rfl (r_beqq rfl rfl) ?_
    refine O_p (.b true) (r_pick_t rfl rfl) ?_
    refine O_p (.b true) (r_mv rfl) ?_
    refine O_gs (v := o32) rfl (r_mv rfl) ?_
    refine O_gs (v := (.sl ra43 (uB ppid b).length rc45 rg46)) rfl (r_mv rfl) ?_
    have hsf71 : Own 1 H41 o32 (bcells (uB ppid b)) := hM54.own
    obtain ⟨oa67, og68, rfl, hog69, hob70⟩ := hsf71.bs
    have base72 := Old.refl hO55.ok
    refine O_gcall rfl (Ev.mono (same_ev hO55.ok hog69 (hM54.own.asbs) (by first | omega | (simp only [List.length_take, List.length_drop, List.length_append, List.length_cons, List.length_nil, beN_len] <;> omega)) (by first | omega | (simp only [List.length_take, List.length_drop, List.length_append, List.length_cons, List.length_nil, beN_len] <;> omega)) hrg47 (hrb48.old hO55.ok base57) (by first | omega | (simp only [List.length_take, List.length_drop, List.length_append, List.length_cons, List.length_nil, beN_len] <;> omega)) (by first | omega | (simp only [List.length_take, List.length_drop, List.length_append, List.length_cons, List.length_nil, beN_len] <;> omega))) fun v73 H74 hq75 => ?_)
    rw [show decide ((uB ppid b) = (uB ppid b)) = true from decide_eq_true rfl] at hq75
    obtain ⟨rfl, hq75⟩ := hq75
    subst H74
    refine O_p (.b true) (r_pick_t rfl rfl) ?_
    refine O_p (.b true) (r_mv rfl) ?_
    refine O_gs (v := (.b (uO ppid b))) rfl (r_mv rfl) ?_
    refine O_gs (v := (.b (uO ppid b))) rfl (r_mv rfl) ?_
    refine O_gs (v := (.b true)) rfl (r_beqq rfl rfl) ?_
    refine O_p (.b true) (r_pick_t rfl rfl) ?_
    refine O_p (.b true) (r_mv rfl) ?_
    refine O_nil ?_
    refine C_ret ?_
    exact ⟨.inr rfl, _, resL_one (r_tmp (v := .b true) rfl), rfl⟩
theorem run6 (H : AH) (hok : H.Ok) (htb : Tb H) (ba : Option (Nat × Nat)) (bc : Nat) (b : List UInt8) (bhb : Bs H (.sl ba b.length bc 0) b) (bhc : b.length ≤ bc) (bhm0 : bc ≤ maxLen) (t : Bool) (ppid : Int) : Ev tabV spV (.fn (.func 6) [] []) [.b t, .sl ba b.length bc 0, .i .u32 ppid] H (fun v _ => v = .b true) := by
  by_cases he : b.length = 0
  · cases t
    · exact run601 H hok htb ba bc b bhb bhc bhm0 ppid he
    · exact run611 H hok htb ba bc b bhb bhc bhm0 ppid he
  · cases t
    · exact run600 H hok htb ba bc b bhb bhc bhm0 ppid (by omega)
    · exact run610 H hok htb ba bc b bhb bhc bhm0 ppid (by omega)
set_option maxRecDepth 100000 in
theorem law6 (W : World) (ρ : Rho) (H : AH) (xs : List AV) (args : Array Value) (hR : Rel Tryd.prog W.heap.size W ρ H W) (hro : RO H) (hT : ∀ n b, tabs0.get n = some b → H.get n = some b) (hv : VRL ρ xs args.toList) (ht : TypedVs Tryd.prog H 9 Tryd.f6.params.toList xs) :
    Calls Tryd.prog 6 args W fun e w' => e = .returned (.bool true) ∧ Below W.heap.size W w' := by
  rw [Tryd.params6] at ht
  obtain ⟨a0, xs, rfl, g0, a1, xs, rfl, g1, a2, xs, rfl, g2, rfl⟩ := ht
  obtain ⟨t, rfl⟩ := typedV_bool Tryd.underlying4 g0
  obtain ⟨ba, bn, bc, b, rfl, bhb, rfl, bhc, bhm⟩ := typed_bytes Tryd.underlying27 Tryd.underlying5 (by kernel_rfl) (typedV_slice Tryd.underlying27 g1)
  obtain ⟨ppid, rfl, _⟩ := typedV_int Tryd.underlying23 g2
  obtain ⟨k, v, H', hex, rfl⟩ := run6 H hR.aok (Tb.of hT) ba bc b bhb bhc bhm t ppid
  exact law_of mixed tabV_ok spV_ok hex hR hv
end Go.Proofs.YtfhbdddjclodhaaDoor.E
namespace Go.Proofs.YtfhbdddjclodhaaDoor.dcepWraps
open Go.ChangeShapes Go.WideShapes Go.RowKit Go.ChangeAt
set_option linter.unusedVariables false
theorem types : (Tryd.f6.params.toList.all fun t => E.fit Tryd.prog 9 t && (Tryd.prog.readableRec t && decide (t < Tryd.prog.types.size))) = true := by kernel_rfl
set_option maxRecDepth 100000 in
theorem lifted (os : Os) (started : os.Started) (H : Type) (enc : TypeId × Value → H) :
    ReturnsInHanded {} Tryd.checked os 6 .any (fun w args => (Rows.dcepWrapsSpec.pre enc Tryd.prog Tryd.f6 Rows.dcepWrapsRow.domain false w args ∧ laidMetH Tryd.prog E.laid18 w) ∧ sizedMet enc Tryd.prog Tryd.f6 (OpenSpec.ofChange Rows.dcepWrapsSpec) false w args) (Rows.dcepWrapsSpec.post enc Tryd.prog Tryd.f6 false true false false) :=
  E.law_liftedG (C := Tryd.checked) (k := 9) (tb := 4) (X := fun w => laidMetH Tryd.prog E.laid18 w) E.laid (fun _ _ hh h => h.of_heap hh) (fun W h => E.Rel.tabs E.globals2 (E.tabs18 h)) E.tabs0_ro E.own18 started (by kernel_rfl) Tryd.func6
    (ChangeSpec.witness_shaped (enc := enc) (C := Tryd.checked) (os := os) (X := fun w _ => laidMetH Tryd.prog E.laid18 w) false (World.laidAll Tryd.prog os E.laid18) #[.bool false, .slice none 0 0, .int .u32 0] 8 (World.laidAll_os _ _ _)
      (World.shaped_of_ZipB (by kernel_rfl) (by kernel_rfl)) (by kernel_rfl) (by kernel_rfl) (by kernel_rfl)
      (by rw [MakeChecks.laidMetH_plain _ _ _ (by kernel_rfl)]; exact laidMet_laidAll _ (by kernel_rfl) (by kernel_rfl)))
    rfl rfl Tryd.underlying4 (fun t ht => by have h := List.all_eq_true.1 types t ht; simp only [Bool.and_eq_true, decide_eq_true_eq] at h; exact h)
    (fun ds hd => by
      rw [Tryd.params6] at hd
      match ds, hd with
      | [d0, d1, d2], _ => rfl) E.law6
theorem over : Rows.dcepWrapsRow.holds Tryd.pinned (OpenSpec.ofChange Rows.dcepWrapsSpec) :=
  OpenClaim.holds_of_wide 6 Tryd.f6 rfl rfl rfl rfl rfl rfl rfl ⟨rfl, rfl, rfl, rfl, rfl⟩ rfl rfl rfl rfl rfl (by kernel_rfl) Tryd.func6 (by kernel_rfl)
    (of_decide_eq_true (by kernel_rfl)) (by unfold Func.isWrapper; first | (rw [if_pos (by decide +kernel)]; kernel_rfl) | (rw [if_neg (by decide +kernel)]; exact ⟨rfl, rfl⟩))
    (fun os started H enc _ => lifted os started H enc)
theorem card : Claim7.holds Tryd.pinned (.plain (OpenSpec.ofChange Rows.dcepWrapsSpec)) Rows.dcepWrapsCard :=
  Claim7.holds_tied_plain_at .later [] [.data, .pinned] true (true, "840fe89f1718999666760e2798cb68f93cfa0fb72f9e95c902c9bbcf5ac830c4") false over (fun _ h => by cases h) (by kernel_rfl) (fun _ h => by cases h) dcepWraps_row_tie rfl ⟨rfl, rfl⟩ (by kernel_rfl) rfl
    (fun f fn hf hfn => by
      obtain rfl : f = 6 := Option.some.inj ((show Tryd.prog.funcNamed "bollard/bollardlaw18.DcepWraps" = some 6 by kernel_rfl).symm.trans hf) |>.symm
      obtain rfl : fn = Tryd.f6 := (Option.some.inj (Tryd.func6.symm.trans hfn)).symm
      exact ⟨by kernel_rfl, fun j t ht => by
        rw [Tryd.params6] at ht
        have hm : t ∈ [4, 27, 23] := by simpa using Array.mem_of_getElem? ht
        have hall : ([4, 27, 23].all fun u => !Tryd.prog.wantsStandIn u) = true := by kernel_rfl
        exact (show Tryd.prog.wantsStandIn t = false by simpa using List.all_eq_true.1 hall t hm)⟩)
    (by kernel_rfl)
end Go.Proofs.YtfhbdddjclodhaaDoor.dcepWraps
namespace Go.Proofs.YtfhbdddjclodhaaDoor
/-- The card, under a short name, for the claim. -/
theorem dcepWraps_holds : Rows.DcepWrapsCardSaid := dcepWraps.card
#print axioms dcepWraps_holds
end Go.Proofs.YtfhbdddjclodhaaDoor
