/- CookieDecodes, for every input, without conditions. -/
import Derived.Test.YteapgimihapefaaR
import Derived.Test.YteapgimihapefaaRows
import Derived.ProofKit
import Derived.OpenShut
namespace Go.Proofs.Yteapgimihapefaa.E
open Go.RowKit (Below)
set_option linter.unusedVariables false
set_option linter.unusedSimpArgs false
set_option maxRecDepth 100000 in
theorem rchk_ev {H : AH} (hok : H.Ok) {ka : Option (Nat × Nat)} {kn kc kg : Nat} (khg : kg = 0 ∨ kg = 1) {key : List UInt8} (khb : Bs H (.sl ka kn kc kg) key) (khc : kn ≤ kc) (khm : kc ≤ 9223372036854775807) {ba : Option (Nat × Nat)} {bn bc bg : Nat} (bhg : bg = 0 ∨ bg = 1) {b : List UInt8} (bhb : Bs H (.sl ba bn bc bg) b) (bhc : bn ≤ bc) (bhm : bc ≤ 9223372036854775807) (now : Int) : Ev tabA spA (.fn (.func 17) [] []) [.sl ka kn kc kg, .sl ba bn bc bg, .i .i64 now] H (fun r H' => r = .tup [.agg [.i .i64 (kSt key b now 0), .i .i64 (kSt key b now 1), .i .i64 (kSt key b now 2), .i .i64 (kSt key b now 3), .i .i64 (kSt key b now 4), .i .i64 (kSt key b now 5), .i .i64 (kSt key b now 6), .i .i64 (kSt key b now 9), .i .i64 (kSt key b now 10), .i .i64 (kSt key b now 7), .i .i64 (kSt key b now 8)], .i .i64 (kErr key b now)] ∧ Kp H H') := by
  have khl := khb.length
  subst khl
  refine Ev_C (F := x17) rfl ?_
  have bhl := bhb.length
  subst bhl
  have hO0 := Old.refl hok
  obtain ⟨⟨ht0, ht1⟩, ht2, ht3⟩ := cSt_times key b
  refine C_seq ?_
  refine C_region ?_
  refine O_alloc fun n1 H2 hN3 => ?_
  have hF4 := hN3.fr (fun _ => False)
  have hO5 := hO0.new hN3
  have hx_hO5 := hO5.next
  have hnm_n1 : n1 = H.next := hN3.1
  have hnx_H2 : H2.next = H.next + 1 := hN3.2.1
  have hlt_n1 : n1 < H2.next := by omega
  refine O_p (.i .i64 0) (r_mv rfl) ?_
  refine O_nil ?_
  refine C_seq ?_
  refine C_region ?_
  refine O_p (.sl ka key.length kc kg) (r_mv rfl) ?_
  refine O_p (.sl ba b.length bc bg) (r_mv rfl) ?_
  refine O_call (Ev.mono (rdec_ev hO5.ok khg (khb.old hok hO5) (by first | omega | (simp only [List.length_take, List.length_drop, List.length_append, List.length_cons, List.length_nil, beN_len] <;> omega)) (by first | omega | (simp only [List.length_take, List.length_drop, List.length_append, List.length_cons, List.length_nil, beN_len] <;> omega)) bhg (bhb.old hok hO5) (by first | omega | (simp only [List.length_take, List.length_drop, List.length_append, List.length_cons, List.length_nil, beN_len] <;> omega)) (by first | omega | (simp only [List.length_take, List.length_drop, List.length_append, List.length_cons, List.length_nil, beN_len] <;> omega))) fun v6 H7 hq8 => ?_)
  obtain ⟨rfl, hK9⟩ := hq8
  have hb10 := (hK9.keep _ (by omega)).trans hN3.2.2.1
  have hx_hK9 := hK9.next
  have hlt_n1 : n1 < H7.next := by omega
  have hO11 := hO5.trans hK9
  have hx_hO11 := hO11.next
  refine O_p (.tup [(.agg [(.i .i64 (cSt key b 0)), (.i .i64 (cSt key b 1)), (.i .i64 (cSt key b 2)), (.i .i64 (cSt key b 3)), (.i .i64 (cSt key b 4)), (.i .i64 (cSt key b 5)), (.i .i64 (cSt key b 6)), (.i .i64 (cSt key b 9)), (.i .i64 (cSt key b 10)), (.i .i64 (cSt key b 7)), (.i .i64 (cSt key b 8))]), (.i .i64 (cErr key b))]) (r_mv rfl) ?_
  refine O_p (.agg [(.i .i64 (cSt key b 0)), (.i .i64 (cSt key b 1)), (.i .i64 (cSt key b 2)), (.i .i64 (cSt key b 3)), (.i .i64 (cSt key b 4)), (.i .i64 (cSt key b 5)), (.i .i64 (cSt key b 6)), (.i .i64 (cSt key b 9)), (.i .i64 (cSt key b 10)), (.i .i64 (cSt key b 7)), (.i .i64 (cSt key b 8))]) (r_ext rfl rfl) ?_
  refine O_p (.i .i64 (cErr key b)) (r_ext rfl rfl) ?_
  refine O_alloc fun n12 H13 hN14 => ?_
  have hF15 := hN14.fr (fun _ => False)
  have hb16 := (hF15.keep _ (by exact hlt_n1) (fun h => h)).trans hb10
  have hO17 := hO11.new hN14
  have hx_hO17 := hO17.next
  have hnm_n12 : n12 = H7.next := hN14.1
  have hnx_H13 : H13.next = H7.next + 1 := hN14.2.1
  have hlt_n1 : n1 < H13.next := by omega
  have hlt_n12 : n12 < H13.next := by omega
  refine O_store (vs := [(.i .i64 (cSt key b 0)), (.i .i64 (cSt key b 1)), (.i .i64 (cSt key b 2)), (.i .i64 (cSt key b 3)), (.i .i64 (cSt key b 4)), (.i .i64 (cSt key b 5)), (.i .i64 (cSt key b 6)), (.i .i64 (cSt key b 9)), (.i .i64 (cSt key b 10)), (.i .i64 (cSt key b 7)), (.i .i64 (cSt key b 8))]) (c' := [(.i .i64 (cSt key b 0)), (.i .i64 (cSt key b 1)), (.i .i64 (cSt key b 2)), (.i .i64 (cSt key b 3)), (.i .i64 (cSt key b 4)), (.i .i64 (cSt key b 5)), (.i .i64 (cSt key b 6)), (.i .i64 (cSt key b 9)), (.i .i64 (cSt key b 10)), (.i .i64 (cSt key b 7)), (.i .i64 (cSt key b 8))]) rfl (by rfl) hN14.2.2.1 rfl (List.cons_ne_nil _ _) (Nat.le_of_ble_eq_true rfl) rfl fun H18 hW19 => ?_
  have hb20 := (hW19.2.2 _ (by omega)).trans hb16
  have hO21 := hO17.wr hW19 (by omega) (by omega)
  have hx_hO21 := hO21.next
  have hnx_H18 : H18.next = H13.next := hW19.1
  have hlt_n1 : n1 < H18.next := by omega
  have hlt_n12 : n12 < H18.next := by omega
  refine O_p (.i .i64 (cErr key b)) (r_mv rfl) ?_
  refine O_nil ?_
  refine C_seq ?_
  refine C_seq ?_
  refine C_region ?_
  refine O_p (.i .i64 (cErr key b)) (r_mv rfl) ?_
  refine O_p (.b (!decide ((cErr key b) = 0))) (r_neq rfl rfl) ?_
  refine O_nil ?_
  refine C_cond (x := (!decide ((cErr key b) = 0))) rfl (fun hc22 => ?_) (fun hc22 => ?_)
  ·
    simp only [decide_eq_true_eq, decide_eq_false_iff_not, Bool.not_eq_true', Bool.not_eq_false', Bool.and_eq_true, Bool.or_eq_true, Bool.or_eq_false_iff, Bool.not_not] at hc22
    have hce : ¬ cErr key b = 0 := hc22
    refine C_seq ?_
    refine C_region ?_
    refine O_p (.agg [(.i .i64 0), (.i .i64 0), (.i .i64 0), (.i .i64 0), (.i .i64 0), (.i .i64 0), (.i .i64 0), (.i .i64 0), (.i .i64 0), (.i .i64 0), (.i .i64 0)]) (r_build rfl) ?_
    refine O_p (.i .i64 (cErr key b)) (r_mv rfl) ?_
    refine O_store (vs := [(.i .i64 0), (.i .i64 0), (.i .i64 0), (.i .i64 0), (.i .i64 0), (.i .i64 0), (.i .i64 0), (.i .i64 0), (.i .i64 0), (.i .i64 0), (.i .i64 0)]) (c' := [(.i .i64 0), (.i .i64 0), (.i .i64 0), (.i .i64 0), (.i .i64 0), (.i .i64 0), (.i .i64 0), (.i .i64 0), (.i .i64 0), (.i .i64 0), (.i .i64 0)]) rfl (by rfl) hb20 rfl (List.cons_ne_nil _ _) (Nat.le_of_ble_eq_true rfl) rfl fun H23 hW24 => ?_
    have hb25 := (hW24.2.2 _ (by omega)).trans hW19.2.1
    have hO26 := hO21.wr hW24 (by omega) (by omega)
    have hx_hO26 := hO26.next
    have hnx_H23 : H23.next = H18.next := hW24.1
    have hlt_n1 : n1 < H23.next := by omega
    have hlt_n12 : n12 < H23.next := by omega
    refine O_p (.i .i64 (cErr key b)) (r_mv rfl) ?_
    refine O_nil ?_
    refine C_ret ?_
    refine nx_ret ?_
    have he := kErr_d (now := now) hce
    have hb0 : ¬ kErr key b now = 0 := by rw [he]; exact hce
    exact ⟨.inr rfl, _, resL_cons (r_cellA rfl hW24.2.1 rfl) (resL_one (r_tmp (v := (.i .i64 (cErr key b))) rfl)), by simp only [kSt_bad hb0, he]; rfl, hO26⟩
  ·
    simp only [decide_eq_true_eq, decide_eq_false_iff_not, Bool.not_eq_true', Bool.not_eq_false', Bool.and_eq_true, Bool.or_eq_true, Bool.or_eq_false_iff, Bool.not_not] at hc22
    have hce : cErr key b = 0 := hc22
    refine C_skip ?_
    refine C_seq ?_
    refine C_seq ?_
    refine C_region ?_
    refine O_p (.i .i64 now) (r_mv rfl) ?_
    refine O_p (.p (some (n12, 0))) (r_iarr' rfl rfl rfl rfl) ?_
    refine O_p (.i .i64 (cSt key b 0)) (r_ld rfl hW19.2.1 rfl) ?_
    refine O_p (.b (decide (now < (cSt key b 0)))) (r_lss rfl rfl) ?_
    refine O_p (.b (decide (now < (cSt key b 0)))) (r_mv rfl) ?_
    refine O_gx (e := (!(decide (now < (cSt key b 0))))) (v := (.i .i64 now)) (wf rfl) (fun he => (r_mv rfl)) ?_
    refine O_gx (e := (!(decide (now < (cSt key b 0))))) (v := (.p (some (n12, 0)))) (wf rfl) (fun he => (r_iarr' rfl rfl rfl rfl)) ?_
    refine O_gx (e := (!(decide (now < (cSt key b 0))))) (v := (.i .i64 (cSt key b 0))) (wf rfl) (fun he => (r_ld (cond_pos he) hW19.2.1 rfl)) ?_
    refine O_gx (e := (!(decide (now < (cSt key b 0))))) (v := (.p (some (n12, 1)))) (wf rfl) (fun he => (r_iarr' rfl rfl rfl rfl)) ?_
    refine O_gx (e := (!(decide (now < (cSt key b 0))))) (v := (.i .i64 (cSt key b 1))) (wf rfl) (fun he => (r_ld (cond_pos he) hW19.2.1 rfl)) ?_
    refine O_gx (e := (!(decide (now < (cSt key b 0))))) (v := (.i .i64 ((cSt key b 0) + (cSt key b 1)))) (wf rfl) (fun he => (by exact (r_addi (cond_pos he) (cond_pos he) (wrap_i64 (by omega) (by omega))))) ?_
    refine O_gx (e := (!(decide (now < (cSt key b 0))))) (v := (.b (decide (((cSt key b 0) + (cSt key b 1)) < now)))) (wf rfl) (fun he => (r_gtr (cond_pos he) (cond_pos he))) ?_
    refine O_p (.b ((decide (now < (cSt key b 0))) || (decide (((cSt key b 0) + (cSt key b 1)) < now)))) (r_pick_or rfl rfl rfl rfl) ?_
    refine O_nil ?_
    refine C_cond (x := ((decide (now < (cSt key b 0))) || (decide (((cSt key b 0) + (cSt key b 1)) < now)))) rfl (fun hc27 => ?_) (fun hc27 => ?_)
    ·
      simp only [decide_eq_true_eq, decide_eq_false_iff_not, Bool.not_eq_true', Bool.not_eq_false', Bool.and_eq_true, Bool.or_eq_true, Bool.or_eq_false_iff, Bool.not_not] at hc27
      have hst := hc27
      refine C_seq ?_
      refine C_region ?_
      refine O_p (.agg [(.i .i64 0), (.i .i64 0), (.i .i64 0), (.i .i64 0), (.i .i64 0), (.i .i64 0), (.i .i64 0), (.i .i64 0), (.i .i64 0), (.i .i64 0), (.i .i64 0)]) (r_build rfl) ?_
      refine O_store (vs := [(.i .i64 0), (.i .i64 0), (.i .i64 0), (.i .i64 0), (.i .i64 0), (.i .i64 0), (.i .i64 0), (.i .i64 0), (.i .i64 0), (.i .i64 0), (.i .i64 0)]) (c' := [(.i .i64 0), (.i .i64 0), (.i .i64 0), (.i .i64 0), (.i .i64 0), (.i .i64 0), (.i .i64 0), (.i .i64 0), (.i .i64 0), (.i .i64 0), (.i .i64 0)]) rfl (by rfl) hb20 rfl (List.cons_ne_nil _ _) (Nat.le_of_ble_eq_true rfl) rfl fun H28 hW29 => ?_
      have hb30 := (hW29.2.2 _ (by omega)).trans hW19.2.1
      have hO31 := hO21.wr hW29 (by omega) (by omega)
      have hx_hO31 := hO31.next
      have hnx_H28 : H28.next = H18.next := hW29.1
      have hlt_n1 : n1 < H28.next := by omega
      have hlt_n12 : n12 < H28.next := by omega
      refine O_p (.i .i64 7) (r_mv rfl) ?_
      refine O_nil ?_
      refine C_ret ?_
      refine nx_ret ?_
      have he := kErr_7 (now := now) hce hst
      have hb0 : ¬ kErr key b now = 0 := by rw [he]; decide
      exact ⟨.inr rfl, _, resL_cons (r_cellA rfl hW29.2.1 rfl) (resL_one (r_tmp (v := (.i .i64 7)) rfl)), by simp only [kSt_bad hb0, he]; rfl, hO31⟩
    ·
      simp only [decide_eq_true_eq, decide_eq_false_iff_not, Bool.not_eq_true', Bool.not_eq_false', Bool.and_eq_true, Bool.or_eq_true, Bool.or_eq_false_iff, Bool.not_not] at hc27
      have hst := hc27
      refine C_skip ?_
      refine C_seq ?_
      refine C_region ?_
      refine O_p (.agg [(.i .i64 (cSt key b 0)), (.i .i64 (cSt key b 1)), (.i .i64 (cSt key b 2)), (.i .i64 (cSt key b 3)), (.i .i64 (cSt key b 4)), (.i .i64 (cSt key b 5)), (.i .i64 (cSt key b 6)), (.i .i64 (cSt key b 9)), (.i .i64 (cSt key b 10)), (.i .i64 (cSt key b 7)), (.i .i64 (cSt key b 8))]) (r_ldA rfl hW19.2.1 rfl) ?_
      refine O_store (vs := [(.i .i64 (cSt key b 0)), (.i .i64 (cSt key b 1)), (.i .i64 (cSt key b 2)), (.i .i64 (cSt key b 3)), (.i .i64 (cSt key b 4)), (.i .i64 (cSt key b 5)), (.i .i64 (cSt key b 6)), (.i .i64 (cSt key b 9)), (.i .i64 (cSt key b 10)), (.i .i64 (cSt key b 7)), (.i .i64 (cSt key b 8))]) (c' := [(.i .i64 (cSt key b 0)), (.i .i64 (cSt key b 1)), (.i .i64 (cSt key b 2)), (.i .i64 (cSt key b 3)), (.i .i64 (cSt key b 4)), (.i .i64 (cSt key b 5)), (.i .i64 (cSt key b 6)), (.i .i64 (cSt key b 9)), (.i .i64 (cSt key b 10)), (.i .i64 (cSt key b 7)), (.i .i64 (cSt key b 8))]) rfl (by rfl) hb20 rfl (List.cons_ne_nil _ _) (Nat.le_of_ble_eq_true rfl) rfl fun H32 hW33 => ?_
      have hb34 := (hW33.2.2 _ (by omega)).trans hW19.2.1
      have hO35 := hO21.wr hW33 (by omega) (by omega)
      have hx_hO35 := hO35.next
      have hnx_H32 : H32.next = H18.next := hW33.1
      have hlt_n1 : n1 < H32.next := by omega
      have hlt_n12 : n12 < H32.next := by omega
      refine O_p (.i .i64 0) (r_mv rfl) ?_
      refine O_nil ?_
      refine C_ret ?_
      have he := kErr_0 (now := now) hce (by simpa only [not_or] using hst)
      exact ⟨.inr rfl, _, resL_cons (r_cellA rfl hW33.2.1 rfl) (resL_one (r_tmp (v := (.i .i64 0)) rfl)), by simp only [kSt_ok he, he]; rfl, hO35⟩
set_option maxRecDepth 100000 in
set_option maxHeartbeats 4000000 in
theorem run4 (H : AH) (hok : H.Ok) (ka : Option (Nat × Nat)) (kc : Nat) (key : List UInt8) (khb : Bs H (.sl ka key.length kc 0) key) (khc : key.length ≤ kc) (khm0 : kc ≤ maxLen) (ba : Option (Nat × Nat)) (bc : Nat) (b : List UInt8) (bhb : Bs H (.sl ba b.length bc 0) b) (bhc : b.length ≤ bc) (bhm0 : bc ≤ maxLen) (now : Int) (w_now : (Lit.int .i64 now).wf = true) : Ev tabA spA (.fn (.func 4) [] []) [.sl ka key.length kc 0, .sl ba b.length bc 0, .i .i64 now] H (fun v _ => v = .b true) := by
  refine Ev_C (F := x4) rfl ?_
  have hO0 := Old.refl hok
  have khm : kc ≤ 9223372036854775807 := khm0
  have bhm : bc ≤ 9223372036854775807 := bhm0
  refine C_seq ?_
  refine C_region ?_
  refine O_p (.b false) (r_mv rfl) ?_
  refine O_nil ?_
  refine C_seq ?_
  refine C_region ?_
  refine O_call (Ev.mono (awake_ev hO0.ok) fun v1 H2 hq3 => ?_)
  obtain ⟨rfl, hK4⟩ := hq3
  have hx_hK4 := hK4.next
  have hO5 := hO0.trans hK4
  have hx_hO5 := hO5.next
  refine O_p (.b true) (r_mv rfl) ?_
  refine O_nil ?_
  refine C_seq ?_
  refine C_seq ?_
  refine C_region ?_
  refine O_p (.sl ka key.length kc 0) (r_mv rfl) ?_
  refine O_p (.i .i64 (((key.length : Nat)) : Int)) (r_len rfl) ?_
  refine O_p (.b (decide (300 < (((key.length : Nat)) : Int)))) (r_gtr rfl rfl) ?_
  refine O_p (.b (decide (300 < (((key.length : Nat)) : Int)))) (r_mv rfl) ?_
  refine O_gx (e := (!(decide (300 < (((key.length : Nat)) : Int))))) (v := (.sl ba b.length bc 0)) (wf rfl) (fun he => (r_mv rfl)) ?_
  refine O_gx (e := (!(decide (300 < (((key.length : Nat)) : Int))))) (v := (.i .i64 (((b.length : Nat)) : Int))) (wf rfl) (fun he => (r_len (cond_pos he))) ?_
  refine O_gx (e := (!(decide (300 < (((key.length : Nat)) : Int))))) (v := (.b (decide (300 < (((b.length : Nat)) : Int))))) (wf rfl) (fun he => (r_gtr (cond_pos he) rfl)) ?_
  refine O_p (.b ((decide (300 < (((key.length : Nat)) : Int))) || (decide (300 < (((b.length : Nat)) : Int))))) (r_pick_or rfl rfl rfl rfl) ?_
  refine O_nil ?_
  refine C_cond (x := ((decide (300 < (((key.length : Nat)) : Int))) || (decide (300 < (((b.length : Nat)) : Int))))) rfl (fun hc6 => ?_) (fun hc6 => ?_)
  ·
    simp only [decide_eq_true_eq, decide_eq_false_iff_not, Bool.not_eq_true', Bool.not_eq_false', Bool.and_eq_true, Bool.or_eq_true, Bool.or_eq_false_iff, Bool.not_not] at hc6
    refine C_seq ?_
    refine C_region ?_
    refine O_p (.b true) (r_mv rfl) ?_
    refine O_p (.b true) (r_mv rfl) ?_
    refine O_nil ?_
    refine C_ret ?_
    refine nx_ret ?_
    exact ⟨.inr rfl, _, resL_one (r_tmp (v := .b true) rfl), rfl⟩
  ·
    simp only [decide_eq_true_eq, decide_eq_false_iff_not, Bool.not_eq_true', Bool.not_eq_false', Bool.and_eq_true, Bool.or_eq_true, Bool.or_eq_false_iff, Bool.not_not] at hc6
    refine C_skip ?_
    refine C_seq ?_
    refine C_region ?_
    refine O_p (.sl ka key.length kc 0) (r_mv rfl) ?_
    refine O_p (.sl ba b.length bc 0) (r_mv rfl) ?_
    refine O_call (Ev.mono (dec_ev hO5.ok (.inl rfl) (khb.old hok hO5) (by first | omega | (simp only [List.length_take, List.length_drop, List.length_append, List.length_cons, List.length_nil, beN_len] <;> omega)) (by first | omega | (simp only [List.length_take, List.length_drop, List.length_append, List.length_cons, List.length_nil, beN_len] <;> omega)) (.inl rfl) (bhb.old hok hO5) (by first | omega | (simp only [List.length_take, List.length_drop, List.length_append, List.length_cons, List.length_nil, beN_len] <;> omega)) (by first | omega | (simp only [List.length_take, List.length_drop, List.length_append, List.length_cons, List.length_nil, beN_len] <;> omega))) fun v7 H8 hq9 => ?_)
    obtain ⟨rfl, hK10⟩ := hq9
    have hx_hK10 := hK10.next
    have hO11 := hO5.trans hK10
    have hx_hO11 := hO11.next
    refine O_p (.tup [(.agg [(.i .i64 (cSt key b 0)), (.i .i64 (cSt key b 1)), (.i .u32 (cSt key b 2)), (.i .u32 (cSt key b 3)), (.i .u32 (cSt key b 4)), (.i .u32 (cSt key b 5)), (.i .u32 (cSt key b 6)), (.i .u16 (cSt key b 7)), (.i .u16 (cSt key b 8)), (.i .u32 (cSt key b 9)), (.i .u32 (cSt key b 10))]), (.i .i64 (cErr key b))]) (r_mv rfl) ?_
    refine O_p (.agg [(.i .i64 (cSt key b 0)), (.i .i64 (cSt key b 1)), (.i .u32 (cSt key b 2)), (.i .u32 (cSt key b 3)), (.i .u32 (cSt key b 4)), (.i .u32 (cSt key b 5)), (.i .u32 (cSt key b 6)), (.i .u16 (cSt key b 7)), (.i .u16 (cSt key b 8)), (.i .u32 (cSt key b 9)), (.i .u32 (cSt key b 10))]) (r_ext rfl rfl) ?_
    refine O_p (.i .i64 (cErr key b)) (r_ext rfl rfl) ?_
    refine O_alloc fun n12 H13 hN14 => ?_
    have hF15 := hN14.fr (fun _ => False)
    have hO16 := hO11.new hN14
    have hx_hO16 := hO16.next
    have hnm_n12 : n12 = H8.next := hN14.1
    have hnx_H13 : H13.next = H8.next + 1 := hN14.2.1
    have hlt_n12 : n12 < H13.next := by omega
    refine O_store (vs := [(.i .i64 (cSt key b 0)), (.i .i64 (cSt key b 1)), (.i .u32 (cSt key b 2)), (.i .u32 (cSt key b 3)), (.i .u32 (cSt key b 4)), (.i .u32 (cSt key b 5)), (.i .u32 (cSt key b 6)), (.i .u16 (cSt key b 7)), (.i .u16 (cSt key b 8)), (.i .u32 (cSt key b 9)), (.i .u32 (cSt key b 10))]) (c' := [(.i .i64 (cSt key b 0)), (.i .i64 (cSt key b 1)), (.i .u32 (cSt key b 2)), (.i .u32 (cSt key b 3)), (.i .u32 (cSt key b 4)), (.i .u32 (cSt key b 5)), (.i .u32 (cSt key b 6)), (.i .u16 (cSt key b 7)), (.i .u16 (cSt key b 8)), (.i .u32 (cSt key b 9)), (.i .u32 (cSt key b 10))]) rfl (by rfl) hN14.2.2.1 rfl (List.cons_ne_nil _ _) (Nat.le_of_ble_eq_true rfl) rfl fun H17 hW18 => ?_
    have hO19 := hO16.wr hW18 (by omega) (by omega)
    have hx_hO19 := hO19.next
    have hnx_H17 : H17.next = H13.next := hW18.1
    have hlt_n12 : n12 < H17.next := by omega
    refine O_p (.i .i64 (cErr key b)) (r_mv rfl) ?_
    refine O_nil ?_
    refine C_seq ?_
    refine C_region ?_
    refine O_p (.sl ka key.length kc 0) (r_mv rfl) ?_
    refine O_p (.sl ba b.length bc 0) (r_mv rfl) ?_
    refine O_call (Ev.mono (rdec_ev hO19.ok (.inl rfl) (khb.old hok hO19) (by first | omega | (simp only [List.length_take, List.length_drop, List.length_append, List.length_cons, List.length_nil, beN_len] <;> omega)) (by first | omega | (simp only [List.length_take, List.length_drop, List.length_append, List.length_cons, List.length_nil, beN_len] <;> omega)) (.inl rfl) (bhb.old hok hO19) (by first | omega | (simp only [List.length_take, List.length_drop, List.length_append, List.length_cons, List.length_nil, beN_len] <;> omega)) (by first | omega | (simp only [List.length_take, List.length_drop, List.length_append, List.length_cons, List.length_nil, beN_len] <;> omega))) fun v20 H21 hq22 => ?_)
    obtain ⟨rfl, hK23⟩ := hq22
    have hb24 := (hK23.keep _ (by omega)).trans hW18.2.1
    have hx_hK23 := hK23.next
    have hlt_n12 : n12 < H21.next := by omega
    have hO25 := hO19.trans hK23
    have hx_hO25 := hO25.next
    refine O_p (.tup [(.agg [(.i .i64 (cSt key b 0)), (.i .i64 (cSt key b 1)), (.i .i64 (cSt key b 2)), (.i .i64 (cSt key b 3)), (.i .i64 (cSt key b 4)), (.i .i64 (cSt key b 5)), (.i .i64 (cSt key b 6)), (.i .i64 (cSt key b 9)), (.i .i64 (cSt key b 10)), (.i .i64 (cSt key b 7)), (.i .i64 (cSt key b 8))]), (.i .i64 (cErr key b))]) (r_mv rfl) ?_
    refine O_p (.agg [(.i .i64 (cSt key b 0)), (.i .i64 (cSt key b 1)), (.i .i64 (cSt key b 2)), (.i .i64 (cSt key b 3)), (.i .i64 (cSt key b 4)), (.i .i64 (cSt key b 5)), (.i .i64 (cSt key b 6)), (.i .i64 (cSt key b 9)), (.i .i64 (cSt key b 10)), (.i .i64 (cSt key b 7)), (.i .i64 (cSt key b 8))]) (r_ext rfl rfl) ?_
    refine O_p (.i .i64 (cErr key b)) (r_ext rfl rfl) ?_
    refine O_alloc fun n26 H27 hN28 => ?_
    have hF29 := hN28.fr (fun _ => False)
    have hb30 := (hF29.keep _ (by exact hlt_n12) (fun h => h)).trans hb24
    have hO31 := hO25.new hN28
    have hx_hO31 := hO31.next
    have hnm_n26 : n26 = H21.next := hN28.1
    have hnx_H27 : H27.next = H21.next + 1 := hN28.2.1
    have hlt_n12 : n12 < H27.next := by omega
    have hlt_n26 : n26 < H27.next := by omega
    refine O_store (vs := [(.i .i64 (cSt key b 0)), (.i .i64 (cSt key b 1)), (.i .i64 (cSt key b 2)), (.i .i64 (cSt key b 3)), (.i .i64 (cSt key b 4)), (.i .i64 (cSt key b 5)), (.i .i64 (cSt key b 6)), (.i .i64 (cSt key b 9)), (.i .i64 (cSt key b 10)), (.i .i64 (cSt key b 7)), (.i .i64 (cSt key b 8))]) (c' := [(.i .i64 (cSt key b 0)), (.i .i64 (cSt key b 1)), (.i .i64 (cSt key b 2)), (.i .i64 (cSt key b 3)), (.i .i64 (cSt key b 4)), (.i .i64 (cSt key b 5)), (.i .i64 (cSt key b 6)), (.i .i64 (cSt key b 9)), (.i .i64 (cSt key b 10)), (.i .i64 (cSt key b 7)), (.i .i64 (cSt key b 8))]) rfl (by rfl) hN28.2.2.1 rfl (List.cons_ne_nil _ _) (Nat.le_of_ble_eq_true rfl) rfl fun H32 hW33 => ?_
    have hb34 := (hW33.2.2 _ (by omega)).trans hb30
    have hO35 := hO31.wr hW33 (by omega) (by omega)
    have hx_hO35 := hO35.next
    have hnx_H32 : H32.next = H27.next := hW33.1
    have hlt_n12 : n12 < H32.next := by omega
    have hlt_n26 : n26 < H32.next := by omega
    refine O_p (.i .i64 (cErr key b)) (r_mv rfl) ?_
    refine O_nil ?_
    refine C_seq ?_
    refine C_region ?_
    refine O_p (.sl ka key.length kc 0) (r_mv rfl) ?_
    refine O_p (.sl ba b.length bc 0) (r_mv rfl) ?_
    refine O_p (.i .i64 now) (r_mv rfl) ?_
    refine O_call (Ev.mono (chk_ev hO35.ok (.inl rfl) (khb.old hok hO35) (by first | omega | (simp only [List.length_take, List.length_drop, List.length_append, List.length_cons, List.length_nil, beN_len] <;> omega)) (by first | omega | (simp only [List.length_take, List.length_drop, List.length_append, List.length_cons, List.length_nil, beN_len] <;> omega)) (.inl rfl) (bhb.old hok hO35) (by first | omega | (simp only [List.length_take, List.length_drop, List.length_append, List.length_cons, List.length_nil, beN_len] <;> omega)) (by first | omega | (simp only [List.length_take, List.length_drop, List.length_append, List.length_cons, List.length_nil, beN_len] <;> omega)) now) fun v36 H37 hq38 => ?_)
    obtain ⟨rfl, hK39⟩ := hq38
    have hb40 := (hK39.keep _ (by omega)).trans hb34
    have hb41 := (hK39.keep _ (by omega)).trans hW33.2.1
    have hx_hK39 := hK39.next
    have hlt_n12 : n12 < H37.next := by omega
    have hlt_n26 : n26 < H37.next := by omega
    have hO42 := hO35.trans hK39
    have hx_hO42 := hO42.next
    refine O_p (.tup [(.agg [(.i .i64 (kSt key b now 0)), (.i .i64 (kSt key b now 1)), (.i .u32 (kSt key b now 2)), (.i .u32 (kSt key b now 3)), (.i .u32 (kSt key b now 4)), (.i .u32 (kSt key b now 5)), (.i .u32 (kSt key b now 6)), (.i .u16 (kSt key b now 7)), (.i .u16 (kSt key b now 8)), (.i .u32 (kSt key b now 9)), (.i .u32 (kSt key b now 10))]), (.i .i64 (kErr key b now))]) (r_mv rfl) ?_
    refine O_p (.agg [(.i .i64 (kSt key b now 0)), (.i .i64 (kSt key b now 1)), (.i .u32 (kSt key b now 2)), (.i .u32 (kSt key b now 3)), (.i .u32 (kSt key b now 4)), (.i .u32 (kSt key b now 5)), (.i .u32 (kSt key b now 6)), (.i .u16 (kSt key b now 7)), (.i .u16 (kSt key b now 8)), (.i .u32 (kSt key b now 9)), (.i .u32 (kSt key b now 10))]) (r_ext rfl rfl) ?_
    refine O_p (.i .i64 (kErr key b now)) (r_ext rfl rfl) ?_
    refine O_alloc fun n43 H44 hN45 => ?_
    have hF46 := hN45.fr (fun _ => False)
    have hb47 := (hF46.keep _ (by exact hlt_n12) (fun h => h)).trans hb40
    have hb48 := (hF46.keep _ (by exact hlt_n26) (fun h => h)).trans hb41
    have hO49 := hO42.new hN45
    have hx_hO49 := hO49.next
    have hnm_n43 : n43 = H37.next := hN45.1
    have hnx_H44 : H44.next = H37.next + 1 := hN45.2.1
    have hlt_n12 : n12 < H44.next := by omega
    have hlt_n26 : n26 < H44.next := by omega
    have hlt_n43 : n43 < H44.next := by omega
    refine O_store (vs := [(.i .i64 (kSt key b now 0)), (.i .i64 (kSt key b now 1)), (.i .u32 (kSt key b now 2)), (.i .u32 (kSt key b now 3)), (.i .u32 (kSt key b now 4)), (.i .u32 (kSt key b now 5)), (.i .u32 (kSt key b now 6)), (.i .u16 (kSt key b now 7)), (.i .u16 (kSt key b now 8)), (.i .u32 (kSt key b now 9)), (.i .u32 (kSt key b now 10))]) (c' := [(.i .i64 (kSt key b now 0)), (.i .i64 (kSt key b now 1)), (.i .u32 (kSt key b now 2)), (.i .u32 (kSt key b now 3)), (.i .u32 (kSt key b now 4)), (.i .u32 (kSt key b now 5)), (.i .u32 (kSt key b now 6)), (.i .u16 (kSt key b now 7)), (.i .u16 (kSt key b now 8)), (.i .u32 (kSt key b now 9)), (.i .u32 (kSt key b now 10))]) rfl (by rfl) hN45.2.2.1 rfl (List.cons_ne_nil _ _) (Nat.le_of_ble_eq_true rfl) rfl fun H50 hW51 => ?_
    have hb52 := (hW51.2.2 _ (by omega)).trans hb47
    have hb53 := (hW51.2.2 _ (by omega)).trans hb48
    have hO54 := hO49.wr hW51 (by omega) (by omega)
    have hx_hO54 := hO54.next
    have hnx_H50 : H50.next = H44.next := hW51.1
    have hlt_n12 : n12 < H50.next := by omega
    have hlt_n26 : n26 < H50.next := by omega
    have hlt_n43 : n43 < H50.next := by omega
    refine O_p (.i .i64 (kErr key b now)) (r_mv rfl) ?_
    refine O_nil ?_
    refine C_seq ?_
    refine C_region ?_
    refine O_p (.sl ka key.length kc 0) (r_mv rfl) ?_
    refine O_p (.sl ba b.length bc 0) (r_mv rfl) ?_
    refine O_p (.i .i64 now) (r_mv rfl) ?_
    refine O_call (Ev.mono (rchk_ev hO54.ok (.inl rfl) (khb.old hok hO54) (by first | omega | (simp only [List.length_take, List.length_drop, List.length_append, List.length_cons, List.length_nil, beN_len] <;> omega)) (by first | omega | (simp only [List.length_take, List.length_drop, List.length_append, List.length_cons, List.length_nil, beN_len] <;> omega)) (.inl rfl) (bhb.old hok hO54) (by first | omega | (simp only [List.length_take, List.length_drop, List.length_append, List.length_cons, List.length_nil, beN_len] <;> omega)) (by first | omega | (simp only [List.length_take, List.length_drop, List.length_append, List.length_cons, List.length_nil, beN_len] <;> omega)) now) fun v55 H56 hq57 => ?_)
    obtain ⟨rfl, hK58⟩ := hq57
    have hb59 := (hK58.keep _ (by omega)).trans hb52
    have hb60 := (hK58.keep _ (by omega)).trans hb53
    have hb61 := (hK58.keep _ (by omega)).trans hW51.2.1
    have hx_hK58 := hK58.next
    have hlt_n12 : n12 < H56.next := by omega
    have hlt_n26 : n26 < H56.next := by omega
    have hlt_n43 : n43 < H56.next := by omega
    have hO62 := hO54.trans hK58
    have hx_hO62 := hO62.next
    refine O_p (.tup [(.agg [(.i .i64 (kSt key b now 0)), (.i .i64 (kSt key b now 1)), (.i .i64 (kSt key b now 2)), (.i .i64 (kSt key b now 3)), (.i .i64 (kSt key b now 4)), (.i .i64 (kSt key b now 5)), (.i .i64 (kSt key b now 6)), (.i .i64 (kSt key b now 9)), (.i .i64 (kSt key b now 10)), (.i .i64 (kSt key b now 7)), (.i .i64 (kSt key b now 8))]), (.i .i64 (kErr key b now))]) (r_mv rfl) ?_
    refine O_p (.agg [(.i .i64 (kSt key b now 0)), (.i .i64 (kSt key b now 1)), (.i .i64 (kSt key b now 2)), (.i .i64 (kSt key b now 3)), (.i .i64 (kSt key b now 4)), (.i .i64 (kSt key b now 5)), (.i .i64 (kSt key b now 6)), (.i .i64 (kSt key b now 9)), (.i .i64 (kSt key b now 10)), (.i .i64 (kSt key b now 7)), (.i .i64 (kSt key b now 8))]) (r_ext rfl rfl) ?_
    refine O_p (.i .i64 (kErr key b now)) (r_ext rfl rfl) ?_
    refine O_alloc fun n63 H64 hN65 => ?_
    have hF66 := hN65.fr (fun _ => False)
    have hb67 := (hF66.keep _ (by exact hlt_n12) (fun h => h)).trans hb59
    have hb68 := (hF66.keep _ (by exact hlt_n26) (fun h => h)).trans hb60
    have hb69 := (hF66.keep _ (by exact hlt_n43) (fun h => h)).trans hb61
    have hO70 := hO62.new hN65
    have hx_hO70 := hO70.next
    have hnm_n63 : n63 = H56.next := hN65.1
    have hnx_H64 : H64.next = H56.next + 1 := hN65.2.1
    have hlt_n12 : n12 < H64.next := by omega
    have hlt_n26 : n26 < H64.next := by omega
    have hlt_n43 : n43 < H64.next := by omega
    have hlt_n63 : n63 < H64.next := by omega
    refine O_store (vs := [(.i .i64 (kSt key b now 0)), (.i .i64 (kSt key b now 1)), (.i .i64 (kSt key b now 2)), (.i .i64 (kSt key b now 3)), (.i .i64 (kSt key b now 4)), (.i .i64 (kSt key b now 5)), (.i .i64 (kSt key b now 6)), (.i .i64 (kSt key b now 9)), (.i .i64 (kSt key b now 10)), (.i .i64 (kSt key b now 7)), (.i .i64 (kSt key b now 8))]) (c' := [(.i .i64 (kSt key b now 0)), (.i .i64 (kSt key b now 1)), (.i .i64 (kSt key b now 2)), (.i .i64 (kSt key b now 3)), (.i .i64 (kSt key b now 4)), (.i .i64 (kSt key b now 5)), (.i .i64 (kSt key b now 6)), (.i .i64 (kSt key b now 9)), (.i .i64 (kSt key b now 10)), (.i .i64 (kSt key b now 7)), (.i .i64 (kSt key b now 8))]) rfl (by rfl) hN65.2.2.1 rfl (List.cons_ne_nil _ _) (Nat.le_of_ble_eq_true rfl) rfl fun H71 hW72 => ?_
    have hb73 := (hW72.2.2 _ (by omega)).trans hb67
    have hb74 := (hW72.2.2 _ (by omega)).trans hb68
    have hb75 := (hW72.2.2 _ (by omega)).trans hb69
    have hO76 := hO70.wr hW72 (by omega) (by omega)
    have hx_hO76 := hO76.next
    have hnx_H71 : H71.next = H64.next := hW72.1
    have hlt_n12 : n12 < H71.next := by omega
    have hlt_n26 : n26 < H71.next := by omega
    have hlt_n43 : n43 < H71.next := by omega
    have hlt_n63 : n63 < H71.next := by omega
    refine O_p (.i .i64 (kErr key b now)) (r_mv rfl) ?_
    refine O_nil ?_
    refine C_seq ?_
    refine C_region ?_
    refine O_p (.b true) (r_mv rfl) ?_
    refine O_p (.b true) (r_mv rfl) ?_
    refine O_gs (v := (.i .i64 (cErr key b))) rfl (r_mv rfl) ?_
    refine O_gs (v := (.i .i64 (cErr key b))) rfl (r_mv rfl) ?_
    refine O_gs (v := (.b true)) rfl (r_eqq rfl rfl) ?_
    refine O_p (.b true) (r_pick_t rfl rfl) ?_
    refine O_p (.b true) (r_mv rfl) ?_
    refine O_gs (v := (.agg [(.i .i64 (cSt key b 0)), (.i .i64 (cSt key b 1)), (.i .u32 (cSt key b 2)), (.i .u32 (cSt key b 3)), (.i .u32 (cSt key b 4)), (.i .u32 (cSt key b 5)), (.i .u32 (cSt key b 6)), (.i .u16 (cSt key b 7)), (.i .u16 (cSt key b 8)), (.i .u32 (cSt key b 9)), (.i .u32 (cSt key b 10))])) rfl (r_ldA rfl hb73 rfl) ?_
    refine O_gs (v := (.agg [(.i .i64 (cSt key b 0)), (.i .i64 (cSt key b 1)), (.i .i64 (cSt key b 2)), (.i .i64 (cSt key b 3)), (.i .i64 (cSt key b 4)), (.i .i64 (cSt key b 5)), (.i .i64 (cSt key b 6)), (.i .i64 (cSt key b 9)), (.i .i64 (cSt key b 10)), (.i .i64 (cSt key b 7)), (.i .i64 (cSt key b 8))])) rfl (r_ldA rfl hb74 rfl) ?_
    refine O_gcall rfl (Ev.mono (alike_ev hO76.ok (cSt key b 0) (cSt key b 1) (cSt key b 2) (cSt key b 3) (cSt key b 4) (cSt key b 5) (cSt key b 6) (cSt key b 7) (cSt key b 8) (cSt key b 9) (cSt key b 10) (cSt_r9 key b).1 (cSt_r9 key b).2.1 (cSt_r9 key b).2.2.1 (cSt_r9 key b).2.2.2.1 (cSt_r9 key b).2.2.2.2.1 (cSt_r9 key b).2.2.2.2.2.1 (cSt_r9 key b).2.2.2.2.2.2.1 (cSt_r9 key b).2.2.2.2.2.2.2.1 (cSt_r9 key b).2.2.2.2.2.2.2.2) fun v77 H78 hq79 => ?_)
    obtain ⟨rfl, hK80⟩ := hq79
    have hb81 := (hK80.keep _ (by omega)).trans hb73
    have hb82 := (hK80.keep _ (by omega)).trans hb74
    have hb83 := (hK80.keep _ (by omega)).trans hb75
    have hb84 := (hK80.keep _ (by omega)).trans hW72.2.1
    have hx_hK80 := hK80.next
    have hlt_n12 : n12 < H78.next := by omega
    have hlt_n26 : n26 < H78.next := by omega
    have hlt_n43 : n43 < H78.next := by omega
    have hlt_n63 : n63 < H78.next := by omega
    have hO85 := hO76.trans hK80
    have hx_hO85 := hO85.next
    refine O_p (.b true) (r_pick_t rfl rfl) ?_
    refine O_p (.b true) (r_mv rfl) ?_
    refine O_gs (v := (.i .i64 (kErr key b now))) rfl (r_mv rfl) ?_
    refine O_gs (v := (.i .i64 (kErr key b now))) rfl (r_mv rfl) ?_
    refine O_gs (v := (.b true)) rfl (r_eqq rfl rfl) ?_
    refine O_p (.b true) (r_pick_t rfl rfl) ?_
    refine O_p (.b true) (r_mv rfl) ?_
    refine O_gs (v := (.agg [(.i .i64 (kSt key b now 0)), (.i .i64 (kSt key b now 1)), (.i .u32 (kSt key b now 2)), (.i .u32 (kSt key b now 3)), (.i .u32 (kSt key b now 4)), (.i .u32 (kSt key b now 5)), (.i .u32 (kSt key b now 6)), (.i .u16 (kSt key b now 7)), (.i .u16 (kSt key b now 8)), (.i .u32 (kSt key b now 9)), (.i .u32 (kSt key b now 10))])) rfl (r_ldA rfl hb83 rfl) ?_
    refine O_gs (v := (.agg [(.i .i64 (kSt key b now 0)), (.i .i64 (kSt key b now 1)), (.i .i64 (kSt key b now 2)), (.i .i64 (kSt key b now 3)), (.i .i64 (kSt key b now 4)), (.i .i64 (kSt key b now 5)), (.i .i64 (kSt key b now 6)), (.i .i64 (kSt key b now 9)), (.i .i64 (kSt key b now 10)), (.i .i64 (kSt key b now 7)), (.i .i64 (kSt key b now 8))])) rfl (r_ldA rfl hb84 rfl) ?_
    refine O_gcall rfl (Ev.mono (alike_ev hO85.ok (kSt key b now 0) (kSt key b now 1) (kSt key b now 2) (kSt key b now 3) (kSt key b now 4) (kSt key b now 5) (kSt key b now 6) (kSt key b now 7) (kSt key b now 8) (kSt key b now 9) (kSt key b now 10) (kSt_r9 key b now).1 (kSt_r9 key b now).2.1 (kSt_r9 key b now).2.2.1 (kSt_r9 key b now).2.2.2.1 (kSt_r9 key b now).2.2.2.2.1 (kSt_r9 key b now).2.2.2.2.2.1 (kSt_r9 key b now).2.2.2.2.2.2.1 (kSt_r9 key b now).2.2.2.2.2.2.2.1 (kSt_r9 key b now).2.2.2.2.2.2.2.2) fun v86 H87 hq88 => ?_)
    obtain ⟨rfl, hK89⟩ := hq88
    have hb90 := (hK89.keep _ (by omega)).trans hb81
    have hb91 := (hK89.keep _ (by omega)).trans hb82
    have hb92 := (hK89.keep _ (by omega)).trans hb83
    have hb93 := (hK89.keep _ (by omega)).trans hb84
    have hx_hK89 := hK89.next
    have hlt_n12 : n12 < H87.next := by omega
    have hlt_n26 : n26 < H87.next := by omega
    have hlt_n43 : n43 < H87.next := by omega
    have hlt_n63 : n63 < H87.next := by omega
    have hO94 := hO85.trans hK89
    have hx_hO94 := hO94.next
    refine O_p (.b true) (r_pick_t rfl rfl) ?_
    refine O_p (.b true) (r_mv rfl) ?_
    refine O_nil ?_
    refine C_ret ?_
    exact ⟨.inr rfl, _, resL_one (r_tmp (v := .b true) rfl), rfl⟩
theorem law4 (W : World) (ρ : Rho) (H : AH) (xs : List AV) (args : Array Value) (hR : Rel Try.prog W.heap.size W ρ H W) (hro : RO H) (hv : VRL ρ xs args.toList) (ht : TypedVs Try.prog H 9 Try.f4.params.toList xs) :
    Calls Try.prog 4 args W fun e w' => e = .returned (.bool true) ∧ Below W.heap.size W w' := by
  rw [Try.params4] at ht
  obtain ⟨a0, xs, rfl, h0, a1, xs, rfl, h1, a2, xs, rfl, h2, rfl⟩ := ht
  obtain ⟨p0, n0, c0, key, rfl, hb0, rfl, hc0, hm0⟩ := typed_bytes Try.underlying22 Try.underlying5 (by kernel_rfl) (typedV_slice Try.underlying22 h0)
  obtain ⟨p1, n1, c1, b, rfl, hb1, rfl, hc1, hm1⟩ := typed_bytes Try.underlying22 Try.underlying5 (by kernel_rfl) (typedV_slice Try.underlying22 h1)
  obtain ⟨now, rfl, w2⟩ := typedV_int Try.underlying3 h2
  obtain ⟨k, v, H', hex, rfl⟩ := run4 H hR.aok p0 c0 key hb0 hc0 hm0 p1 c1 b hb1 hc1 hm1 now w2
  exact law_of mixed tabA_ok spA_ok hex hR hv
end Go.Proofs.Yteapgimihapefaa.E
namespace Go.Proofs.Yteapgimihapefaa.cookieDecodes
open Go.ChangeShapes Go.WideShapes Go.RowKit
set_option linter.unusedVariables false
theorem own : ownKnob Try.prog.godebug = none := by kernel_rfl
theorem types : (Try.f4.params.toList.all fun t => E.fit Try.prog 9 t && (Try.prog.readableRec t && decide (t < Try.prog.types.size))) = true := by kernel_rfl
set_option maxRecDepth 100000 in
theorem lifted (os : Os) (started : os.Started) (H : Type) (enc : TypeId × Value → H) :
    ReturnsInHanded {} Try.checked os 4 .any (Rows.cookieDecodesSpec.pre6 enc Try.prog Try.f4 Rows.cookieDecodesRow.domain false) (Rows.cookieDecodesSpec.post enc Try.prog Try.f4 false true false false) :=
  E.law_lifted (C := Try.checked) (k := 9) (tb := 4) E.globals0 E.laid own started (by kernel_rfl) Try.func4
    (ChangeSpec.witness6 (enc := enc) (C := Try.checked) false ⟨#[], #[.slice none 0 0, .slice none 0 0, .int .i64 0], []⟩ 8 (by kernel_rfl) (by kernel_rfl) (by kernel_rfl) (by kernel_rfl))
    rfl rfl Try.underlying4 (fun t ht => by have h := List.all_eq_true.1 types t ht; simp only [Bool.and_eq_true, decide_eq_true_eq] at h; exact h)
    (fun ds hd => by
      rw [Try.params4] at hd
      match ds, hd with
      | [d0, d1, d2], _ => rfl) E.law4
theorem over : Rows.cookieDecodesRow.holds Try.pinned (OpenSpec.ofChange Rows.cookieDecodesSpec) :=
  OpenClaim.holds_of_wide 4 Try.f4 rfl rfl rfl rfl rfl rfl rfl ⟨rfl, rfl, rfl, rfl, rfl⟩ rfl rfl rfl rfl rfl (by kernel_rfl) Try.func4 (by kernel_rfl)
    (of_decide_eq_true (by kernel_rfl)) (by unfold Func.isWrapper; first | (rw [if_pos (by decide +kernel)]; kernel_rfl) | (rw [if_neg (by decide +kernel)]; exact ⟨rfl, rfl⟩))
    (fun os started H enc _ => lifted os started H enc)
end Go.Proofs.Yteapgimihapefaa.cookieDecodes
namespace Go.Proofs.Yteapgimihapefaa
/-- The row, under a short name, for the claim. -/
theorem cookieDecodes_holds : Rows.CookieDecodesSaid := cookieDecodes.over
#print axioms cookieDecodes_holds
end Go.Proofs.Yteapgimihapefaa
