/- AudioCodes, for every input, without conditions. -/
import Derived.Test.YthmiglahfkfcaaaA
import Derived.Test.YthmiglahfkfcaaaRows
import Derived.ProofKit
import Derived.OpenShut
namespace Go.Proofs.Ythmiglahfkfcaaa.E
open Go.RowKit (Below)
set_option linter.unusedVariables false
set_option linter.unusedSimpArgs false
theorem run6 (H : AH) (hok : H.Ok) (pm : Bool) (pk : Int) (w1 : (Lit.int .u8 pk).wf = true) (pq : Int) (w2 : (Lit.int .u16 pq).wf = true) (pt : Int) (w3 : (Lit.int .u32 pt).wf = true) (ps : Int) (w4 : (Lit.int .u32 ps).wf = true) (pa : Option (Nat × Nat)) (pc : Nat) (l : List UInt8) (phb : Bs H (.sl pa l.length pc 0) l) (phc : l.length ≤ pc) (phm0 : pc ≤ maxLen) (ba : Option (Nat × Nat)) (bc : Nat) (b : List UInt8) (bhb : Bs H (.sl ba b.length bc 0) b) (bhc : b.length ≤ bc) (bhm0 : bc ≤ maxLen) : Ev tabA spA (.fn (.func 6) [] []) [.agg [.b pm, .i .u8 pk, .i .u16 pq, .i .u32 pt, .i .u32 ps, .sl pa l.length pc 0], .sl ba b.length bc 0] H (fun v _ => v = .b true) := by
  refine Ev_C (F := x6) rfl ?_
  obtain ⟨pk0, pk1⟩ : 0 ≤ pk ∧ pk < 256 := by simp [Lit.wf, IntKind.wrap, IntKind.signed, IntKind.bits, IntKind.min, IntKind.max] at w1; omega
  obtain ⟨pq0, pq1⟩ : 0 ≤ pq ∧ pq < 65536 := by simp [Lit.wf, IntKind.wrap, IntKind.signed, IntKind.bits, IntKind.min, IntKind.max] at w2; omega
  have hO0 := Old.refl hok
  have phm : pc ≤ 9223372036854775807 := phm0
  have bhm : bc ≤ 9223372036854775807 := bhm0
  have h14 : tabA 14 = some x14 := rfl
  have h17 : tabA 17 = some x17 := rfl
  have h18 : tabA 18 = some x18 := rfl
  have h19 : tabA 19 = some x19 := rfl
  have h20 : tabA 20 = some x20 := rfl
  have h21 : tabA 21 = some x21 := rfl
  have h22 : tabA 22 = some x22 := rfl
  have h23 : tabA 23 = some x23 := rfl
  have h26 : tabA 26 = some x26 := rfl
  have h27 : tabA 27 = some x27 := rfl
  have h30 : tabA 30 = some x30 := rfl
  have h31 : tabA 31 = some x31 := rfl
  have h32 : tabA 32 = some x32 := rfl
  have h33 : tabA 33 = some x33 := rfl
  have h34 : tabA 34 = some x34 := rfl
  have h35 : tabA 35 = some x35 := rfl
  have h36 : tabA 36 = some x36 := rfl
  have h37 : tabA 37 = some x37 := rfl
  have h38 : tabA 38 = some x38 := rfl
  have h39 : tabA 39 = some x39 := rfl
  have h41 : tabA 41 = some x41 := rfl
  have h42 : tabA 42 = some x42 := rfl
  refine C_seq ?_
  refine C_region ?_
  refine O_box (z := [(.b pm), (.i .u8 pk), (.i .u16 pq), (.i .u32 pt), (.i .u32 ps), (.sl pa l.length pc 0)]) rfl fun n1 H2 hN3 => ?_
  have hF4 := hN3.fr (fun _ => False)
  have hO5 := hO0.new hN3
  have hx_hO5 := hO5.next
  have hnm_n1 : n1 = H.next := hN3.1
  have hnx_H2 : H2.next = H.next + 1 := hN3.2.1
  have hlt_n1 : n1 < H2.next := by omega
  refine O_p (.b false) (r_mv rfl) ?_
  refine O_nil ?_
  refine C_seq ?_
  refine C_region ?_
  refine O_call (Ev_sp (v := (.b true)) rfl rfl ?_)
  refine O_p (.b true) (r_mv rfl) ?_
  refine O_nil ?_
  refine C_seq ?_
  refine C_seq ?_
  refine C_region ?_
  refine O_p (.p (some (n1, 5))) (r_fadd' rfl rfl) ?_
  refine O_p (.sl pa l.length pc 0) (r_ld rfl hN3.2.2.1 rfl) ?_
  refine O_p (.i .i64 (((l.length : Nat)) : Int)) (r_len rfl) ?_
  refine O_p (.b (decide (1500 < (((l.length : Nat)) : Int)))) (r_gtr rfl rfl) ?_
  refine O_p (.b (decide (1500 < (((l.length : Nat)) : Int)))) (r_mv rfl) ?_
  refine O_gx (e := (!(decide (1500 < (((l.length : Nat)) : Int))))) (v := (.sl ba b.length bc 0)) (wf rfl) (fun he => (r_mv rfl)) ?_
  refine O_gx (e := (!(decide (1500 < (((l.length : Nat)) : Int))))) (v := (.i .i64 (((b.length : Nat)) : Int))) (wf rfl) (fun he => (r_len (cond_pos he))) ?_
  refine O_gx (e := (!(decide (1500 < (((l.length : Nat)) : Int))))) (v := (.b (decide (1500 < (((b.length : Nat)) : Int))))) (wf rfl) (fun he => (r_gtr (cond_pos he) rfl)) ?_
  refine O_p (.b ((decide (1500 < (((l.length : Nat)) : Int))) || (decide (1500 < (((b.length : Nat)) : Int))))) (r_pick_or rfl rfl rfl rfl) ?_
  refine O_nil ?_
  refine C_cond (x := ((decide (1500 < (((l.length : Nat)) : Int))) || (decide (1500 < (((b.length : Nat)) : Int))))) rfl (fun hc6 => ?_) (fun hc6 => ?_)
  ·
    simp only [decide_eq_true_eq, decide_eq_false_iff_not, Bool.not_eq_true', Bool.not_eq_false', Bool.and_eq_true, Bool.or_eq_true, Bool.or_eq_false_iff, Bool.not_not] at hc6
    refine C_seq ?_
    refine C_region ?_
    refine O_p (.b true) (r_mv rfl) ?_
    refine O_p (.b true) (r_mv rfl) ?_
    refine O_nil ?_
    refine C_ret ?_
    refine nx_ret ?_
    exact ⟨.inr rfl, _, resL_one (r_tmp (v := .b true) rfl), rfl⟩
  ·
    simp only [decide_eq_true_eq, decide_eq_false_iff_not, Bool.not_eq_true', Bool.not_eq_false', Bool.and_eq_true, Bool.or_eq_true, Bool.or_eq_false_iff, Bool.not_not] at hc6
    refine C_skip ?_
    refine C_seq ?_
    refine C_region ?_
    refine O_p (.agg [(.b pm), (.i .u8 pk), (.i .u16 pq), (.i .u32 pt), (.i .u32 ps), (.sl pa l.length pc 0)]) (r_ldA rfl hN3.2.2.1 rfl) ?_
    refine O_call (Ev.mono (enc_ev h17 h26 h30 h31 h41 hO5.ok pm (by first | exact pk0 | omega) (by first | exact pk1 | omega) pq pt ps (by omega) (by omega) (.inl rfl) (phb.old hok hO5) (by first | omega | (simp only [List.length_take, List.length_drop, List.length_append, List.length_cons, List.length_nil, beN_len] <;> omega)) (by first | omega | (simp only [List.length_take, List.length_drop, List.length_append, List.length_cons, List.length_nil, beN_len] <;> omega)) (by first | omega | (simp only [List.length_take, List.length_drop, List.length_append, List.length_cons, List.length_nil, beN_len] <;> omega))) fun v7 H8 hq9 => ?_)
    obtain ⟨o10, rfl, hM11, hK12⟩ := hq9
    have hb13 := (hK12.keep _ (by omega)).trans hN3.2.2.1
    have hx_hK12 := hK12.next
    have hlt_n1 : n1 < H8.next := by omega
    have hO14 := hO5.trans hK12
    have hx_hO14 := hO14.next
    have hM15 := hM11.down (N := H.next) (by omega)
    have hel_o10 := enc_le pm pk pq pt ps l
    have hd16 : ¬ o10.nameOf n1 := fun hq => by have := hM11.new _ hq; omega
    refine O_p (.tup [o10, (.i .i64 (rightN pk l.length))]) (r_mv rfl) ?_
    refine O_p o10 (r_ext rfl rfl) ?_
    refine O_p (.i .i64 (rightN pk l.length)) (r_ext rfl rfl) ?_
    refine O_p o10 (r_mv rfl) ?_
    refine O_p (.i .i64 (rightN pk l.length)) (r_mv rfl) ?_
    refine O_nil ?_
    refine C_seq ?_
    refine C_region ?_
    refine O_p (.agg [(.b pm), (.i .u8 pk), (.i .u16 pq), (.i .u32 pt), (.i .u32 ps), (.sl pa l.length pc 0)]) (r_ldA rfl hb13 rfl) ?_
    refine O_call (Ev.mono (theirs_ev h19 hO14.ok pm (by first | exact pk0 | omega) (by first | exact pk1 | omega) pq pt ps (by omega) (by omega) (.inl rfl) (phb.old hok hO14) (by first | omega | (simp only [List.length_take, List.length_drop, List.length_append, List.length_cons, List.length_nil, beN_len] <;> omega)) (by first | omega | (simp only [List.length_take, List.length_drop, List.length_append, List.length_cons, List.length_nil, beN_len] <;> omega))) fun v17 H18 hq19 => ?_)
    obtain ⟨rfl, hK20⟩ := hq19
    have hb21 := (hK20.keep _ (by omega)).trans hb13
    have hx_hK20 := hK20.next
    have hlt_n1 : n1 < H18.next := by omega
    have hM22 := hM15.kp hK20
    have hO23 := hO14.trans hK20
    have hx_hO23 := hO23.next
    refine O_call (Ev.mono (renc_ev h18 h32 hO23.ok pm (by first | exact pk0 | omega) (by first | exact pk1 | omega) pq pt ps (by omega) (by omega) (.inl rfl) (phb.old hok hO23) (by first | omega | (simp only [List.length_take, List.length_drop, List.length_append, List.length_cons, List.length_nil, beN_len] <;> omega)) (by first | omega | (simp only [List.length_take, List.length_drop, List.length_append, List.length_cons, List.length_nil, beN_len] <;> omega)) (by first | omega | (simp only [List.length_take, List.length_drop, List.length_append, List.length_cons, List.length_nil, beN_len] <;> omega))) fun v24 H25 hq26 => ?_)
    obtain ⟨o27, rfl, hM28, hK29⟩ := hq26
    have hb30 := (hK29.keep _ (by omega)).trans hb21
    have hx_hK29 := hK29.next
    have hlt_n1 : n1 < H25.next := by omega
    have hM31 := hM22.kp hK29
    have hO32 := hO23.trans hK29
    have hx_hO32 := hO32.next
    have hM33 := hM28.down (N := H.next) (by omega)
    have hel_o27 := enc_le pm pk pq pt ps l
    have hd34 : ¬ o27.nameOf n1 := fun hq => by have := hM28.new _ hq; omega
    refine O_p (.tup [o27, (.i .i64 (rightN pk l.length))]) (r_mv rfl) ?_
    refine O_p o27 (r_ext rfl rfl) ?_
    refine O_p (.i .i64 (rightN pk l.length)) (r_ext rfl rfl) ?_
    refine O_p o27 (r_mv rfl) ?_
    refine O_p (.i .i64 (rightN pk l.length)) (r_mv rfl) ?_
    refine O_nil ?_
    refine C_seq ?_
    refine C_region ?_
    refine O_p (.sl ba b.length bc 0) (r_mv rfl) ?_
    refine O_call (Ev.mono (dec_ev h20 h27 h33 h34 h35 h36 h37 h38 h42 hO32.ok (.inl rfl) (bhb.old hok hO32) (by first | omega | (simp only [List.length_take, List.length_drop, List.length_append, List.length_cons, List.length_nil, beN_len] <;> omega)) (by first | omega | (simp only [List.length_take, List.length_drop, List.length_append, List.length_cons, List.length_nil, beN_len] <;> omega)) (by first | omega | (simp only [List.length_take, List.length_drop, List.length_append, List.length_cons, List.length_nil, beN_len] <;> omega))) fun v35 H36 hq37 => ?_)
    obtain ⟨dv47, rfl, hod46, hK45⟩ := hq37
    have hb48 := (hK45.keep _ (by omega)).trans hb30
    have hx_hK45 := hK45.next
    have hlt_n1 : n1 < H36.next := by omega
    have hM49 := hM31.kp hK45
    have hM50 := hM33.kp hK45
    have hO51 := hO32.trans hK45
    have hx_hO51 := hO51.next
    obtain ⟨da38, dc39, dg40, rfl, dhg41, dhc42, dhm43, dhb44⟩ := hod46
    have base52 := Old.refl hO51.ok
    have hdl_dv47 := dd_le b
    refine O_p (.tup [(.agg [(.b (dm b)), (.i .u8 (dk b)), (.i .u16 (dq b)), (.i .u32 (dt b)), (.i .u32 (ds b)), (.sl da38 (dd b).length dc39 dg40)]), (.i .i64 (decE b))]) (r_mv rfl) ?_
    refine O_p (.agg [(.b (dm b)), (.i .u8 (dk b)), (.i .u16 (dq b)), (.i .u32 (dt b)), (.i .u32 (ds b)), (.sl da38 (dd b).length dc39 dg40)]) (r_ext rfl rfl) ?_
    refine O_p (.i .i64 (decE b)) (r_ext rfl rfl) ?_
    refine O_alloc fun n53 H54 hN55 => ?_
    have hF56 := hN55.fr (fun _ => False)
    have hb57 := (hF56.keep _ (by exact hlt_n1) (fun h => h)).trans hb48
    have hM58 := hM49.anew hN55
    have hM59 := hM50.anew hN55
    have hO60 := hO51.new hN55
    have hx_hO60 := hO60.next
    have hO61 := base52.new hN55
    have hd62 : ¬ (o10 : AV).nameOf n53 := hM49.dis (by have := hN55.1; omega)
    have hd63 : ¬ (o27 : AV).nameOf n53 := hM50.dis (by have := hN55.1; omega)
    have hnm_n53 : n53 = H36.next := hN55.1
    have hnx_H54 : H54.next = H36.next + 1 := hN55.2.1
    have hlt_n1 : n1 < H54.next := by omega
    have hlt_n53 : n53 < H54.next := by omega
    refine O_store (vs := [(.b (dm b)), (.i .u8 (dk b)), (.i .u16 (dq b)), (.i .u32 (dt b)), (.i .u32 (ds b)), (.sl da38 (dd b).length dc39 dg40)]) (c' := [(.b (dm b)), (.i .u8 (dk b)), (.i .u16 (dq b)), (.i .u32 (dt b)), (.i .u32 (ds b)), (.sl da38 (dd b).length dc39 dg40)]) rfl (by rfl) hN55.2.2.1 rfl (List.cons_ne_nil _ _) (Nat.le_of_ble_eq_true rfl) rfl fun H64 hW65 => ?_
    have hb66 := (hW65.2.2 _ (by omega)).trans hb57
    have hM67 := hM58.wr hW65 hd62
    have hM68 := hM59.wr hW65 hd63
    have hO69 := hO60.wr hW65 (by omega) (by omega)
    have hx_hO69 := hO69.next
    have hO70 := hO61.wr hW65 (by omega) (by omega)
    have hnx_H64 : H64.next = H54.next := hW65.1
    have hlt_n1 : n1 < H64.next := by omega
    have hlt_n53 : n53 < H64.next := by omega
    refine O_p (.i .i64 (decE b)) (r_mv rfl) ?_
    refine O_nil ?_
    refine C_seq ?_
    refine C_region ?_
    refine O_p (.sl ba b.length bc 0) (r_mv rfl) ?_
    refine O_call (Ev.mono (rdec_ev h21 h39 hO69.ok (.inl rfl) (bhb.old hok hO69) (by first | omega | (simp only [List.length_take, List.length_drop, List.length_append, List.length_cons, List.length_nil, beN_len] <;> omega)) (by first | omega | (simp only [List.length_take, List.length_drop, List.length_append, List.length_cons, List.length_nil, beN_len] <;> omega)) (by first | omega | (simp only [List.length_take, List.length_drop, List.length_append, List.length_cons, List.length_nil, beN_len] <;> omega))) fun v71 H72 hq73 => ?_)
    obtain ⟨dv83, rfl, hod82, hK81⟩ := hq73
    have hb84 := (hK81.keep _ (by omega)).trans hb66
    have hb85 := (hK81.keep _ (by omega)).trans hW65.2.1
    have hx_hK81 := hK81.next
    have hlt_n1 : n1 < H72.next := by omega
    have hlt_n53 : n53 < H72.next := by omega
    have hM86 := hM67.kp hK81
    have hM87 := hM68.kp hK81
    have hO88 := hO69.trans hK81
    have hx_hO88 := hO88.next
    have hO89 := hO70.trans hK81
    obtain ⟨da74, dc75, dg76, rfl, dhg77, dhc78, dhm79, dhb80⟩ := hod82
    have base90 := Old.refl hO88.ok
    have hdl_dv83 := dd_le b
    refine O_p (.tup [(.agg [(.b (dm b)), (.i .u8 (dk b)), (.i .u16 (dq b)), (.i .u32 (dt b)), (.i .u32 (ds b)), (.sl da74 (dd b).length dc75 dg76)]), (.i .i64 (decE b))]) (r_mv rfl) ?_
    refine O_p (.agg [(.b (dm b)), (.i .u8 (dk b)), (.i .u16 (dq b)), (.i .u32 (dt b)), (.i .u32 (ds b)), (.sl da74 (dd b).length dc75 dg76)]) (r_ext rfl rfl) ?_
    refine O_p (.i .i64 (decE b)) (r_ext rfl rfl) ?_
    refine O_alloc fun n91 H92 hN93 => ?_
    have hF94 := hN93.fr (fun _ => False)
    have hb95 := (hF94.keep _ (by exact hlt_n1) (fun h => h)).trans hb84
    have hb96 := (hF94.keep _ (by exact hlt_n53) (fun h => h)).trans hb85
    have hM97 := hM86.anew hN93
    have hM98 := hM87.anew hN93
    have hO99 := hO88.new hN93
    have hx_hO99 := hO99.next
    have hO100 := hO89.new hN93
    have hO101 := base90.new hN93
    have hd102 : ¬ (o10 : AV).nameOf n91 := hM86.dis (by have := hN93.1; omega)
    have hd103 : ¬ (o27 : AV).nameOf n91 := hM87.dis (by have := hN93.1; omega)
    have hnm_n91 : n91 = H72.next := hN93.1
    have hnx_H92 : H92.next = H72.next + 1 := hN93.2.1
    have hlt_n1 : n1 < H92.next := by omega
    have hlt_n53 : n53 < H92.next := by omega
    have hlt_n91 : n91 < H92.next := by omega
    refine O_store (vs := [(.b (dm b)), (.i .u8 (dk b)), (.i .u16 (dq b)), (.i .u32 (dt b)), (.i .u32 (ds b)), (.sl da74 (dd b).length dc75 dg76)]) (c' := [(.b (dm b)), (.i .u8 (dk b)), (.i .u16 (dq b)), (.i .u32 (dt b)), (.i .u32 (ds b)), (.sl da74 (dd b).length dc75 dg76)]) rfl (by rfl) hN93.2.2.1 rfl (List.cons_ne_nil _ _) (Nat.le_of_ble_eq_true rfl) rfl fun H104 hW105 => ?_
    have hb106 := (hW105.2.2 _ (by omega)).trans hb95
    have hb107 := (hW105.2.2 _ (by omega)).trans hb96
    have hM108 := hM97.wr hW105 hd102
    have hM109 := hM98.wr hW105 hd103
    have hO110 := hO99.wr hW105 (by omega) (by omega)
    have hx_hO110 := hO110.next
    have hO111 := hO100.wr hW105 (by omega) (by omega)
    have hO112 := hO101.wr hW105 (by omega) (by omega)
    have hnx_H104 : H104.next = H92.next := hW105.1
    have hlt_n1 : n1 < H104.next := by omega
    have hlt_n53 : n53 < H104.next := by omega
    have hlt_n91 : n91 < H104.next := by omega
    refine O_p (.i .i64 (decE b)) (r_mv rfl) ?_
    refine O_nil ?_
    refine C_seq ?_
    refine C_region ?_
    refine O_p (.b true) (r_mv rfl) ?_
    refine O_p (.b true) (r_mv rfl) ?_
    refine O_gs (v := (.i .i64 (rightN pk l.length))) rfl (r_mv rfl) ?_
    refine O_gs (v := (.i .i64 (rightN pk l.length))) rfl (r_mv rfl) ?_
    refine O_gs (v := (.b true)) rfl (r_eqq rfl rfl) ?_
    refine O_p (.b true) (r_pick_t rfl rfl) ?_
    refine O_p (.b true) (r_mv rfl) ?_
    refine O_gs (v := o10) rfl (r_mv rfl) ?_
    refine O_gs (v := o27) rfl (r_mv rfl) ?_
    have hsf117 : Own 1 H104 o10 (bcells (enc pm pk pq pt ps l)) := hM108.own
    obtain ⟨oa113, og114, rfl, hog115, hob116⟩ := hsf117.bs
    have base118 := Old.refl hO110.ok
    have hsf123 : Own 1 H104 o27 (bcells (enc pm pk pq pt ps l)) := hM109.own
    obtain ⟨oa119, og120, rfl, hog121, hob122⟩ := hsf123.bs
    have base124 := Old.refl hO110.ok
    refine O_gcall rfl (Ev.mono (same_ev h14 hO110.ok hog115 (hM108.own.asbs) (by first | omega | (simp only [List.length_take, List.length_drop, List.length_append, List.length_cons, List.length_nil, beN_len] <;> omega)) (by first | omega | (simp only [List.length_take, List.length_drop, List.length_append, List.length_cons, List.length_nil, beN_len] <;> omega)) hog121 (hM109.own.asbs) (by first | omega | (simp only [List.length_take, List.length_drop, List.length_append, List.length_cons, List.length_nil, beN_len] <;> omega)) (by first | omega | (simp only [List.length_take, List.length_drop, List.length_append, List.length_cons, List.length_nil, beN_len] <;> omega))) fun v125 H126 hq127 => ?_)
    rw [show decide ((enc pm pk pq pt ps l) = (enc pm pk pq pt ps l)) = true from decide_eq_true rfl] at hq127
    obtain ⟨rfl, hq127⟩ := hq127
    subst H126
    refine O_p (.b true) (r_pick_t rfl rfl) ?_
    refine O_p (.b true) (r_mv rfl) ?_
    refine O_gs (v := (.i .i64 (decE b))) rfl (r_mv rfl) ?_
    refine O_gs (v := (.i .i64 (decE b))) rfl (r_mv rfl) ?_
    refine O_gs (v := (.b true)) rfl (r_eqq rfl rfl) ?_
    refine O_p (.b true) (r_pick_t rfl rfl) ?_
    refine O_p (.b true) (r_mv rfl) ?_
    refine O_gs (v := (.agg [(.b (dm b)), (.i .u8 (dk b)), (.i .u16 (dq b)), (.i .u32 (dt b)), (.i .u32 (ds b)), (.sl da38 (dd b).length dc39 dg40)])) rfl (r_ldA rfl hb107 rfl) ?_
    refine O_gs (v := (.agg [(.b (dm b)), (.i .u8 (dk b)), (.i .u16 (dq b)), (.i .u32 (dt b)), (.i .u32 (ds b)), (.sl da74 (dd b).length dc75 dg76)])) rfl (r_ldA rfl hW105.2.1 rfl) ?_
    refine O_gcall rfl (Ev.mono (alike_ev h14 h22 hO110.ok (dm b) (dk b) (dq b) (dt b) (ds b) dhg41 (dhb44.old hO51.ok hO111) (by first | omega | (simp only [List.length_take, List.length_drop, List.length_append, List.length_cons, List.length_nil, beN_len] <;> omega)) (by first | omega | (simp only [List.length_take, List.length_drop, List.length_append, List.length_cons, List.length_nil, beN_len] <;> omega)) (dm b) (dk b) (dq b) (dt b) (ds b) dhg77 (dhb80.old hO88.ok hO112) (by first | omega | (simp only [List.length_take, List.length_drop, List.length_append, List.length_cons, List.length_nil, beN_len] <;> omega)) (by first | omega | (simp only [List.length_take, List.length_drop, List.length_append, List.length_cons, List.length_nil, beN_len] <;> omega))) fun v128 H129 hq130 => ?_)
    rw [show (((((((dm b) == (dm b)) && (decide ((dk b) = (dk b)))) && (decide ((dq b) = (dq b)))) && (decide ((dt b) = (dt b)))) && (decide ((ds b) = (ds b)))) && (decide ((dd b) = (dd b)))) = true by simp only [beq_self_eq_true, decide_true, Bool.and_self]] at hq130
    obtain ⟨rfl, hK131⟩ := hq130
    have hb132 := (hK131.keep _ (by omega)).trans hb106
    have hb133 := (hK131.keep _ (by omega)).trans hb107
    have hb134 := (hK131.keep _ (by omega)).trans hW105.2.1
    have hx_hK131 := hK131.next
    have hlt_n1 : n1 < H129.next := by omega
    have hlt_n53 : n53 < H129.next := by omega
    have hlt_n91 : n91 < H129.next := by omega
    have hM135 := hM108.kp hK131
    have hM136 := hM109.kp hK131
    have hO137 := hO110.trans hK131
    have hx_hO137 := hO137.next
    have hO138 := hO111.trans hK131
    have hO139 := hO112.trans hK131
    have hO140 := base118.trans hK131
    have hO141 := base124.trans hK131
    refine O_p (.b true) (r_pick_t rfl rfl) ?_
    refine O_p (.b true) (r_mv rfl) ?_
    refine O_gs (v := (.sl ba b.length bc 0)) rfl (r_mv rfl) ?_
    refine O_gcall rfl (Ev.mono (is_ev h23 hO137.ok (.inl rfl) (bhb.old hok hO137) (by first | omega | (simp only [List.length_take, List.length_drop, List.length_append, List.length_cons, List.length_nil, beN_len] <;> omega)) (by first | omega | (simp only [List.length_take, List.length_drop, List.length_append, List.length_cons, List.length_nil, beN_len] <;> omega))) fun v142 H143 hq144 => ?_)
    obtain ⟨rfl, hq144⟩ := hq144
    subst H143
    refine O_gs (v := (.sl ba b.length bc 0)) rfl (r_mv rfl) ?_
    refine O_gs (v := (.i .i64 (((b.length : Nat)) : Int))) rfl (r_len rfl) ?_
    refine O_gs (v := (.b (decide (0 < (((b.length : Nat)) : Int))))) rfl (r_gtr rfl rfl) ?_
    refine O_gs (v := (.b (decide (0 < (((b.length : Nat)) : Int))))) rfl (r_mv rfl) ?_
    refine O_gx (e := (decide (0 < (((b.length : Nat)) : Int)))) (v := (.sl ba b.length bc 0)) (wt rfl) (fun he => (r_mv rfl)) ?_
    refine O_gq (e := (decide (0 < (((b.length : Nat)) : Int)))) (wt rfl) (fun he => by exact Bs.ix (bhb.old hok hO137) (by exact (cond_pos he)) (i := 0) (by exact rfl) (by simp only [decide_eq_true_eq, Bool.and_eq_true] at he; omega)) fun v145 hv146 => ?_
    refine O_gx (e := (decide (0 < (((b.length : Nat)) : Int)))) (v := (.i .u8 ((b.getD 0 0).toNat : Int))) (wt rfl) (fun he => ((hv146 he).load (cond_pos he))) ?_
    refine O_gx (e := (decide (0 < (((b.length : Nat)) : Int)))) (v := (.i .u8 (((b.getD 0 0).toNat : Int) / 64))) (wt rfl) (fun he => (by exact (r_quou (cond_pos he) rfl (by omega) (by omega) (by have hlt := UInt8.toNat_lt (b.getD 0 0); rw [wrap_u8]; omega)))) ?_
    refine O_gx (e := (decide (0 < (((b.length : Nat)) : Int)))) (v := (.b (decide ((((b.getD 0 0).toNat : Int) / 64) = 2)))) (wt rfl) (fun he => (r_eql (cond_pos he) rfl)) ?_
    refine O_gs (v := (.b ((decide (0 < (((b.length : Nat)) : Int))) && (decide ((((b.getD 0 0).toNat : Int) / 64) = 2))))) rfl (r_pick_and rfl rfl rfl rfl) ?_
    refine O_gs (v := (.b (((decide (0 < (((b).length : Nat) : Int)) && decide (128 ≤ (((b).getD 0 0).toNat : Int))) && decide ((((b).getD 0 0).toNat : Int) ≤ 191)) == ((decide (0 < (((b.length : Nat)) : Int))) && (decide ((((b.getD 0 0).toNat : Int) / 64) = 2)))))) rfl (r_beq rfl rfl) ?_
    refine O_p (.b (((decide (0 < (((b).length : Nat) : Int)) && decide (128 ≤ (((b).getD 0 0).toNat : Int))) && decide ((((b).getD 0 0).toNat : Int) ≤ 191)) == ((decide (0 < (((b.length : Nat)) : Int))) && (decide ((((b.getD 0 0).toNat : Int) / 64) = 2))))) (r_pick_t rfl rfl) ?_
    refine O_p (.b (((decide (0 < (((b).length : Nat) : Int)) && decide (128 ≤ (((b).getD 0 0).toNat : Int))) && decide ((((b).getD 0 0).toNat : Int) ≤ 191)) == ((decide (0 < (((b.length : Nat)) : Int))) && (decide ((((b.getD 0 0).toNat : Int) / 64) = 2))))) (r_mv rfl) ?_
    refine O_nil ?_
    refine C_ret ?_
    exact ⟨.inr rfl, _, resL_one (r_tmp (v := (.b (((decide (0 < (((b).length : Nat) : Int)) && decide (128 ≤ (((b).getD 0 0).toNat : Int))) && decide ((((b).getD 0 0).toNat : Int) ≤ 191)) == ((decide (0 < (((b.length : Nat)) : Int))) && (decide ((((b.getD 0 0).toNat : Int) / 64) = 2)))))) rfl), by rw [Bool.and_assoc, is_byte, beq_self_eq_true]; rfl⟩
theorem law6 (W : World) (ρ : Rho) (H : AH) (xs : List AV) (args : Array Value) (hR : Rel Try.prog W.heap.size W ρ H W) (hro : RO H) (hv : VRL ρ xs args.toList) (ht : TypedVs Try.prog H 9 Try.f6.params.toList xs) :
    Calls Try.prog 6 args W fun e w' => e = .returned (.bool true) ∧ Below W.heap.size W w' := by
  rw [Try.params6] at ht
  obtain ⟨a1, xs, rfl, h1, a2, xs, rfl, h2, rfl⟩ := ht
  obtain ⟨l, rfl, h3⟩ := typedV_struct Try.underlying33 h1
  obtain ⟨hl, hq⟩ := struct_parts (qs := [(4, 0, 1), (5, 1, 1), (22, 2, 1), (30, 3, 1), (30, 4, 1), (31, 5, 1)]) Try.underlying33 h3 (by kernel_rfl)
  rw [show Try.prog.cellsOf 33 = 6 by kernel_rfl] at hl
  match l, hl with
  | [x0, x1, x2, x3, x4, x5], _ =>
    simp only [List.forall_mem_cons, List.drop_zero, List.drop_succ_cons, List.take_succ_cons, List.take_zero] at hq
    obtain ⟨q0, q1, q2, q3, q4, q5, _⟩ := hq
    obtain ⟨pm, e0⟩ := typed_bool Try.underlying4 q0
    obtain ⟨pk, e1, w1⟩ := typed_int Try.underlying5 q1
    obtain ⟨pq, e2, w2⟩ := typed_int Try.underlying22 q2
    obtain ⟨pt, e3, w3⟩ := typed_int Try.underlying30 q3
    obtain ⟨ps, e4, w4⟩ := typed_int Try.underlying30 q4
    cases e0; cases e1; cases e2; cases e3; cases e4
    obtain ⟨pa, pn, pc, l, rfl, hb1, rfl, hc1, hm1⟩ := typed_bytes Try.underlying31 Try.underlying5 (by kernel_rfl) q5
    obtain ⟨ba, bn, bc, b, rfl, hb2, rfl, hc2, hm2⟩ := typed_bytes Try.underlying31 Try.underlying5 (by kernel_rfl) (typedV_slice Try.underlying31 h2)
    obtain ⟨k, v, H', hex, rfl⟩ := run6 H hR.aok pm pk w1 pq w2 pt w3 ps w4 pa pc l hb1 hc1 hm1 ba bc b hb2 hc2 hm2
    exact law_of mixed tabA_ok spA_ok hex hR hv
end Go.Proofs.Ythmiglahfkfcaaa.E
namespace Go.Proofs.Ythmiglahfkfcaaa.audioCodes
open Go.ChangeShapes Go.WideShapes Go.RowKit
set_option linter.unusedVariables false
theorem own : ownKnob Try.prog.godebug = none := by kernel_rfl
theorem types : (Try.f6.params.toList.all fun t => E.fit Try.prog 9 t && (Try.prog.readableRec t && decide (t < Try.prog.types.size))) = true := by kernel_rfl
set_option maxRecDepth 100000 in
theorem lifted (os : Os) (started : os.Started) (H : Type) (enc : TypeId × Value → H) :
    ReturnsInHanded {} Try.checked os 6 .any (Rows.audioCodesSpec.pre6 enc Try.prog Try.f6 Rows.audioCodesRow.domain false) (Rows.audioCodesSpec.post enc Try.prog Try.f6 false true false false) :=
  E.law_lifted (C := Try.checked) (k := 9) (tb := 4) E.globals0 E.laid own started (by kernel_rfl) Try.func6
    (ChangeSpec.witness6 (enc := enc) (C := Try.checked) false ⟨#[], #[.agg #[.bool false, .int .u8 0, .int .u16 0, .int .u32 0, .int .u32 0, .slice none 0 0], .slice none 0 0], []⟩ 8 (by kernel_rfl) (by kernel_rfl) (by kernel_rfl) (by kernel_rfl))
    rfl rfl Try.underlying4 (fun t ht => by have h := List.all_eq_true.1 types t ht; simp only [Bool.and_eq_true, decide_eq_true_eq] at h; exact h)
    (fun ds hd => by
      rw [Try.params6] at hd
      match ds, hd with
      | [d0, d1], _ => rfl) E.law6
theorem over : Rows.audioCodesRow.holds Try.pinned (OpenSpec.ofChange Rows.audioCodesSpec) :=
  OpenClaim.holds_of_wide 6 Try.f6 rfl rfl rfl rfl rfl rfl rfl ⟨rfl, rfl, rfl, rfl, rfl⟩ rfl rfl rfl rfl rfl (by kernel_rfl) Try.func6 (by kernel_rfl)
    (of_decide_eq_true (by kernel_rfl)) (by unfold Func.isWrapper; first | (rw [if_pos (by decide +kernel)]; kernel_rfl) | (rw [if_neg (by decide +kernel)]; exact ⟨rfl, rfl⟩))
    (fun os started H enc _ => lifted os started H enc)
end Go.Proofs.Ythmiglahfkfcaaa.audioCodes
namespace Go.Proofs.Ythmiglahfkfcaaa
/-- The row, under a short name, for the claim. -/
theorem audioCodes_holds : Rows.AudioCodesSaid := audioCodes.over
#print axioms audioCodes_holds
end Go.Proofs.Ythmiglahfkfcaaa
