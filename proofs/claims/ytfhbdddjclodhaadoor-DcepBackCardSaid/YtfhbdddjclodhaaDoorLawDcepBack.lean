/- DcepBack, for every input, without conditions. -/
import Derived.Test.YtfhbdddjclodhaaDoorF
namespace Go.Proofs.YtfhbdddjclodhaaDoor.E
open Go.RowKit (Below)
open Go.Lib
set_option linter.unusedVariables false
set_option linter.unusedSimpArgs false
set_option maxRecDepth 100000 in
set_option maxHeartbeats 1000000 in
theorem run5tt (H : AH) (hok : H.Ok) (htb : Tb H) (kind prio limit : Int) (label proto : List UInt8) (hk : 0 ≤ kind ∧ kind < 256) (hp : 0 ≤ prio ∧ prio < 65536) (hl : 0 ≤ limit ∧ limit < 4294967296) (hll : label.length ≤ maxLen) (hpl : proto.length ≤ maxLen) (ba : Option (Nat × Nat)) (bc : Nat) (b : List UInt8) (bhb : Bs H (.sl ba b.length bc 0) b) (bhc : b.length ≤ bc) (bhm0 : bc ≤ maxLen) (hE : encE kind label proto = 0) (hD : dErr b = 0) : Ev tabV spV (.fn (.func 5) [] []) [.agg [(.i .u8 kind), (.i .u16 prio), (.i .u32 limit), (.s (txt label)), (.s (txt proto))], .sl ba b.length bc 0] H (fun v _ => v = .b true) := by
  refine Ev_C (F := x5) rfl ?_
  have hO0 := Old.refl hok
  have hll' := hll
  have hpl' := hpl
  have hMx : maxLen ≤ 9223372036854775807 := by decide
  replace hll := Nat.le_trans hll hMx
  replace hpl := Nat.le_trans hpl hMx
  have hel := encR_len kind prio limit label proto
  have bhm : bc ≤ 9223372036854775807 := bhm0
  have hdr := d_rng b
  have hbl := encB_len kind prio limit label proto
  have hE0 := encE_0 hE
  refine C_seq ?_
  refine C_region ?_
  refine O_box (z := [(.i .u8 kind), (.i .u16 prio), (.i .u32 limit), (.s (txt label)), (.s (txt proto))]) rfl fun n1 H2 hN3 => ?_
  have hF4 := hN3.fr (fun _ => False)
  have hO5 := hO0.new hN3
  have hx_hO5 := hO5.next
  have hnm_n1 : n1 = H.next := hN3.1
  have hnx_H2 : H2.next = H.next + 1 := hN3.2.1
  have hlt_n1 : n1 < H2.next := by omega
  refine O_p (.b false) (r_mv rfl) ?_
  refine O_nil ?_
  refine C_seq ?_
  refine C_region ?_
  refine O_call (Ev.mono (awake_ev (htb.kp hok hO5)) fun v6 H7 hq8 => ?_)
  obtain ⟨rfl, hq8⟩ := hq8
  subst H7
  refine O_p (.b true) (r_mv rfl) ?_
  refine O_nil ?_
  refine C_seq ?_
  refine C_seq ?_
  refine C_region ?_
  refine O_p (.p (some (n1, 3))) (r_fadd' rfl rfl) ?_
  refine O_p (.s (txt label)) (r_ld rfl hN3.2.2.1 rfl) ?_
  refine O_p (.i .i64 ((((label).length : Nat)) : Int)) (r_lent (l := label) rfl) ?_
  refine O_p (.b (decide (1000 < ((((label).length : Nat)) : Int)))) (r_gtr rfl rfl) ?_
  refine O_p (.b (decide (1000 < ((((label).length : Nat)) : Int)))) (r_mv rfl) ?_
  refine O_gx (e := (!(decide (1000 < ((((label).length : Nat)) : Int))))) (v := (.p (some (n1, 4)))) (wf rfl) (fun he => (r_fadd' rfl rfl)) ?_
  refine O_gx (e := (!(decide (1000 < ((((label).length : Nat)) : Int))))) (v := (.s (txt proto))) (wf rfl) (fun he => (r_ld (cond_pos he) hN3.2.2.1 rfl)) ?_
  refine O_gx (e := (!(decide (1000 < ((((label).length : Nat)) : Int))))) (v := (.i .i64 ((((proto).length : Nat)) : Int))) (wf rfl) (fun he => (r_lent (l := proto) (cond_pos he))) ?_
  refine O_gx (e := (!(decide (1000 < ((((label).length : Nat)) : Int))))) (v := (.b (decide (1000 < ((((proto).length : Nat)) : Int))))) (wf rfl) (fun he => (r_gtr (cond_pos he) rfl)) ?_
  refine O_p (.b ((decide (1000 < ((((label).length : Nat)) : Int))) || (decide (1000 < ((((proto).length : Nat)) : Int))))) (r_pick_or rfl rfl rfl rfl) ?_
  refine O_p (.b ((decide (1000 < ((((label).length : Nat)) : Int))) || (decide (1000 < ((((proto).length : Nat)) : Int))))) (r_mv rfl) ?_
  refine O_gx (e := (!((decide (1000 < ((((label).length : Nat)) : Int))) || (decide (1000 < ((((proto).length : Nat)) : Int)))))) (v := (.sl ba b.length bc 0)) (wf rfl) (fun he => (r_mv rfl)) ?_
  refine O_gx (e := (!((decide (1000 < ((((label).length : Nat)) : Int))) || (decide (1000 < ((((proto).length : Nat)) : Int)))))) (v := (.i .i64 (((b.length : Nat)) : Int))) (wf rfl) (fun he => (r_len (cond_pos he))) ?_
  refine O_gx (e := (!((decide (1000 < ((((label).length : Nat)) : Int))) || (decide (1000 < ((((proto).length : Nat)) : Int)))))) (v := (.b (decide (1000 < (((b.length : Nat)) : Int))))) (wf rfl) (fun he => (r_gtr (cond_pos he) rfl)) ?_
  refine O_p (.b (((decide (1000 < ((((label).length : Nat)) : Int))) || (decide (1000 < ((((proto).length : Nat)) : Int)))) || (decide (1000 < (((b.length : Nat)) : Int))))) (r_pick_or rfl rfl rfl rfl) ?_
  refine O_nil ?_
  refine C_cond (x := (((decide (1000 < ((((label).length : Nat)) : Int))) || (decide (1000 < ((((proto).length : Nat)) : Int)))) || (decide (1000 < (((b.length : Nat)) : Int))))) rfl (fun hc9 => ?_) (fun hc9 => ?_)
  ·
    simp only [decide_eq_true_eq, decide_eq_false_iff_not, Bool.not_eq_true', Bool.not_eq_false', Bool.and_eq_true, Bool.or_eq_true, Bool.or_eq_false_iff, Bool.not_not] at hc9
    refine C_seq ?_
    refine C_region ?_
    refine O_p (.b true) (r_mv rfl) ?_
    refine O_p (.b true) (r_mv rfl) ?_
    refine O_nil ?_
    refine C_ret ?_
    refine nx_ret ?_
    exact ⟨.inr rfl, _, resL_one (r_tmp (v := .b true) rfl), rfl⟩
  ·
    simp only [decide_eq_true_eq, decide_eq_false_iff_not, Bool.not_eq_true', Bool.not_eq_false', Bool.and_eq_true, Bool.or_eq_true, Bool.or_eq_false_iff, Bool.not_not] at hc9
    refine C_skip ?_
    refine C_seq ?_
    refine C_region ?_
    refine O_p (.agg [(.i .u8 kind), (.i .u16 prio), (.i .u32 limit), (.s (txt label)), (.s (txt proto))]) (r_ldA rfl hN3.2.2.1 rfl) ?_
    refine O_call (Ev.mono (enc_ev hO5.ok (htb.kp hok hO5) kind prio limit label proto hk hp hl hll hpl) fun v10 H11 hq12 => ?_)
    rw [hE, encR_ok hE] at hq12
    obtain ⟨o13, rfl, hM14, hK15⟩ := hq12
    have hb16 := (hK15.keep _ (by omega)).trans hN3.2.2.1
    have hx_hK15 := hK15.next
    have hlt_n1 : n1 < H11.next := by omega
    have hO17 := hO5.trans hK15
    have hx_hO17 := hO17.next
    have hM18 := hM14.down (N := H.next) (by omega)
    have hd19 : ¬ o13.nameOf n1 := fun hq => by have := hM14.new _ hq; omega
    refine O_p (.tup [o13, (.i .i64 0)]) (r_mv rfl) ?_
    refine O_p o13 (r_ext rfl rfl) ?_
    refine O_p (.i .i64 0) (r_ext rfl rfl) ?_
    refine O_p o13 (r_mv rfl) ?_
    refine O_p (.i .i64 0) (r_mv rfl) ?_
    refine O_nil ?_
    refine C_seq ?_
    refine C_region ?_
    refine O_p o13 (r_mv rfl) ?_
    have hsf24 : Own 1 H11 o13 (bcells (encB kind prio limit label proto)) := hM18.own
    obtain ⟨oa20, og21, rfl, hog22, hob23⟩ := hsf24.bs
    have base25 := Old.refl hO17.ok
    refine O_call (Ev.mono (dec_ev hO17.ok (htb.kp hok hO17) hog22 (hM18.own.asbs) (by first | omega | (simp only [List.length_take, List.length_drop, List.length_append, List.length_cons, List.length_nil, beN_len] <;> omega)) (by first | omega | (simp only [List.length_take, List.length_drop, List.length_append, List.length_cons, List.length_nil, beN_len] <;> omega)) (by first | omega | (simp only [List.length_take, List.length_drop, List.length_append, List.length_cons, List.length_nil, beN_len] <;> omega))) fun v26 H27 hq28 => ?_)
    rw [(dec_enc hk hp hl hE).2, (dec_enc hk hp hl hE).1] at hq28
    obtain ⟨rfl, hK29⟩ := hq28
    have hb30 := (hK29.keep _ (by omega)).trans hb16
    have hx_hK29 := hK29.next
    have hlt_n1 : n1 < H27.next := by omega
    have hM31 := hM18.kp hK29
    have hO32 := hO17.trans hK29
    have hx_hO32 := hO32.next
    have hO33 := base25.trans hK29
    refine O_p (.tup [(.agg [(.i .u8 kind), (.i .u16 prio), (.i .u32 limit), (.s (txt label)), (.s (txt proto))]), (.i .i64 0)]) (r_mv rfl) ?_
    refine O_p (.agg [(.i .u8 kind), (.i .u16 prio), (.i .u32 limit), (.s (txt label)), (.s (txt proto))]) (r_ext rfl rfl) ?_
    refine O_p (.i .i64 0) (r_ext rfl rfl) ?_
    refine O_alloc fun n34 H35 hN36 => ?_
    have hF37 := hN36.fr (fun _ => False)
    have hb38 := (hF37.keep _ (by exact hlt_n1) (fun h => h)).trans hb30
    have hM39 := hM31.anew hN36
    have hO40 := hO32.new hN36
    have hx_hO40 := hO40.next
    have hO41 := hO33.new hN36
    have hd42 : ¬ ((.sl oa20 ((encB kind prio limit label proto)).length ((encB kind prio limit label proto)).length og21) : AV).nameOf n34 := hM31.dis (by have := hN36.1; omega)
    have hnm_n34 : n34 = H27.next := hN36.1
    have hnx_H35 : H35.next = H27.next + 1 := hN36.2.1
    have hlt_n1 : n1 < H35.next := by omega
    have hlt_n34 : n34 < H35.next := by omega
    refine O_store (vs := [(.i .u8 kind), (.i .u16 prio), (.i .u32 limit), (.s (txt label)), (.s (txt proto))]) (c' := [(.i .u8 kind), (.i .u16 prio), (.i .u32 limit), (.s (txt label)), (.s (txt proto))]) rfl (by rfl) hN36.2.2.1 rfl (List.cons_ne_nil _ _) (Nat.le_of_ble_eq_true rfl) rfl fun H43 hW44 => ?_
    have hb45 := (hW44.2.2 _ (by omega)).trans hb38
    have hM46 := hM39.wr hW44 hd42
    have hO47 := hO40.wr hW44 (by omega) (by omega)
    have hx_hO47 := hO47.next
    have hO48 := hO41.wr hW44 (by omega) (by omega)
    have hnx_H43 : H43.next = H35.next := hW44.1
    have hlt_n1 : n1 < H43.next := by omega
    have hlt_n34 : n34 < H43.next := by omega
    refine O_p (.i .i64 0) (r_mv rfl) ?_
    refine O_nil ?_
    refine C_seq ?_
    refine C_seq ?_
    refine C_draw fun b49 H50 hbase51 hA52 => ?_
    have hnx53 : H50.next = H43.next + 13 := hA52.1
    have hb54 := (hA52.2 _).trans hb45
    have hb55 := (hA52.2 _).trans hW44.2.1
    have hF56 := hA52.fr (fun _ => False)
    have hM57 := hM46.aside hA52
    have hO58 := hO47.aside hA52
    have hx_hO58 := hO58.next
    have hO59 := hO48.aside hA52
    have hlt_n1 : n1 < H50.next := by omega
    have hlt_n34 : n34 < H50.next := by omega
    refine D_l (v := (.i .i64 0)) rfl rfl rfl (r_mv rfl) ?_
    refine D_l (v := (.b true)) rfl rfl rfl (r_bin rfl rfl rfl) ?_
    refine D_l (v := (.b true)) rfl rfl rfl (r_mv rfl) ?_
    refine D_gl (v := (.i .i64 0)) rfl rfl rfl rfl (r_mv rfl) ?_
    refine D_gl (v := (.b false)) rfl rfl rfl rfl (r_bin rfl rfl rfl) ?_
    refine D_gl (v := (.b false)) rfl rfl rfl rfl (r_mv rfl) ?_
    refine D_gr (v := (.agg [(.i .u8 kind), (.i .u16 prio), (.i .u32 limit), (.s (txt label)), (.s (txt proto))])) rfl rfl rfl rfl (r_ldA rfl hb55 rfl) ?_
    refine D_gr (v := (.agg [(.i .u8 kind), (.i .u16 prio), (.i .u32 limit), (.s (txt label)), (.s (txt proto))])) rfl rfl rfl rfl (r_ldA rfl hb54 rfl) ?_
    refine D_gcall rfl (Ev.mono (theirs_ev hO58.ok kind prio limit label proto) fun v60 H61 hq62 => ?_)
    obtain ⟨rfl, hK63⟩ := hq62
    have hb64 := (hK63.keep _ (by omega)).trans hb54
    have hb65 := (hK63.keep _ (by omega)).trans hb55
    have hx_hK63 := hK63.next
    have hlt_n1 : n1 < H61.next := by omega
    have hlt_n34 : n34 < H61.next := by omega
    have hM66 := hM57.kp hK63
    have hO67 := hO58.trans hK63
    have hx_hO67 := hO67.next
    have hO68 := hO59.trans hK63
    refine And.intro (And.intro (Or.inl rfl) (And.intro (Or.inr (look_run rfl rfl (r_ldA rfl hb65 rfl))) True.intro)) ?_
    refine D_gcall rfl (Ev.mono (alike_ev hO67.ok kind prio limit label proto) fun v69 H70 hq71 => ?_)
    obtain ⟨rfl, hK72⟩ := hq71
    have hb73 := (hK72.keep _ (by omega)).trans hb64
    have hb74 := (hK72.keep _ (by omega)).trans hb65
    have hx_hK72 := hK72.next
    have hlt_n1 : n1 < H70.next := by omega
    have hlt_n34 : n34 < H70.next := by omega
    have hM75 := hM66.kp hK72
    have hO76 := hO67.trans hK72
    have hx_hO76 := hO76.next
    have hO77 := hO68.trans hK72
    refine And.intro (And.intro (Or.inl rfl) True.intro) ?_
    refine D_gl (v := (.b false)) rfl rfl rfl rfl (r_un rfl rfl) ?_
    refine D_gl (v := (.b false)) rfl rfl rfl rfl (r_pick_f rfl rfl) ?_
    refine D_l (v := (.b false)) rfl rfl rfl (r_pick_t rfl rfl) ?_
    refine D_nil ?_
    refine C_cond (x := false) rfl (fun h => by cases h) (fun _ => ?_)
    refine C_skip ?_
    refine C_seq ?_
    refine C_region ?_
    refine O_p (.sl ba b.length bc 0) (r_mv rfl) ?_
    refine O_call (Ev.mono (dec_ev hO76.ok (htb.kp hok hO76) (.inl rfl) (bhb.old hok hO76) (by first | omega | (simp only [List.length_take, List.length_drop, List.length_append, List.length_cons, List.length_nil, beN_len] <;> omega)) (by first | omega | (simp only [List.length_take, List.length_drop, List.length_append, List.length_cons, List.length_nil, beN_len] <;> omega)) (by first | omega | (simp only [List.length_take, List.length_drop, List.length_append, List.length_cons, List.length_nil, beN_len] <;> omega))) fun v78 H79 hq80 => ?_)
    rw [hD] at hq80
    obtain ⟨rfl, hK81⟩ := hq80
    have hb82 := (hK81.keep _ (by omega)).trans hb73
    have hb83 := (hK81.keep _ (by omega)).trans hb74
    have hx_hK81 := hK81.next
    have hlt_n1 : n1 < H79.next := by omega
    have hlt_n34 : n34 < H79.next := by omega
    have hM84 := hM75.kp hK81
    have hO85 := hO76.trans hK81
    have hx_hO85 := hO85.next
    have hO86 := hO77.trans hK81
    refine O_p (.tup [(.agg [(.i .u8 (dK b)), (.i .u16 (dP b)), (.i .u32 (dL b)), (.s (txt (dT b))), (.s (txt (dO b)))]), (.i .i64 0)]) (r_mv rfl) ?_
    refine O_p (.agg [(.i .u8 (dK b)), (.i .u16 (dP b)), (.i .u32 (dL b)), (.s (txt (dT b))), (.s (txt (dO b)))]) (r_ext rfl rfl) ?_
    refine O_p (.i .i64 0) (r_ext rfl rfl) ?_
    refine O_alloc fun n87 H88 hN89 => ?_
    have hF90 := hN89.fr (fun _ => False)
    have hb91 := (hF90.keep _ (by exact hlt_n1) (fun h => h)).trans hb82
    have hb92 := (hF90.keep _ (by exact hlt_n34) (fun h => h)).trans hb83
    have hM93 := hM84.anew hN89
    have hO94 := hO85.new hN89
    have hx_hO94 := hO94.next
    have hO95 := hO86.new hN89
    have hd96 : ¬ ((.sl oa20 ((encB kind prio limit label proto)).length ((encB kind prio limit label proto)).length og21) : AV).nameOf n87 := hM84.dis (by have := hN89.1; omega)
    have hnm_n87 : n87 = H79.next := hN89.1
    have hnx_H88 : H88.next = H79.next + 1 := hN89.2.1
    have hlt_n1 : n1 < H88.next := by omega
    have hlt_n34 : n34 < H88.next := by omega
    have hlt_n87 : n87 < H88.next := by omega
    refine O_store (vs := [(.i .u8 (dK b)), (.i .u16 (dP b)), (.i .u32 (dL b)), (.s (txt (dT b))), (.s (txt (dO b)))]) (c' := [(.i .u8 (dK b)), (.i .u16 (dP b)), (.i .u32 (dL b)), (.s (txt (dT b))), (.s (txt (dO b)))]) rfl (by rfl) hN89.2.2.1 rfl (List.cons_ne_nil _ _) (Nat.le_of_ble_eq_true rfl) rfl fun H97 hW98 => ?_
    have hb99 := (hW98.2.2 _ (by omega)).trans hb91
    have hb100 := (hW98.2.2 _ (by omega)).trans hb92
    have hM101 := hM93.wr hW98 hd96
    have hO102 := hO94.wr hW98 (by omega) (by omega)
    have hx_hO102 := hO102.next
    have hO103 := hO95.wr hW98 (by omega) (by omega)
    have hnx_H97 : H97.next = H88.next := hW98.1
    have hlt_n1 : n1 < H97.next := by omega
    have hlt_n34 : n34 < H97.next := by omega
    have hlt_n87 : n87 < H97.next := by omega
    refine O_p (.i .i64 0) (r_mv rfl) ?_
    refine O_nil ?_
    refine C_seq ?_
    refine C_region ?_
    refine O_p (.agg [(.i .u8 (dK b)), (.i .u16 (dP b)), (.i .u32 (dL b)), (.s (txt (dT b))), (.s (txt (dO b)))]) (r_ldA rfl hW98.2.1 rfl) ?_
    refine O_call (Ev.mono (enc_ev hO102.ok (htb.kp hok hO102) (dK b) (dP b) (dL b) (dT b) (dO b) hdr.1 hdr.2.1 hdr.2.2.1 (by omega) (by omega)) fun v104 H105 hq106 => ?_)
    rw [(enc_dec hD).1, (enc_dec hD).2] at hq106
    obtain ⟨o107, rfl, hM108, hK109⟩ := hq106
    have hb110 := (hK109.keep _ (by omega)).trans hb99
    have hb111 := (hK109.keep _ (by omega)).trans hb100
    have hb112 := (hK109.keep _ (by omega)).trans hW98.2.1
    have hx_hK109 := hK109.next
    have hlt_n1 : n1 < H105.next := by omega
    have hlt_n34 : n34 < H105.next := by omega
    have hlt_n87 : n87 < H105.next := by omega
    have hM113 := hM101.kp hK109
    have hO114 := hO102.trans hK109
    have hx_hO114 := hO114.next
    have hO115 := hO103.trans hK109
    have hM116 := hM108.down (N := H.next) (by omega)
    have hd117 : ¬ o107.nameOf n1 := fun hq => by have := hM108.new _ hq; omega
    have hd118 : ¬ o107.nameOf n34 := fun hq => by have := hM108.new _ hq; omega
    have hd119 : ¬ o107.nameOf n87 := fun hq => by have := hM108.new _ hq; omega
    refine O_p (.tup [o107, (.i .i64 0)]) (r_mv rfl) ?_
    refine O_p o107 (r_ext rfl rfl) ?_
    refine O_p (.i .i64 0) (r_ext rfl rfl) ?_
    refine O_p o107 (r_mv rfl) ?_
    refine O_p (.i .i64 0) (r_mv rfl) ?_
    refine O_nil ?_
    refine C_seq ?_
    refine C_region ?_
    refine O_p (.b true) (r_mv rfl) ?_
    refine O_p (.b true) (r_mv rfl) ?_
    refine O_gs (v := (.i .i64 0)) rfl (r_mv rfl) ?_
    refine O_gs (v := (.b true)) rfl (r_bin rfl rfl rfl) ?_
    refine O_gs (v := (.b true)) rfl (r_mv rfl) ?_
    refine O_gf rfl ?_
    refine O_gf rfl ?_
    refine O_gf rfl ?_
    refine O_gs (v := (.b true)) rfl (r_pick_t rfl rfl) ?_
    refine O_p (.b true) (r_pick_t rfl rfl) ?_
    refine O_p (.b true) (r_mv rfl) ?_
    refine O_gs (v := (.i .i64 0)) rfl (r_mv rfl) ?_
    refine O_gs (v := (.b false)) rfl (r_bin rfl rfl rfl) ?_
    refine O_gs (v := (.b false)) rfl (r_mv rfl) ?_
    refine O_gs (v := (.i .i64 0)) rfl (r_mv rfl) ?_
    refine O_gs (v := (.b true)) rfl (r_bin rfl rfl rfl) ?_
    refine O_gs (v := (.b true)) rfl (r_mv rfl) ?_
    refine O_gs (v := o107) rfl (r_mv rfl) ?_
    refine O_gs (v := (.sl ba b.length bc 0)) rfl (r_mv rfl) ?_
    have hsf124 : Own 1 H105 o107 (bcells b) := hM116.own
    obtain ⟨oa120, og121, rfl, hog122, hob123⟩ := hsf124.bs
    have base125 := Old.refl hO114.ok
    refine O_gcall rfl (Ev.mono (same_ev hO114.ok hog122 (hM116.own.asbs) (by first | omega | (simp only [List.length_take, List.length_drop, List.length_append, List.length_cons, List.length_nil, beN_len] <;> omega)) (by first | omega | (simp only [List.length_take, List.length_drop, List.length_append, List.length_cons, List.length_nil, beN_len] <;> omega)) (.inl rfl) (bhb.old hok hO114) (by first | omega | (simp only [List.length_take, List.length_drop, List.length_append, List.length_cons, List.length_nil, beN_len] <;> omega)) (by first | omega | (simp only [List.length_take, List.length_drop, List.length_append, List.length_cons, List.length_nil, beN_len] <;> omega))) fun v126 H127 hq128 => ?_)
    rw [show decide (b = b) = true from decide_eq_true rfl] at hq128
    obtain ⟨rfl, hq128⟩ := hq128
    subst H127
    refine O_gs (v := (.b true)) rfl (r_pick_t rfl rfl) ?_
    refine O_gs (v := (.b true)) rfl (r_pick_f rfl rfl) ?_
    refine O_p (.b true) (r_pick_t rfl rfl) ?_
    refine O_p (.b true) (r_mv rfl) ?_
    refine O_nil ?_
    refine C_ret ?_
    exact ⟨.inr rfl, _, resL_one (r_tmp (v := .b true) rfl), rfl⟩
set_option maxRecDepth 100000 in
set_option maxHeartbeats 1000000 in
theorem run5tf (H : AH) (hok : H.Ok) (htb : Tb H) (kind prio limit : Int) (label proto : List UInt8) (hk : 0 ≤ kind ∧ kind < 256) (hp : 0 ≤ prio ∧ prio < 65536) (hl : 0 ≤ limit ∧ limit < 4294967296) (hll : label.length ≤ maxLen) (hpl : proto.length ≤ maxLen) (ba : Option (Nat × Nat)) (bc : Nat) (b : List UInt8) (bhb : Bs H (.sl ba b.length bc 0) b) (bhc : b.length ≤ bc) (bhm0 : bc ≤ maxLen) (hE : encE kind label proto = 0) (hD : ¬ dErr b = 0) : Ev tabV spV (.fn (.func 5) [] []) [.agg [(.i .u8 kind), (.i .u16 prio), (.i .u32 limit), (.s (txt label)), (.s (txt proto))], .sl ba b.length bc 0] H (fun v _ => v = .b true) := by
  refine Ev_C (F := x5) rfl ?_
  have hO0 := Old.refl hok
  have hll' := hll
  have hpl' := hpl
  have hMx : maxLen ≤ 9223372036854775807 := by decide
  replace hll := Nat.le_trans hll hMx
  replace hpl := Nat.le_trans hpl hMx
  have hel := encR_len kind prio limit label proto
  have bhm : bc ≤ 9223372036854775807 := bhm0
  have hdr := d_rng b
  have hbl := encB_len kind prio limit label proto
  have hE0 := encE_0 hE
  refine C_seq ?_
  refine C_region ?_
  refine O_box (z := [(.i .u8 kind), (.i .u16 prio), (.i .u32 limit), (.s (txt label)), (.s (txt proto))]) rfl fun n1 H2 hN3 => ?_
  have hF4 := hN3.fr (fun _ => False)
  have hO5 := hO0.new hN3
  have hx_hO5 := hO5.next
  have hnm_n1 : n1 = H.next := hN3.1
  have hnx_H2 : H2.next = H.next + 1 := hN3.2.1
  have hlt_n1 : n1 < H2.next := by omega
  refine O_p (.b false) (r_mv rfl) ?_
  refine O_nil ?_
  refine C_seq ?_
  refine C_region ?_
  refine O_call (Ev.mono (awake_ev (htb.kp hok hO5)) fun v6 H7 hq8 => ?_)
  obtain ⟨rfl, hq8⟩ := hq8
  subst H7
  refine O_p (.b true) (r_mv rfl) ?_
  refine O_nil ?_
  refine C_seq ?_
  refine C_seq ?_
  refine C_region ?_
  refine O_p (.p (some (n1, 3))) (r_fadd' rfl rfl) ?_
  refine O_p (.s (txt label)) (r_ld rfl hN3.2.2.1 rfl) ?_
  refine O_p (.i .i64 ((((label).length : Nat)) : Int)) (r_lent (l := label) rfl) ?_
  refine O_p (.b (decide (1000 < ((((label).length : Nat)) : Int)))) (r_gtr rfl rfl) ?_
  refine O_p (.b (decide (1000 < ((((label).length : Nat)) : Int)))) (r_mv rfl) ?_
  refine O_gx (e := (!(decide (1000 < ((((label).length : Nat)) : Int))))) (v := (.p (some (n1, 4)))) (wf rfl) (fun he => (r_fadd' rfl rfl)) ?_
  refine O_gx (e := (!(decide (1000 < ((((label).length : Nat)) : Int))))) (v := (.s (txt proto))) (wf rfl) (fun he => (r_ld (cond_pos he) hN3.2.2.1 rfl)) ?_
  refine O_gx (e := (!(decide (1000 < ((((label).length : Nat)) : Int))))) (v := (.i .i64 ((((proto).length : Nat)) : Int))) (wf rfl) (fun he => (r_lent (l := proto) (cond_pos he))) ?_
  refine O_gx (e := (!(decide (1000 < ((((label).length : Nat)) : Int))))) (v := (.b (decide (1000 < ((((proto).length : Nat)) : Int))))) (wf rfl) (fun he => (r_gtr (cond_pos he) rfl)) ?_
  refine O_p (.b ((decide (1000 < ((((label).length : Nat)) : Int))) || (decide (1000 < ((((proto).length : Nat)) : Int))))) (r_pick_or rfl rfl rfl rfl) ?_
  refine O_p (.b ((decide (1000 < ((((label).length : Nat)) : Int))) || (decide (1000 < ((((proto).length : Nat)) : Int))))) (r_mv rfl) ?_
  refine O_gx (e := (!((decide (1000 < ((((label).length : Nat)) : Int))) || (decide (1000 < ((((proto).length : Nat)) : Int)))))) (v := (.sl ba b.length bc 0)) (wf rfl) (fun he => (r_mv rfl)) ?_
  refine O_gx (e := (!((decide (1000 < ((((label).length : Nat)) : Int))) || (decide (1000 < ((((proto).length : Nat)) : Int)))))) (v := (.i .i64 (((b.length : Nat)) : Int))) (wf rfl) (fun he => (r_len (cond_pos he))) ?_
  refine O_gx (e := (!((decide (1000 < ((((label).length : Nat)) : Int))) || (decide (1000 < ((((proto).length : Nat)) : Int)))))) (v := (.b (decide (1000 < (((b.length : Nat)) : Int))))) (wf rfl) (fun he => (r_gtr (cond_pos he) rfl)) ?_
  refine O_p (.b (((decide (1000 < ((((label).length : Nat)) : Int))) || (decide (1000 < ((((proto).length : Nat)) : Int)))) || (decide (1000 < (((b.length : Nat)) : Int))))) (r_pick_or rfl rfl rfl rfl) ?_
  refine O_nil ?_
  refine C_cond (x := (((decide (1000 < ((((label).length : Nat)) : Int))) || (decide (1000 < ((((proto).length : Nat)) : Int)))) || (decide (1000 < (((b.length : Nat)) : Int))))) rfl (fun hc9 => ?_) (fun hc9 => ?_)
  ·
    simp only [decide_eq_true_eq, decide_eq_false_iff_not, Bool.not_eq_true', Bool.not_eq_false', Bool.and_eq_true, Bool.or_eq_true, Bool.or_eq_false_iff, Bool.not_not] at hc9
    refine C_seq ?_
    refine C_region ?_
    refine O_p (.b true) (r_mv rfl) ?_
    refine O_p (.b true) (r_mv rfl) ?_
    refine O_nil ?_
    refine C_ret ?_
    refine nx_ret ?_
    exact ⟨.inr rfl, _, resL_one (r_tmp (v := .b true) rfl), rfl⟩
  ·
    simp only [decide_eq_true_eq, decide_eq_false_iff_not, Bool.not_eq_true', Bool.not_eq_false', Bool.and_eq_true, Bool.or_eq_true, Bool.or_eq_false_iff, Bool.not_not] at hc9
    refine C_skip ?_
    refine C_seq ?_
    refine C_region ?_
    refine O_p (.agg [(.i .u8 kind), (.i .u16 prio), (.i .u32 limit), (.s (txt label)), (.s (txt proto))]) (r_ldA rfl hN3.2.2.1 rfl) ?_
    refine O_call (Ev.mono (enc_ev hO5.ok (htb.kp hok hO5) kind prio limit label proto hk hp hl hll hpl) fun v10 H11 hq12 => ?_)
    rw [hE, encR_ok hE] at hq12
    obtain ⟨o13, rfl, hM14, hK15⟩ := hq12
    have hb16 := (hK15.keep _ (by omega)).trans hN3.2.2.1
    have hx_hK15 := hK15.next
    have hlt_n1 : n1 < H11.next := by omega
    have hO17 := hO5.trans hK15
    have hx_hO17 := hO17.next
    have hM18 := hM14.down (N := H.next) (by omega)
    have hd19 : ¬ o13.nameOf n1 := fun hq => by have := hM14.new _ hq; omega
    refine O_p (.tup [o13, (.i .i64 0)]) (r_mv rfl) ?_
    refine O_p o13 (r_ext rfl rfl) ?_
    refine O_p (.i .i64 0) (r_ext rfl rfl) ?_
    refine O_p o13 (r_mv rfl) ?_
    refine O_p (.i .i64 0) (r_mv rfl) ?_
    refine O_nil ?_
    refine C_seq ?_
    refine C_region ?_
    refine O_p o13 (r_mv rfl) ?_
    have hsf24 : Own 1 H11 o13 (bcells (encB kind prio limit label proto)) := hM18.own
    obtain ⟨oa20, og21, rfl, hog22, hob23⟩ := hsf24.bs
    have base25 := Old.refl hO17.ok
    refine O_call (Ev.mono (dec_ev hO17.ok (htb.kp hok hO17) hog22 (hM18.own.asbs) (by first | omega | (simp only [List.length_take, List.length_drop, List.length_append, List.length_cons, List.length_nil, beN_len] <;> omega)) (by first | omega | (simp only [List.length_take, List.length_drop, List.length_append, List.length_cons, List.length_nil, beN_len] <;> omega)) (by first | omega | (simp only [List.length_take, List.length_drop, List.length_append, List.length_cons, List.length_nil, beN_len] <;> omega))) fun v26 H27 hq28 => ?_)
    rw [(dec_enc hk hp hl hE).2, (dec_enc hk hp hl hE).1] at hq28
    obtain ⟨rfl, hK29⟩ := hq28
    have hb30 := (hK29.keep _ (by omega)).trans hb16
    have hx_hK29 := hK29.next
    have hlt_n1 : n1 < H27.next := by omega
    have hM31 := hM18.kp hK29
    have hO32 := hO17.trans hK29
    have hx_hO32 := hO32.next
    have hO33 := base25.trans hK29
    refine O_p (.tup [(.agg [(.i .u8 kind), (.i .u16 prio), (.i .u32 limit), (.s (txt label)), (.s (txt proto))]), (.i .i64 0)]) (r_mv rfl) ?_
    refine O_p (.agg [(.i .u8 kind), (.i .u16 prio), (.i .u32 limit), (.s (txt label)), (.s (txt proto))]) (r_ext rfl rfl) ?_
    refine O_p (.i .i64 0) (r_ext rfl rfl) ?_
    refine O_alloc fun n34 H35 hN36 => ?_
    have hF37 := hN36.fr (fun _ => False)
    have hb38 := (hF37.keep _ (by exact hlt_n1) (fun h => h)).trans hb30
    have hM39 := hM31.anew hN36
    have hO40 := hO32.new hN36
    have hx_hO40 := hO40.next
    have hO41 := hO33.new hN36
    have hd42 : ¬ ((.sl oa20 ((encB kind prio limit label proto)).length ((encB kind prio limit label proto)).length og21) : AV).nameOf n34 := hM31.dis (by have := hN36.1; omega)
    have hnm_n34 : n34 = H27.next := hN36.1
    have hnx_H35 : H35.next = H27.next + 1 := hN36.2.1
    have hlt_n1 : n1 < H35.next := by omega
    have hlt_n34 : n34 < H35.next := by omega
    refine O_store (vs := [(.i .u8 kind), (.i .u16 prio), (.i .u32 limit), (.s (txt label)), (.s (txt proto))]) (c' := [(.i .u8 kind), (.i .u16 prio), (.i .u32 limit), (.s (txt label)), (.s (txt proto))]) rfl (by rfl) hN36.2.2.1 rfl (List.cons_ne_nil _ _) (Nat.le_of_ble_eq_true rfl) rfl fun H43 hW44 => ?_
    have hb45 := (hW44.2.2 _ (by omega)).trans hb38
    have hM46 := hM39.wr hW44 hd42
    have hO47 := hO40.wr hW44 (by omega) (by omega)
    have hx_hO47 := hO47.next
    have hO48 := hO41.wr hW44 (by omega) (by omega)
    have hnx_H43 : H43.next = H35.next := hW44.1
    have hlt_n1 : n1 < H43.next := by omega
    have hlt_n34 : n34 < H43.next := by omega
    refine O_p (.i .i64 0) (r_mv rfl) ?_
    refine O_nil ?_
    refine C_seq ?_
    refine C_seq ?_
    refine C_draw fun b49 H50 hbase51 hA52 => ?_
    have hnx53 : H50.next = H43.next + 13 := hA52.1
    have hb54 := (hA52.2 _).trans hb45
    have hb55 := (hA52.2 _).trans hW44.2.1
    have hF56 := hA52.fr (fun _ => False)
    have hM57 := hM46.aside hA52
    have hO58 := hO47.aside hA52
    have hx_hO58 := hO58.next
    have hO59 := hO48.aside hA52
    have hlt_n1 : n1 < H50.next := by omega
    have hlt_n34 : n34 < H50.next := by omega
    refine D_l (v := (.i .i64 0)) rfl rfl rfl (r_mv rfl) ?_
    refine D_l (v := (.b true)) rfl rfl rfl (r_bin rfl rfl rfl) ?_
    refine D_l (v := (.b true)) rfl rfl rfl (r_mv rfl) ?_
    refine D_gl (v := (.i .i64 0)) rfl rfl rfl rfl (r_mv rfl) ?_
    refine D_gl (v := (.b false)) rfl rfl rfl rfl (r_bin rfl rfl rfl) ?_
    refine D_gl (v := (.b false)) rfl rfl rfl rfl (r_mv rfl) ?_
    refine D_gr (v := (.agg [(.i .u8 kind), (.i .u16 prio), (.i .u32 limit), (.s (txt label)), (.s (txt proto))])) rfl rfl rfl rfl (r_ldA rfl hb55 rfl) ?_
    refine D_gr (v := (.agg [(.i .u8 kind), (.i .u16 prio), (.i .u32 limit), (.s (txt label)), (.s (txt proto))])) rfl rfl rfl rfl (r_ldA rfl hb54 rfl) ?_
    refine D_gcall rfl (Ev.mono (theirs_ev hO58.ok kind prio limit label proto) fun v60 H61 hq62 => ?_)
    obtain ⟨rfl, hK63⟩ := hq62
    have hb64 := (hK63.keep _ (by omega)).trans hb54
    have hb65 := (hK63.keep _ (by omega)).trans hb55
    have hx_hK63 := hK63.next
    have hlt_n1 : n1 < H61.next := by omega
    have hlt_n34 : n34 < H61.next := by omega
    have hM66 := hM57.kp hK63
    have hO67 := hO58.trans hK63
    have hx_hO67 := hO67.next
    have hO68 := hO59.trans hK63
    refine And.intro (And.intro (Or.inl rfl) (And.intro (Or.inr (look_run rfl rfl (r_ldA rfl hb65 rfl))) True.intro)) ?_
    refine D_gcall rfl (Ev.mono (alike_ev hO67.ok kind prio limit label proto) fun v69 H70 hq71 => ?_)
    obtain ⟨rfl, hK72⟩ := hq71
    have hb73 := (hK72.keep _ (by omega)).trans hb64
    have hb74 := (hK72.keep _ (by omega)).trans hb65
    have hx_hK72 := hK72.next
    have hlt_n1 : n1 < H70.next := by omega
    have hlt_n34 : n34 < H70.next := by omega
    have hM75 := hM66.kp hK72
    have hO76 := hO67.trans hK72
    have hx_hO76 := hO76.next
    have hO77 := hO68.trans hK72
    refine And.intro (And.intro (Or.inl rfl) True.intro) ?_
    refine D_gl (v := (.b false)) rfl rfl rfl rfl (r_un rfl rfl) ?_
    refine D_gl (v := (.b false)) rfl rfl rfl rfl (r_pick_f rfl rfl) ?_
    refine D_l (v := (.b false)) rfl rfl rfl (r_pick_t rfl rfl) ?_
    refine D_nil ?_
    refine C_cond (x := false) rfl (fun h => by cases h) (fun _ => ?_)
    refine C_skip ?_
    refine C_seq ?_
    refine C_region ?_
    refine O_p (.sl ba b.length bc 0) (r_mv rfl) ?_
    refine O_call (Ev.mono (dec_ev hO76.ok (htb.kp hok hO76) (.inl rfl) (bhb.old hok hO76) (by first | omega | (simp only [List.length_take, List.length_drop, List.length_append, List.length_cons, List.length_nil, beN_len] <;> omega)) (by first | omega | (simp only [List.length_take, List.length_drop, List.length_append, List.length_cons, List.length_nil, beN_len] <;> omega)) (by first | omega | (simp only [List.length_take, List.length_drop, List.length_append, List.length_cons, List.length_nil, beN_len] <;> omega))) fun v78 H79 hq80 => ?_)
    obtain ⟨rfl, hK81⟩ := hq80
    have hb82 := (hK81.keep _ (by omega)).trans hb73
    have hb83 := (hK81.keep _ (by omega)).trans hb74
    have hx_hK81 := hK81.next
    have hlt_n1 : n1 < H79.next := by omega
    have hlt_n34 : n34 < H79.next := by omega
    have hM84 := hM75.kp hK81
    have hO85 := hO76.trans hK81
    have hx_hO85 := hO85.next
    have hO86 := hO77.trans hK81
    refine O_p (.tup [(.agg [(.i .u8 (dK b)), (.i .u16 (dP b)), (.i .u32 (dL b)), (.s (txt (dT b))), (.s (txt (dO b)))]), (.i .i64 (dErr b))]) (r_mv rfl) ?_
    refine O_p (.agg [(.i .u8 (dK b)), (.i .u16 (dP b)), (.i .u32 (dL b)), (.s (txt (dT b))), (.s (txt (dO b)))]) (r_ext rfl rfl) ?_
    refine O_p (.i .i64 (dErr b)) (r_ext rfl rfl) ?_
    refine O_alloc fun n87 H88 hN89 => ?_
    have hF90 := hN89.fr (fun _ => False)
    have hb91 := (hF90.keep _ (by exact hlt_n1) (fun h => h)).trans hb82
    have hb92 := (hF90.keep _ (by exact hlt_n34) (fun h => h)).trans hb83
    have hM93 := hM84.anew hN89
    have hO94 := hO85.new hN89
    have hx_hO94 := hO94.next
    have hO95 := hO86.new hN89
    have hd96 : ¬ ((.sl oa20 ((encB kind prio limit label proto)).length ((encB kind prio limit label proto)).length og21) : AV).nameOf n87 := hM84.dis (by have := hN89.1; omega)
    have hnm_n87 : n87 = H79.next := hN89.1
    have hnx_H88 : H88.next = H79.next + 1 := hN89.2.1
    have hlt_n1 : n1 < H88.next := by omega
    have hlt_n34 : n34 < H88.next := by omega
    have hlt_n87 : n87 < H88.next := by omega
    refine O_store (vs := [(.i .u8 (dK b)), (.i .u16 (dP b)), (.i .u32 (dL b)), (.s (txt (dT b))), (.s (txt (dO b)))]) (c' := [(.i .u8 (dK b)), (.i .u16 (dP b)), (.i .u32 (dL b)), (.s (txt (dT b))), (.s (txt (dO b)))]) rfl (by rfl) hN89.2.2.1 rfl (List.cons_ne_nil _ _) (Nat.le_of_ble_eq_true rfl) rfl fun H97 hW98 => ?_
    have hb99 := (hW98.2.2 _ (by omega)).trans hb91
    have hb100 := (hW98.2.2 _ (by omega)).trans hb92
    have hM101 := hM93.wr hW98 hd96
    have hO102 := hO94.wr hW98 (by omega) (by omega)
    have hx_hO102 := hO102.next
    have hO103 := hO95.wr hW98 (by omega) (by omega)
    have hnx_H97 : H97.next = H88.next := hW98.1
    have hlt_n1 : n1 < H97.next := by omega
    have hlt_n34 : n34 < H97.next := by omega
    have hlt_n87 : n87 < H97.next := by omega
    refine O_p (.i .i64 (dErr b)) (r_mv rfl) ?_
    refine O_nil ?_
    refine C_seq ?_
    refine C_region ?_
    refine O_p (.agg [(.i .u8 (dK b)), (.i .u16 (dP b)), (.i .u32 (dL b)), (.s (txt (dT b))), (.s (txt (dO b)))]) (r_ldA rfl hW98.2.1 rfl) ?_
    refine O_call (Ev.mono (enc_ev hO102.ok (htb.kp hok hO102) (dK b) (dP b) (dL b) (dT b) (dO b) hdr.1 hdr.2.1 hdr.2.2.1 (by omega) (by omega)) fun v104 H105 hq106 => ?_)
    obtain ⟨o107, rfl, hM108, hK109⟩ := hq106
    have hb110 := (hK109.keep _ (by omega)).trans hb99
    have hb111 := (hK109.keep _ (by omega)).trans hb100
    have hb112 := (hK109.keep _ (by omega)).trans hW98.2.1
    have hx_hK109 := hK109.next
    have hlt_n1 : n1 < H105.next := by omega
    have hlt_n34 : n34 < H105.next := by omega
    have hlt_n87 : n87 < H105.next := by omega
    have hM113 := hM101.kp hK109
    have hO114 := hO102.trans hK109
    have hx_hO114 := hO114.next
    have hO115 := hO103.trans hK109
    have hM116 := hM108.down (N := H.next) (by omega)
    have hd117 : ¬ o107.nameOf n1 := fun hq => by have := hM108.new _ hq; omega
    have hd118 : ¬ o107.nameOf n34 := fun hq => by have := hM108.new _ hq; omega
    have hd119 : ¬ o107.nameOf n87 := fun hq => by have := hM108.new _ hq; omega
    refine O_p (.tup [o107, (.i .i64 (encE (dK b) (dT b) (dO b)))]) (r_mv rfl) ?_
    refine O_p o107 (r_ext rfl rfl) ?_
    refine O_p (.i .i64 (encE (dK b) (dT b) (dO b))) (r_ext rfl rfl) ?_
    refine O_p o107 (r_mv rfl) ?_
    refine O_p (.i .i64 (encE (dK b) (dT b) (dO b))) (r_mv rfl) ?_
    refine O_nil ?_
    refine C_seq ?_
    refine C_region ?_
    refine O_p (.b true) (r_mv rfl) ?_
    refine O_p (.b true) (r_mv rfl) ?_
    refine O_gs (v := (.i .i64 0)) rfl (r_mv rfl) ?_
    refine O_gs (v := (.b true)) rfl (r_bin rfl rfl rfl) ?_
    refine O_gs (v := (.b true)) rfl (r_mv rfl) ?_
    refine O_gf rfl ?_
    refine O_gf rfl ?_
    refine O_gf rfl ?_
    refine O_gs (v := (.b true)) rfl (r_pick_t rfl rfl) ?_
    refine O_p (.b true) (r_pick_t rfl rfl) ?_
    refine O_p (.b true) (r_mv rfl) ?_
    refine O_gs (v := (.i .i64 (dErr b))) rfl (r_mv rfl) ?_
    refine O_gs (v := (.b true)) rfl (by exact (by rw [r_neq rfl rfl, decide_eq_false (by first | omega | assumption)]; rfl)) ?_
    refine O_gs (v := (.b true)) rfl (r_mv rfl) ?_
    refine O_gf rfl ?_
    refine O_gf rfl ?_
    refine O_gf rfl ?_
    refine O_gu rfl ?_
    refine O_gu rfl ?_
    refine O_gu rfl ?_
    refine O_gf rfl ?_
    refine O_gs (v := (.b true)) rfl (r_pick_t rfl rfl) ?_
    refine O_p (.b true) (r_pick_t rfl rfl) ?_
    refine O_p (.b true) (r_mv rfl) ?_
    refine O_nil ?_
    refine C_ret ?_
    exact ⟨.inr rfl, _, resL_one (r_tmp (v := .b true) rfl), rfl⟩
set_option maxRecDepth 100000 in
set_option maxHeartbeats 1000000 in
theorem run5ft (H : AH) (hok : H.Ok) (htb : Tb H) (kind prio limit : Int) (label proto : List UInt8) (hk : 0 ≤ kind ∧ kind < 256) (hp : 0 ≤ prio ∧ prio < 65536) (hl : 0 ≤ limit ∧ limit < 4294967296) (hll : label.length ≤ maxLen) (hpl : proto.length ≤ maxLen) (ba : Option (Nat × Nat)) (bc : Nat) (b : List UInt8) (bhb : Bs H (.sl ba b.length bc 0) b) (bhc : b.length ≤ bc) (bhm0 : bc ≤ maxLen) (hE : ¬ encE kind label proto = 0) (hD : dErr b = 0) : Ev tabV spV (.fn (.func 5) [] []) [.agg [(.i .u8 kind), (.i .u16 prio), (.i .u32 limit), (.s (txt label)), (.s (txt proto))], .sl ba b.length bc 0] H (fun v _ => v = .b true) := by
  refine Ev_C (F := x5) rfl ?_
  have hO0 := Old.refl hok
  have hll' := hll
  have hpl' := hpl
  have hMx : maxLen ≤ 9223372036854775807 := by decide
  replace hll := Nat.le_trans hll hMx
  replace hpl := Nat.le_trans hpl hMx
  have hel := encR_len kind prio limit label proto
  have bhm : bc ≤ 9223372036854775807 := bhm0
  have hdr := d_rng b
  have hbl := encB_len kind prio limit label proto
  refine C_seq ?_
  refine C_region ?_
  refine O_box (z := [(.i .u8 kind), (.i .u16 prio), (.i .u32 limit), (.s (txt label)), (.s (txt proto))]) rfl fun n1 H2 hN3 => ?_
  have hF4 := hN3.fr (fun _ => False)
  have hO5 := hO0.new hN3
  have hx_hO5 := hO5.next
  have hnm_n1 : n1 = H.next := hN3.1
  have hnx_H2 : H2.next = H.next + 1 := hN3.2.1
  have hlt_n1 : n1 < H2.next := by omega
  refine O_p (.b false) (r_mv rfl) ?_
  refine O_nil ?_
  refine C_seq ?_
  refine C_region ?_
  refine O_call (Ev.mono (awake_ev (htb.kp hok hO5)) fun v6 H7 hq8 => ?_)
  obtain ⟨rfl, hq8⟩ := hq8
  subst H7
  refine O_p (.b true) (r_mv rfl) ?_
  refine O_nil ?_
  refine C_seq ?_
  refine C_seq ?_
  refine C_region ?_
  refine O_p (.p (some (n1, 3))) (r_fadd' rfl rfl) ?_
  refine O_p (.s (txt label)) (r_ld rfl hN3.2.2.1 rfl) ?_
  refine O_p (.i .i64 ((((label).length : Nat)) : Int)) (r_lent (l := label) rfl) ?_
  refine O_p (.b (decide (1000 < ((((label).length : Nat)) : Int)))) (r_gtr rfl rfl) ?_
  refine O_p (.b (decide (1000 < ((((label).length : Nat)) : Int)))) (r_mv rfl) ?_
  refine O_gx (e := (!(decide (1000 < ((((label).length : Nat)) : Int))))) (v := (.p (some (n1, 4)))) (wf rfl) (fun he => (r_fadd' rfl rfl)) ?_
  refine O_gx (e := (!(decide (1000 < ((((label).length : Nat)) : Int))))) (v := (.s (txt proto))) (wf rfl) (fun he => (r_ld (cond_pos he) hN3.2.2.1 rfl)) ?_
  refine O_gx (e := (!(decide (1000 < ((((label).length : Nat)) : Int))))) (v := (.i .i64 ((((proto).length : Nat)) : Int))) (wf rfl) (fun he => (r_lent (l := proto) (cond_pos he))) ?_
  refine O_gx (e := (!(decide (1000 < ((((label).length : Nat)) : Int))))) (v := (.b (decide (1000 < ((((proto).length : Nat)) : Int))))) (wf rfl) (fun he => (r_gtr (cond_pos he) rfl)) ?_
  refine O_p (.b ((decide (1000 < ((((label).length : Nat)) : Int))) || (decide (1000 < ((((proto).length : Nat)) : Int))))) (r_pick_or rfl rfl rfl rfl) ?_
  refine O_p (.b ((decide (1000 < ((((label).length : Nat)) : Int))) || (decide (1000 < ((((proto).length : Nat)) : Int))))) (r_mv rfl) ?_
  refine O_gx (e := (!((decide (1000 < ((((label).length : Nat)) : Int))) || (decide (1000 < ((((proto).length : Nat)) : Int)))))) (v := (.sl ba b.length bc 0)) (wf rfl) (fun he => (r_mv rfl)) ?_
  refine O_gx (e := (!((decide (1000 < ((((label).length : Nat)) : Int))) || (decide (1000 < ((((proto).length : Nat)) : Int)))))) (v := (.i .i64 (((b.length : Nat)) : Int))) (wf rfl) (fun he => (r_len (cond_pos he))) ?_
  refine O_gx (e := (!((decide (1000 < ((((label).length : Nat)) : Int))) || (decide (1000 < ((((proto).length : Nat)) : Int)))))) (v := (.b (decide (1000 < (((b.length : Nat)) : Int))))) (wf rfl) (fun he => (r_gtr (cond_pos he) rfl)) ?_
  refine O_p (.b (((decide (1000 < ((((label).length : Nat)) : Int))) || (decide (1000 < ((((proto).length : Nat)) : Int)))) || (decide (1000 < (((b.length : Nat)) : Int))))) (r_pick_or rfl rfl rfl rfl) ?_
  refine O_nil ?_
  refine C_cond (x := (((decide (1000 < ((((label).length : Nat)) : Int))) || (decide (1000 < ((((proto).length : Nat)) : Int)))) || (decide (1000 < (((b.length : Nat)) : Int))))) rfl (fun hc9 => ?_) (fun hc9 => ?_)
  ·
    simp only [decide_eq_true_eq, decide_eq_false_iff_not, Bool.not_eq_true', Bool.not_eq_false', Bool.and_eq_true, Bool.or_eq_true, Bool.or_eq_false_iff, Bool.not_not] at hc9
    refine C_seq ?_
    refine C_region ?_
    refine O_p (.b true) (r_mv rfl) ?_
    refine O_p (.b true) (r_mv rfl) ?_
    refine O_nil ?_
    refine C_ret ?_
    refine nx_ret ?_
    exact ⟨.inr rfl, _, resL_one (r_tmp (v := .b true) rfl), rfl⟩
  ·
    simp only [decide_eq_true_eq, decide_eq_false_iff_not, Bool.not_eq_true', Bool.not_eq_false', Bool.and_eq_true, Bool.or_eq_true, Bool.or_eq_false_iff, Bool.not_not] at hc9
    refine C_skip ?_
    refine C_seq ?_
    refine C_region ?_
    refine O_p (.agg [(.i .u8 kind), (.i .u16 prio), (.i .u32 limit), (.s (txt label)), (.s (txt proto))]) (r_ldA rfl hN3.2.2.1 rfl) ?_
    refine O_call (Ev.mono (enc_ev hO5.ok (htb.kp hok hO5) kind prio limit label proto hk hp hl hll hpl) fun v10 H11 hq12 => ?_)
    rw [encR_bad hE] at hq12
    obtain ⟨o13, rfl, hM14, hK15⟩ := hq12
    have hb16 := (hK15.keep _ (by omega)).trans hN3.2.2.1
    have hx_hK15 := hK15.next
    have hlt_n1 : n1 < H11.next := by omega
    have hO17 := hO5.trans hK15
    have hx_hO17 := hO17.next
    have hM18 := hM14.down (N := H.next) (by omega)
    have hd19 : ¬ o13.nameOf n1 := fun hq => by have := hM14.new _ hq; omega
    refine O_p (.tup [o13, (.i .i64 (encE kind label proto))]) (r_mv rfl) ?_
    refine O_p o13 (r_ext rfl rfl) ?_
    refine O_p (.i .i64 (encE kind label proto)) (r_ext rfl rfl) ?_
    refine O_p o13 (r_mv rfl) ?_
    refine O_p (.i .i64 (encE kind label proto)) (r_mv rfl) ?_
    refine O_nil ?_
    refine C_seq ?_
    refine C_region ?_
    refine O_p o13 (r_mv rfl) ?_
    have hsf24 : Own 1 H11 o13 (bcells ([] : List UInt8)) := hM18.own
    obtain ⟨oa20, og21, rfl, hog22, hob23⟩ := hsf24.bs
    have base25 := Old.refl hO17.ok
    refine O_call (Ev.mono (dec_ev hO17.ok (htb.kp hok hO17) hog22 (hM18.own.asbs) (by first | omega | (simp only [List.length_take, List.length_drop, List.length_append, List.length_cons, List.length_nil, beN_len] <;> omega)) (by first | omega | (simp only [List.length_take, List.length_drop, List.length_append, List.length_cons, List.length_nil, beN_len] <;> omega)) (by first | omega | (simp only [List.length_take, List.length_drop, List.length_append, List.length_cons, List.length_nil, beN_len] <;> omega))) fun v26 H27 hq28 => ?_)
    obtain ⟨rfl, hK29⟩ := hq28
    have hb30 := (hK29.keep _ (by omega)).trans hb16
    have hx_hK29 := hK29.next
    have hlt_n1 : n1 < H27.next := by omega
    have hM31 := hM18.kp hK29
    have hO32 := hO17.trans hK29
    have hx_hO32 := hO32.next
    have hO33 := base25.trans hK29
    refine O_p (.tup [(.agg [(.i .u8 (dK ([] : List UInt8))), (.i .u16 (dP ([] : List UInt8))), (.i .u32 (dL ([] : List UInt8))), (.s (txt (dT ([] : List UInt8)))), (.s (txt (dO ([] : List UInt8))))]), (.i .i64 (dErr ([] : List UInt8)))]) (r_mv rfl) ?_
    refine O_p (.agg [(.i .u8 (dK ([] : List UInt8))), (.i .u16 (dP ([] : List UInt8))), (.i .u32 (dL ([] : List UInt8))), (.s (txt (dT ([] : List UInt8)))), (.s (txt (dO ([] : List UInt8))))]) (r_ext rfl rfl) ?_
    refine O_p (.i .i64 (dErr ([] : List UInt8))) (r_ext rfl rfl) ?_
    refine O_alloc fun n34 H35 hN36 => ?_
    have hF37 := hN36.fr (fun _ => False)
    have hb38 := (hF37.keep _ (by exact hlt_n1) (fun h => h)).trans hb30
    have hM39 := hM31.anew hN36
    have hO40 := hO32.new hN36
    have hx_hO40 := hO40.next
    have hO41 := hO33.new hN36
    have hd42 : ¬ ((.sl oa20 (([] : List UInt8)).length (([] : List UInt8)).length og21) : AV).nameOf n34 := hM31.dis (by have := hN36.1; omega)
    have hnm_n34 : n34 = H27.next := hN36.1
    have hnx_H35 : H35.next = H27.next + 1 := hN36.2.1
    have hlt_n1 : n1 < H35.next := by omega
    have hlt_n34 : n34 < H35.next := by omega
    refine O_store (vs := [(.i .u8 (dK ([] : List UInt8))), (.i .u16 (dP ([] : List UInt8))), (.i .u32 (dL ([] : List UInt8))), (.s (txt (dT ([] : List UInt8)))), (.s (txt (dO ([] : List UInt8))))]) (c' := [(.i .u8 (dK ([] : List UInt8))), (.i .u16 (dP ([] : List UInt8))), (.i .u32 (dL ([] : List UInt8))), (.s (txt (dT ([] : List UInt8)))), (.s (txt (dO ([] : List UInt8))))]) rfl (by rfl) hN36.2.2.1 rfl (List.cons_ne_nil _ _) (Nat.le_of_ble_eq_true rfl) rfl fun H43 hW44 => ?_
    have hb45 := (hW44.2.2 _ (by omega)).trans hb38
    have hM46 := hM39.wr hW44 hd42
    have hO47 := hO40.wr hW44 (by omega) (by omega)
    have hx_hO47 := hO47.next
    have hO48 := hO41.wr hW44 (by omega) (by omega)
    have hnx_H43 : H43.next = H35.next := hW44.1
    have hlt_n1 : n1 < H43.next := by omega
    have hlt_n34 : n34 < H43.next := by omega
    refine O_p (.i .i64 (dErr ([] : List UInt8))) (r_mv rfl) ?_
    refine O_nil ?_
    refine C_seq ?_
    refine C_seq ?_
    refine C_draw fun b49 H50 hbase51 hA52 => ?_
    have hnx53 : H50.next = H43.next + 13 := hA52.1
    have hb54 := (hA52.2 _).trans hb45
    have hb55 := (hA52.2 _).trans hW44.2.1
    have hF56 := hA52.fr (fun _ => False)
    have hM57 := hM46.aside hA52
    have hO58 := hO47.aside hA52
    have hx_hO58 := hO58.next
    have hO59 := hO48.aside hA52
    have hlt_n1 : n1 < H50.next := by omega
    have hlt_n34 : n34 < H50.next := by omega
    refine D_l (v := (.i .i64 (encE kind label proto))) rfl rfl rfl (r_mv rfl) ?_
    refine D_l (v := (.b false)) rfl rfl rfl (by exact (by rw [r_eql rfl rfl, decide_eq_false (by first | omega | assumption)])) ?_
    refine D_l (v := (.b false)) rfl rfl rfl (r_mv rfl) ?_
    refine D_gf rfl ?_
    refine D_gf rfl ?_
    refine D_gf rfl ?_
    refine D_gu rfl ?_
    refine D_gu rfl ?_
    refine D_gu rfl ?_
    refine D_gu rfl ?_
    refine D_gu rfl ?_
    refine D_gf rfl ?_
    refine D_l (v := (.b false)) rfl rfl rfl (r_pick_f rfl rfl) ?_
    refine D_nil ?_
    refine C_cond (x := false) rfl (fun h => by cases h) (fun _ => ?_)
    refine C_skip ?_
    refine C_seq ?_
    refine C_region ?_
    refine O_p (.sl ba b.length bc 0) (r_mv rfl) ?_
    refine O_call (Ev.mono (dec_ev hO58.ok (htb.kp hok hO58) (.inl rfl) (bhb.old hok hO58) (by first | omega | (simp only [List.length_take, List.length_drop, List.length_append, List.length_cons, List.length_nil, beN_len] <;> omega)) (by first | omega | (simp only [List.length_take, List.length_drop, List.length_append, List.length_cons, List.length_nil, beN_len] <;> omega)) (by first | omega | (simp only [List.length_take, List.length_drop, List.length_append, List.length_cons, List.length_nil, beN_len] <;> omega))) fun v60 H61 hq62 => ?_)
    rw [hD] at hq62
    obtain ⟨rfl, hK63⟩ := hq62
    have hb64 := (hK63.keep _ (by omega)).trans hb54
    have hb65 := (hK63.keep _ (by omega)).trans hb55
    have hx_hK63 := hK63.next
    have hlt_n1 : n1 < H61.next := by omega
    have hlt_n34 : n34 < H61.next := by omega
    have hM66 := hM57.kp hK63
    have hO67 := hO58.trans hK63
    have hx_hO67 := hO67.next
    have hO68 := hO59.trans hK63
    refine O_p (.tup [(.agg [(.i .u8 (dK b)), (.i .u16 (dP b)), (.i .u32 (dL b)), (.s (txt (dT b))), (.s (txt (dO b)))]), (.i .i64 0)]) (r_mv rfl) ?_
    refine O_p (.agg [(.i .u8 (dK b)), (.i .u16 (dP b)), (.i .u32 (dL b)), (.s (txt (dT b))), (.s (txt (dO b)))]) (r_ext rfl rfl) ?_
    refine O_p (.i .i64 0) (r_ext rfl rfl) ?_
    refine O_alloc fun n69 H70 hN71 => ?_
    have hF72 := hN71.fr (fun _ => False)
    have hb73 := (hF72.keep _ (by exact hlt_n1) (fun h => h)).trans hb64
    have hb74 := (hF72.keep _ (by exact hlt_n34) (fun h => h)).trans hb65
    have hM75 := hM66.anew hN71
    have hO76 := hO67.new hN71
    have hx_hO76 := hO76.next
    have hO77 := hO68.new hN71
    have hd78 : ¬ ((.sl oa20 (([] : List UInt8)).length (([] : List UInt8)).length og21) : AV).nameOf n69 := hM66.dis (by have := hN71.1; omega)
    have hnm_n69 : n69 = H61.next := hN71.1
    have hnx_H70 : H70.next = H61.next + 1 := hN71.2.1
    have hlt_n1 : n1 < H70.next := by omega
    have hlt_n34 : n34 < H70.next := by omega
    have hlt_n69 : n69 < H70.next := by omega
    refine O_store (vs := [(.i .u8 (dK b)), (.i .u16 (dP b)), (.i .u32 (dL b)), (.s (txt (dT b))), (.s (txt (dO b)))]) (c' := [(.i .u8 (dK b)), (.i .u16 (dP b)), (.i .u32 (dL b)), (.s (txt (dT b))), (.s (txt (dO b)))]) rfl (by rfl) hN71.2.2.1 rfl (List.cons_ne_nil _ _) (Nat.le_of_ble_eq_true rfl) rfl fun H79 hW80 => ?_
    have hb81 := (hW80.2.2 _ (by omega)).trans hb73
    have hb82 := (hW80.2.2 _ (by omega)).trans hb74
    have hM83 := hM75.wr hW80 hd78
    have hO84 := hO76.wr hW80 (by omega) (by omega)
    have hx_hO84 := hO84.next
    have hO85 := hO77.wr hW80 (by omega) (by omega)
    have hnx_H79 : H79.next = H70.next := hW80.1
    have hlt_n1 : n1 < H79.next := by omega
    have hlt_n34 : n34 < H79.next := by omega
    have hlt_n69 : n69 < H79.next := by omega
    refine O_p (.i .i64 0) (r_mv rfl) ?_
    refine O_nil ?_
    refine C_seq ?_
    refine C_region ?_
    refine O_p (.agg [(.i .u8 (dK b)), (.i .u16 (dP b)), (.i .u32 (dL b)), (.s (txt (dT b))), (.s (txt (dO b)))]) (r_ldA rfl hW80.2.1 rfl) ?_
    refine O_call (Ev.mono (enc_ev hO84.ok (htb.kp hok hO84) (dK b) (dP b) (dL b) (dT b) (dO b) hdr.1 hdr.2.1 hdr.2.2.1 (by omega) (by omega)) fun v86 H87 hq88 => ?_)
    rw [(enc_dec hD).1, (enc_dec hD).2] at hq88
    obtain ⟨o89, rfl, hM90, hK91⟩ := hq88
    have hb92 := (hK91.keep _ (by omega)).trans hb81
    have hb93 := (hK91.keep _ (by omega)).trans hb82
    have hb94 := (hK91.keep _ (by omega)).trans hW80.2.1
    have hx_hK91 := hK91.next
    have hlt_n1 : n1 < H87.next := by omega
    have hlt_n34 : n34 < H87.next := by omega
    have hlt_n69 : n69 < H87.next := by omega
    have hM95 := hM83.kp hK91
    have hO96 := hO84.trans hK91
    have hx_hO96 := hO96.next
    have hO97 := hO85.trans hK91
    have hM98 := hM90.down (N := H.next) (by omega)
    have hd99 : ¬ o89.nameOf n1 := fun hq => by have := hM90.new _ hq; omega
    have hd100 : ¬ o89.nameOf n34 := fun hq => by have := hM90.new _ hq; omega
    have hd101 : ¬ o89.nameOf n69 := fun hq => by have := hM90.new _ hq; omega
    refine O_p (.tup [o89, (.i .i64 0)]) (r_mv rfl) ?_
    refine O_p o89 (r_ext rfl rfl) ?_
    refine O_p (.i .i64 0) (r_ext rfl rfl) ?_
    refine O_p o89 (r_mv rfl) ?_
    refine O_p (.i .i64 0) (r_mv rfl) ?_
    refine O_nil ?_
    refine C_seq ?_
    refine C_region ?_
    refine O_p (.b true) (r_mv rfl) ?_
    refine O_p (.b true) (r_mv rfl) ?_
    refine O_gs (v := (.i .i64 (encE kind label proto))) rfl (r_mv rfl) ?_
    refine O_gs (v := (.b false)) rfl (by exact (by rw [r_eql rfl rfl, decide_eq_false (by first | omega | assumption)])) ?_
    refine O_gs (v := (.b false)) rfl (r_mv rfl) ?_
    refine O_gs (v := (.sl oa20 (([] : List UInt8)).length (([] : List UInt8)).length og21)) rfl (r_mv rfl) ?_
    refine O_gs (v := (.i .i64 0)) rfl (by exact (by exact r_lenOf rfl (hM95.own.lenOf ((bcells_len _).trans (Nat.mul_one _).symm) (by decide)) hM95.own.isSl)) ?_
    refine O_gs (v := (.b true)) rfl (r_bin rfl rfl rfl) ?_
    refine O_gs (v := (.b true)) rfl (r_pick_f rfl rfl) ?_
    refine O_p (.b true) (r_pick_t rfl rfl) ?_
    refine O_p (.b true) (r_mv rfl) ?_
    refine O_gs (v := (.i .i64 0)) rfl (r_mv rfl) ?_
    refine O_gs (v := (.b false)) rfl (r_bin rfl rfl rfl) ?_
    refine O_gs (v := (.b false)) rfl (r_mv rfl) ?_
    refine O_gs (v := (.i .i64 0)) rfl (r_mv rfl) ?_
    refine O_gs (v := (.b true)) rfl (r_bin rfl rfl rfl) ?_
    refine O_gs (v := (.b true)) rfl (r_mv rfl) ?_
    refine O_gs (v := o89) rfl (r_mv rfl) ?_
    refine O_gs (v := (.sl ba b.length bc 0)) rfl (r_mv rfl) ?_
    have hsf106 : Own 1 H87 o89 (bcells b) := hM98.own
    obtain ⟨oa102, og103, rfl, hog104, hob105⟩ := hsf106.bs
    have base107 := Old.refl hO96.ok
    refine O_gcall rfl (Ev.mono (same_ev hO96.ok hog104 (hM98.own.asbs) (by first | omega | (simp only [List.length_take, List.length_drop, List.length_append, List.length_cons, List.length_nil, beN_len] <;> omega)) (by first | omega | (simp only [List.length_take, List.length_drop, List.length_append, List.length_cons, List.length_nil, beN_len] <;> omega)) (.inl rfl) (bhb.old hok hO96) (by first | omega | (simp only [List.length_take, List.length_drop, List.length_append, List.length_cons, List.length_nil, beN_len] <;> omega)) (by first | omega | (simp only [List.length_take, List.length_drop, List.length_append, List.length_cons, List.length_nil, beN_len] <;> omega))) fun v108 H109 hq110 => ?_)
    rw [show decide (b = b) = true from decide_eq_true rfl] at hq110
    obtain ⟨rfl, hq110⟩ := hq110
    subst H109
    refine O_gs (v := (.b true)) rfl (r_pick_t rfl rfl) ?_
    refine O_gs (v := (.b true)) rfl (r_pick_f rfl rfl) ?_
    refine O_p (.b true) (r_pick_t rfl rfl) ?_
    refine O_p (.b true) (r_mv rfl) ?_
    refine O_nil ?_
    refine C_ret ?_
    exact ⟨.inr rfl, _, resL_one (r_tmp (v := .b true) rfl), rfl⟩
set_option maxRecDepth 100000 in
set_option maxHeartbeats 1000000 in
theorem run5ff (H : AH) (hok : H.Ok) (htb : Tb H) (kind prio limit : Int) (label proto : List UInt8) (hk : 0 ≤ kind ∧ kind < 256) (hp : 0 ≤ prio ∧ prio < 65536) (hl : 0 ≤ limit ∧ limit < 4294967296) (hll : label.length ≤ maxLen) (hpl : proto.length ≤ maxLen) (ba : Option (Nat × Nat)) (bc : Nat) (b : List UInt8) (bhb : Bs H (.sl ba b.length bc 0) b) (bhc : b.length ≤ bc) (bhm0 : bc ≤ maxLen) (hE : ¬ encE kind label proto = 0) (hD : ¬ dErr b = 0) : Ev tabV spV (.fn (.func 5) [] []) [.agg [(.i .u8 kind), (.i .u16 prio), (.i .u32 limit), (.s (txt label)), (.s (txt proto))], .sl ba b.length bc 0] H (fun v _ => v = .b true) := by
  refine Ev_C (F := x5) rfl ?_
  have hO0 := Old.refl hok
  have hll' := hll
  have hpl' := hpl
  have hMx : maxLen ≤ 9223372036854775807 := by decide
  replace hll := Nat.le_trans hll hMx
  replace hpl := Nat.le_trans hpl hMx
  have hel := encR_len kind prio limit label proto
  have bhm : bc ≤ 9223372036854775807 := bhm0
  have hdr := d_rng b
  have hbl := encB_len kind prio limit label proto
  refine C_seq ?_
  refine C_region ?_
  refine O_box (z := [(.i .u8 kind), (.i .u16 prio), (.i .u32 limit), (.s (txt label)), (.s (txt proto))]) rfl fun n1 H2 hN3 => ?_
  have hF4 := hN3.fr (fun _ => False)
  have hO5 := hO0.new hN3
  have hx_hO5 := hO5.next
  have hnm_n1 : n1 = H.next := hN3.1
  have hnx_H2 : H2.next = H.next + 1 := hN3.2.1
  have hlt_n1 : n1 < H2.next := by omega
  refine O_p (.b false) (r_mv rfl) ?_
  refine O_nil ?_
  refine C_seq ?_
  refine C_region ?_
  refine O_call (Ev.mono (awake_ev (htb.kp hok hO5)) fun v6 H7 hq8 => ?_)
  obtain ⟨rfl, hq8⟩ := hq8
  subst H7
  refine O_p (.b true) (r_mv rfl) ?_
  refine O_nil ?_
  refine C_seq ?_
  refine C_seq ?_
  refine C_region ?_
  refine O_p (.p (some (n1, 3))) (r_fadd' rfl rfl) ?_
  refine O_p (.s (txt label)) (r_ld rfl hN3.2.2.1 rfl) ?_
  refine O_p (.i .i64 ((((label).length : Nat)) : Int)) (r_lent (l := label) rfl) ?_
  refine O_p (.b (decide (1000 < ((((label).length : Nat)) : Int)))) (r_gtr rfl rfl) ?_
  refine O_p (.b (decide (1000 < ((((label).length : Nat)) : Int)))) (r_mv rfl) ?_
  refine O_gx (e := (!(decide (1000 < ((((label).length : Nat)) : Int))))) (v := (.p (some (n1, 4)))) (wf rfl) (fun he => (r_fadd' rfl rfl)) ?_
  refine O_gx (e := (!(decide (1000 < ((((label).length : Nat)) : Int))))) (v := (.s (txt proto))) (wf rfl) (fun he => (r_ld (cond_pos he) hN3.2.2.1 rfl)) ?_
  refine O_gx (e := (!(decide (1000 < ((((label).length : Nat)) : Int))))) (v := (.i .i64 ((((proto).length : Nat)) : Int))) (wf rfl) (fun he => (r_lent (l := proto) (cond_pos he))) ?_
  refine O_gx (e := (!(decide (1000 < ((((label).length : Nat)) : Int))))) (v := (.b (decide (1000 < ((((proto).length : Nat)) : Int))))) (wf rfl) (fun he => (r_gtr (cond_pos he) rfl)) ?_
  refine O_p (.b ((decide (1000 < ((((label).length : Nat)) : Int))) || (decide (1000 < ((((proto).length : Nat)) : Int))))) (r_pick_or rfl rfl rfl rfl) ?_
  refine O_p (.b ((decide (1000 < ((((label).length : Nat)) : Int))) || (decide (1000 < ((((proto).length : Nat)) : Int))))) (r_mv rfl) ?_
  refine O_gx (e := (!((decide (1000 < ((((label).length : Nat)) : Int))) || (decide (1000 < ((((proto).length : Nat)) : Int)))))) (v := (.sl ba b.length bc 0)) (wf rfl) (fun he => (r_mv rfl)) ?_
  refine O_gx (e := (!((decide (1000 < ((((label).length : Nat)) : Int))) || (decide (1000 < ((((proto).length : Nat)) : Int)))))) (v := (.i .i64 (((b.length : Nat)) : Int))) (wf rfl) (fun he => (r_len (cond_pos he))) ?_
  refine O_gx (e := (!((decide (1000 < ((((label).length : Nat)) : Int))) || (decide (1000 < ((((proto).length : Nat)) : Int)))))) (v := (.b (decide (1000 < (((b.length : Nat)) : Int))))) (wf rfl) (fun he => (r_gtr (cond_pos he) rfl)) ?_
  refine O_p (.b (((decide (1000 < ((((label).length : Nat)) : Int))) || (decide (1000 < ((((proto).length : Nat)) : Int)))) || (decide (1000 < (((b.length : Nat)) : Int))))) (r_pick_or rfl rfl rfl rfl) ?_
  refine O_nil ?_
  refine C_cond (x := (((decide (1000 < ((((label).length : Nat)) : Int))) || (decide (1000 < ((((proto).length : Nat)) : Int)))) || (decide (1000 < (((b.length : Nat)) : Int))))) rfl (fun hc9 => ?_) (fun hc9 => ?_)
  ·
    simp only [decide_eq_true_eq, decide_eq_false_iff_not, Bool.not_eq_true', Bool.not_eq_false', Bool.and_eq_true, Bool.or_eq_true, Bool.or_eq_false_iff, Bool.not_not] at hc9
    refine C_seq ?_
    refine C_region ?_
    refine O_p (.b true) (r_mv rfl) ?_
    refine O_p (.b true) (r_mv rfl) ?_
    refine O_nil ?_
    refine C_ret ?_
    refine nx_ret ?_
    exact ⟨.inr rfl, _, resL_one (r_tmp (v := .b true) rfl), rfl⟩
  ·
    simp only [decide_eq_true_eq, decide_eq_false_iff_not, Bool.not_eq_true', Bool.not_eq_false', Bool.and_eq_true, Bool.or_eq_true, Bool.or_eq_false_iff, Bool.not_not] at hc9
    refine C_skip ?_
    refine C_seq ?_
    refine C_region ?_
    refine O_p (.agg [(.i .u8 kind), (.i .u16 prio), (.i .u32 limit), (.s (txt label)), (.s (txt proto))]) (r_ldA rfl hN3.2.2.1 rfl) ?_
    refine O_call (Ev.mono (enc_ev hO5.ok (htb.kp hok hO5) kind prio limit label proto hk hp hl hll hpl) fun v10 H11 hq12 => ?_)
    rw [encR_bad hE] at hq12
    obtain ⟨o13, rfl, hM14, hK15⟩ := hq12
    have hb16 := (hK15.keep _ (by omega)).trans hN3.2.2.1
    have hx_hK15 := hK15.next
    have hlt_n1 : n1 < H11.next := by omega
    have hO17 := hO5.trans hK15
    have hx_hO17 := hO17.next
    have hM18 := hM14.down (N := H.next) (by omega)
    have hd19 : ¬ o13.nameOf n1 := fun hq => by have := hM14.new _ hq; omega
    refine O_p (.tup [o13, (.i .i64 (encE kind label proto))]) (r_mv rfl) ?_
    refine O_p o13 (r_ext rfl rfl) ?_
    refine O_p (.i .i64 (encE kind label proto)) (r_ext rfl rfl) ?_
    refine O_p o13 (r_mv rfl) ?_
    refine O_p (.i .i64 (encE kind label proto)) (r_mv rfl) ?_
    refine O_nil ?_
    refine C_seq ?_
    refine C_region ?_
    refine O_p o13 (r_mv rfl) ?_
    have hsf24 : Own 1 H11 o13 (bcells ([] : List UInt8)) := hM18.own
    obtain ⟨oa20, og21, rfl, hog22, hob23⟩ := hsf24.bs
    have base25 := Old.refl hO17.ok
    refine O_call (Ev.mono (dec_ev hO17.ok (htb.kp hok hO17) hog22 (hM18.own.asbs) (by first | omega | (simp only [List.length_take, List.length_drop, List.length_append, List.length_cons, List.length_nil, beN_len] <;> omega)) (by first | omega | (simp only [List.length_take, List.length_drop, List.length_append, List.length_cons, List.length_nil, beN_len] <;> omega)) (by first | omega | (simp only [List.length_take, List.length_drop, List.length_append, List.length_cons, List.length_nil, beN_len] <;> omega))) fun v26 H27 hq28 => ?_)
    obtain ⟨rfl, hK29⟩ := hq28
    have hb30 := (hK29.keep _ (by omega)).trans hb16
    have hx_hK29 := hK29.next
    have hlt_n1 : n1 < H27.next := by omega
    have hM31 := hM18.kp hK29
    have hO32 := hO17.trans hK29
    have hx_hO32 := hO32.next
    have hO33 := base25.trans hK29
    refine O_p (.tup [(.agg [(.i .u8 (dK ([] : List UInt8))), (.i .u16 (dP ([] : List UInt8))), (.i .u32 (dL ([] : List UInt8))), (.s (txt (dT ([] : List UInt8)))), (.s (txt (dO ([] : List UInt8))))]), (.i .i64 (dErr ([] : List UInt8)))]) (r_mv rfl) ?_
    refine O_p (.agg [(.i .u8 (dK ([] : List UInt8))), (.i .u16 (dP ([] : List UInt8))), (.i .u32 (dL ([] : List UInt8))), (.s (txt (dT ([] : List UInt8)))), (.s (txt (dO ([] : List UInt8))))]) (r_ext rfl rfl) ?_
    refine O_p (.i .i64 (dErr ([] : List UInt8))) (r_ext rfl rfl) ?_
    refine O_alloc fun n34 H35 hN36 => ?_
    have hF37 := hN36.fr (fun _ => False)
    have hb38 := (hF37.keep _ (by exact hlt_n1) (fun h => h)).trans hb30
    have hM39 := hM31.anew hN36
    have hO40 := hO32.new hN36
    have hx_hO40 := hO40.next
    have hO41 := hO33.new hN36
    have hd42 : ¬ ((.sl oa20 (([] : List UInt8)).length (([] : List UInt8)).length og21) : AV).nameOf n34 := hM31.dis (by have := hN36.1; omega)
    have hnm_n34 : n34 = H27.next := hN36.1
    have hnx_H35 : H35.next = H27.next + 1 := hN36.2.1
    have hlt_n1 : n1 < H35.next := by omega
    have hlt_n34 : n34 < H35.next := by omega
    refine O_store (vs := [(.i .u8 (dK ([] : List UInt8))), (.i .u16 (dP ([] : List UInt8))), (.i .u32 (dL ([] : List UInt8))), (.s (txt (dT ([] : List UInt8)))), (.s (txt (dO ([] : List UInt8))))]) (c' := [(.i .u8 (dK ([] : List UInt8))), (.i .u16 (dP ([] : List UInt8))), (.i .u32 (dL ([] : List UInt8))), (.s (txt (dT ([] : List UInt8)))), (.s (txt (dO ([] : List UInt8))))]) rfl (by rfl) hN36.2.2.1 rfl (List.cons_ne_nil _ _) (Nat.le_of_ble_eq_true rfl) rfl fun H43 hW44 => ?_
    have hb45 := (hW44.2.2 _ (by omega)).trans hb38
    have hM46 := hM39.wr hW44 hd42
    have hO47 := hO40.wr hW44 (by omega) (by omega)
    have hx_hO47 := hO47.next
    have hO48 := hO41.wr hW44 (by omega) (by omega)
    have hnx_H43 : H43.next = H35.next := hW44.1
    have hlt_n1 : n1 < H43.next := by omega
    have hlt_n34 : n34 < H43.next := by omega
    refine O_p (.i .i64 (dErr ([] : List UInt8))) (r_mv rfl) ?_
    refine O_nil ?_
    refine C_seq ?_
    refine C_seq ?_
    refine C_draw fun b49 H50 hbase51 hA52 => ?_
    have hnx53 : H50.next = H43.next + 13 := hA52.1
    have hb54 := (hA52.2 _).trans hb45
    have hb55 := (hA52.2 _).trans hW44.2.1
    have hF56 := hA52.fr (fun _ => False)
    have hM57 := hM46.aside hA52
    have hO58 := hO47.aside hA52
    have hx_hO58 := hO58.next
    have hO59 := hO48.aside hA52
    have hlt_n1 : n1 < H50.next := by omega
    have hlt_n34 : n34 < H50.next := by omega
    refine D_l (v := (.i .i64 (encE kind label proto))) rfl rfl rfl (r_mv rfl) ?_
    refine D_l (v := (.b false)) rfl rfl rfl (by exact (by rw [r_eql rfl rfl, decide_eq_false (by first | omega | assumption)])) ?_
    refine D_l (v := (.b false)) rfl rfl rfl (r_mv rfl) ?_
    refine D_gf rfl ?_
    refine D_gf rfl ?_
    refine D_gf rfl ?_
    refine D_gu rfl ?_
    refine D_gu rfl ?_
    refine D_gu rfl ?_
    refine D_gu rfl ?_
    refine D_gu rfl ?_
    refine D_gf rfl ?_
    refine D_l (v := (.b false)) rfl rfl rfl (r_pick_f rfl rfl) ?_
    refine D_nil ?_
    refine C_cond (x := false) rfl (fun h => by cases h) (fun _ => ?_)
    refine C_skip ?_
    refine C_seq ?_
    refine C_region ?_
    refine O_p (.sl ba b.length bc 0) (r_mv rfl) ?_
    refine O_call (Ev.mono (dec_ev hO58.ok (htb.kp hok hO58) (.inl rfl) (bhb.old hok hO58) (by first | omega | (simp only [List.length_take, List.length_drop, List.length_append, List.length_cons, List.length_nil, beN_len] <;> omega)) (by first | omega | (simp only [List.length_take, List.length_drop, List.length_append, List.length_cons, List.length_nil, beN_len] <;> omega)) (by first | omega | (simp only [List.length_take, List.length_drop, List.length_append, List.length_cons, List.length_nil, beN_len] <;> omega))) fun v60 H61 hq62 => ?_)
    obtain ⟨rfl, hK63⟩ := hq62
    have hb64 := (hK63.keep _ (by omega)).trans hb54
    have hb65 := (hK63.keep _ (by omega)).trans hb55
    have hx_hK63 := hK63.next
    have hlt_n1 : n1 < H61.next := by omega
    have hlt_n34 : n34 < H61.next := by omega
    have hM66 := hM57.kp hK63
    have hO67 := hO58.trans hK63
    have hx_hO67 := hO67.next
    have hO68 := hO59.trans hK63
    refine O_p (.tup [(.agg [(.i .u8 (dK b)), (.i .u16 (dP b)), (.i .u32 (dL b)), (.s (txt (dT b))), (.s (txt (dO b)))]), (.i .i64 (dErr b))]) (r_mv rfl) ?_
    refine O_p (.agg [(.i .u8 (dK b)), (.i .u16 (dP b)), (.i .u32 (dL b)), (.s (txt (dT b))), (.s (txt (dO b)))]) (r_ext rfl rfl) ?_
    refine O_p (.i .i64 (dErr b)) (r_ext rfl rfl) ?_
    refine O_alloc fun n69 H70 hN71 => ?_
    have hF72 := hN71.fr (fun _ => False)
    have hb73 := (hF72.keep _ (by exact hlt_n1) (fun h => h)).trans hb64
    have hb74 := (hF72.keep _ (by exact hlt_n34) (fun h => h)).trans hb65
    have hM75 := hM66.anew hN71
    have hO76 := hO67.new hN71
    have hx_hO76 := hO76.next
    have hO77 := hO68.new hN71
    have hd78 : ¬ ((.sl oa20 (([] : List UInt8)).length (([] : List UInt8)).length og21) : AV).nameOf n69 := hM66.dis (by have := hN71.1; omega)
    have hnm_n69 : n69 = H61.next := hN71.1
    have hnx_H70 : H70.next = H61.next + 1 := hN71.2.1
    have hlt_n1 : n1 < H70.next := by omega
    have hlt_n34 : n34 < H70.next := by omega
    have hlt_n69 : n69 < H70.next := by omega
    refine O_store (vs := [(.i .u8 (dK b)), (.i .u16 (dP b)), (.i .u32 (dL b)), (.s (txt (dT b))), (.s (txt (dO b)))]) (c' := [(.i .u8 (dK b)), (.i .u16 (dP b)), (.i .u32 (dL b)), (.s (txt (dT b))), (.s (txt (dO b)))]) rfl (by rfl) hN71.2.2.1 rfl (List.cons_ne_nil _ _) (Nat.le_of_ble_eq_true rfl) rfl fun H79 hW80 => ?_
    have hb81 := (hW80.2.2 _ (by omega)).trans hb73
    have hb82 := (hW80.2.2 _ (by omega)).trans hb74
    have hM83 := hM75.wr hW80 hd78
    have hO84 := hO76.wr hW80 (by omega) (by omega)
    have hx_hO84 := hO84.next
    have hO85 := hO77.wr hW80 (by omega) (by omega)
    have hnx_H79 : H79.next = H70.next := hW80.1
    have hlt_n1 : n1 < H79.next := by omega
    have hlt_n34 : n34 < H79.next := by omega
    have hlt_n69 : n69 < H79.next := by omega
    refine O_p (.i .i64 (dErr b)) (r_mv rfl) ?_
    refine O_nil ?_
    refine C_seq ?_
    refine C_region ?_
    refine O_p (.agg [(.i .u8 (dK b)), (.i .u16 (dP b)), (.i .u32 (dL b)), (.s (txt (dT b))), (.s (txt (dO b)))]) (r_ldA rfl hW80.2.1 rfl) ?_
    refine O_call (Ev.mono (enc_ev hO84.ok (htb.kp hok hO84) (dK b) (dP b) (dL b) (dT b) (dO b) hdr.1 hdr.2.1 hdr.2.2.1 (by omega) (by omega)) fun v86 H87 hq88 => ?_)
    obtain ⟨o89, rfl, hM90, hK91⟩ := hq88
    have hb92 := (hK91.keep _ (by omega)).trans hb81
    have hb93 := (hK91.keep _ (by omega)).trans hb82
    have hb94 := (hK91.keep _ (by omega)).trans hW80.2.1
    have hx_hK91 := hK91.next
    have hlt_n1 : n1 < H87.next := by omega
    have hlt_n34 : n34 < H87.next := by omega
    have hlt_n69 : n69 < H87.next := by omega
    have hM95 := hM83.kp hK91
    have hO96 := hO84.trans hK91
    have hx_hO96 := hO96.next
    have hO97 := hO85.trans hK91
    have hM98 := hM90.down (N := H.next) (by omega)
    have hd99 : ¬ o89.nameOf n1 := fun hq => by have := hM90.new _ hq; omega
    have hd100 : ¬ o89.nameOf n34 := fun hq => by have := hM90.new _ hq; omega
    have hd101 : ¬ o89.nameOf n69 := fun hq => by have := hM90.new _ hq; omega
    refine O_p (.tup [o89, (.i .i64 (encE (dK b) (dT b) (dO b)))]) (r_mv rfl) ?_
    refine O_p o89 (r_ext rfl rfl) ?_
    refine O_p (.i .i64 (encE (dK b) (dT b) (dO b))) (r_ext rfl rfl) ?_
    refine O_p o89 (r_mv rfl) ?_
    refine O_p (.i .i64 (encE (dK b) (dT b) (dO b))) (r_mv rfl) ?_
    refine O_nil ?_
    refine C_seq ?_
    refine C_region ?_
    refine O_p (.b true) (r_mv rfl) ?_
    refine O_p (.b true) (r_mv rfl) ?_
    refine O_gs (v := (.i .i64 (encE kind label proto))) rfl (r_mv rfl) ?_
    refine O_gs (v := (.b false)) rfl (by exact (by rw [r_eql rfl rfl, decide_eq_false (by first | omega | assumption)])) ?_
    refine O_gs (v := (.b false)) rfl (r_mv rfl) ?_
    refine O_gs (v := (.sl oa20 (([] : List UInt8)).length (([] : List UInt8)).length og21)) rfl (r_mv rfl) ?_
    refine O_gs (v := (.i .i64 0)) rfl (by exact (by exact r_lenOf rfl (hM95.own.lenOf ((bcells_len _).trans (Nat.mul_one _).symm) (by decide)) hM95.own.isSl)) ?_
    refine O_gs (v := (.b true)) rfl (r_bin rfl rfl rfl) ?_
    refine O_gs (v := (.b true)) rfl (r_pick_f rfl rfl) ?_
    refine O_p (.b true) (r_pick_t rfl rfl) ?_
    refine O_p (.b true) (r_mv rfl) ?_
    refine O_gs (v := (.i .i64 (dErr b))) rfl (r_mv rfl) ?_
    refine O_gs (v := (.b true)) rfl (by exact (by rw [r_neq rfl rfl, decide_eq_false (by first | omega | assumption)]; rfl)) ?_
    refine O_gs (v := (.b true)) rfl (r_mv rfl) ?_
    refine O_gf rfl ?_
    refine O_gf rfl ?_
    refine O_gf rfl ?_
    refine O_gu rfl ?_
    refine O_gu rfl ?_
    refine O_gu rfl ?_
    refine O_gf rfl ?_
    refine O_gs (v := (.b true)) rfl (r_pick_t rfl rfl) ?_
    refine O_p (.b true) (r_pick_t rfl rfl) ?_
    refine O_p (.b true) (r_mv rfl) ?_
    refine O_nil ?_
    refine C_ret ?_
    exact ⟨.inr rfl, _, resL_one (r_tmp (v := .b true) rfl), rfl⟩
theorem run5 (H : AH) (hok : H.Ok) (htb : Tb H) (kind prio limit : Int) (label proto : List UInt8) (hk : 0 ≤ kind ∧ kind < 256) (hp : 0 ≤ prio ∧ prio < 65536) (hl : 0 ≤ limit ∧ limit < 4294967296) (hll : label.length ≤ maxLen) (hpl : proto.length ≤ maxLen) (ba : Option (Nat × Nat)) (bc : Nat) (b : List UInt8) (bhb : Bs H (.sl ba b.length bc 0) b) (bhc : b.length ≤ bc) (bhm0 : bc ≤ maxLen) : Ev tabV spV (.fn (.func 5) [] []) [.agg [(.i .u8 kind), (.i .u16 prio), (.i .u32 limit), (.s (txt label)), (.s (txt proto))], .sl ba b.length bc 0] H (fun v _ => v = .b true) := by
  by_cases hE : encE kind label proto = 0
  · by_cases hD : dErr b = 0
    · exact run5tt H hok htb kind prio limit label proto hk hp hl hll hpl ba bc b bhb bhc bhm0 hE hD
    · exact run5tf H hok htb kind prio limit label proto hk hp hl hll hpl ba bc b bhb bhc bhm0 hE hD
  · by_cases hD : dErr b = 0
    · exact run5ft H hok htb kind prio limit label proto hk hp hl hll hpl ba bc b bhb bhc bhm0 hE hD
    · exact run5ff H hok htb kind prio limit label proto hk hp hl hll hpl ba bc b bhb bhc bhm0 hE hD
set_option maxRecDepth 100000 in
theorem law5 (W : World) (ρ : Rho) (H : AH) (xs : List AV) (args : Array Value) (hR : Rel Tryd.prog W.heap.size W ρ H W) (hro : RO H) (hT : ∀ n b, tabs0.get n = some b → H.get n = some b) (hv : VRL ρ xs args.toList) (ht : TypedVs Tryd.prog H 9 Tryd.f5.params.toList xs) :
    Calls Tryd.prog 5 args W fun e w' => e = .returned (.bool true) ∧ Below W.heap.size W w' := by
  rw [Tryd.params5] at ht
  obtain ⟨a0, xs, rfl, g0, a1, xs, rfl, g1, rfl⟩ := ht
  obtain ⟨l, rfl, g⟩ := typedV_struct Tryd.underlying25 g0
  obtain ⟨hl, hq⟩ := struct_parts (qs := [(5, 0, 1), (22, 1, 1), (23, 2, 1), (9, 3, 1), (9, 4, 1)]) Tryd.underlying25 g (by kernel_rfl)
  rw [show Tryd.prog.cellsOf 25 = 5 by kernel_rfl] at hl
  obtain ⟨x0, x1, x2, x3, x4, rfl⟩ : ∃ a b c d e, l = [a, b, c, d, e] := by
    match l, hl with
    | [a, b, c, d, e], _ => exact ⟨a, b, c, d, e, rfl⟩
  simp only [List.forall_mem_cons, List.drop_zero, List.drop_succ_cons, List.take_succ_cons, List.take_zero] at hq
  obtain ⟨q0, q1, q2, q3, q4, _⟩ := hq
  obtain ⟨kind, e0, w0⟩ := typed_int Tryd.underlying5 q0
  obtain ⟨prio, e1, w1⟩ := typed_int Tryd.underlying22 q1
  obtain ⟨limit, e2, w2⟩ := typed_int Tryd.underlying23 q2
  obtain ⟨ls, e3, w3⟩ := typed_string Tryd.underlying9 q3
  obtain ⟨pr, e4, w4⟩ := typed_string Tryd.underlying9 q4
  cases e0; cases e1; cases e2; cases e3; cases e4
  obtain ⟨label, rfl⟩ := txt_ex ls
  obtain ⟨proto, rfl⟩ := txt_ex pr
  rw [txt_size] at w3 w4
  obtain ⟨ba, bn, bc, b, rfl, bhb, rfl, bhc, bhm⟩ := typed_bytes Tryd.underlying27 Tryd.underlying5 (by kernel_rfl) (typedV_slice Tryd.underlying27 g1)
  obtain ⟨k, v, H', hex, rfl⟩ := run5 H hR.aok (Tb.of hT) kind prio limit label proto (wfU8 w0) (wfU16 w1) (wfU32 w2) w3 w4 ba bc b bhb bhc bhm
  exact law_of mixed tabV_ok spV_ok hex hR hv
end Go.Proofs.YtfhbdddjclodhaaDoor.E
namespace Go.Proofs.YtfhbdddjclodhaaDoor.dcepBack
open Go.ChangeShapes Go.WideShapes Go.RowKit Go.ChangeAt
set_option linter.unusedVariables false
theorem types : (Tryd.f5.params.toList.all fun t => E.fit Tryd.prog 9 t && (Tryd.prog.readableRec t && decide (t < Tryd.prog.types.size))) = true := by kernel_rfl
set_option maxRecDepth 100000 in
theorem lifted (os : Os) (started : os.Started) (H : Type) (enc : TypeId × Value → H) :
    ReturnsInHanded {} Tryd.checked os 5 .any (fun w args => (Rows.dcepBackSpec.pre enc Tryd.prog Tryd.f5 Rows.dcepBackRow.domain false w args ∧ laidMetH Tryd.prog E.laid18 w) ∧ sizedMet enc Tryd.prog Tryd.f5 (OpenSpec.ofChange Rows.dcepBackSpec) false w args) (Rows.dcepBackSpec.post enc Tryd.prog Tryd.f5 false true false false) :=
  E.law_liftedG (C := Tryd.checked) (k := 9) (tb := 4) (X := fun w => laidMetH Tryd.prog E.laid18 w) E.laid (fun _ _ hh h => h.of_heap hh) (fun W h => E.Rel.tabs E.globals2 (E.tabs18 h)) E.tabs0_ro E.own18 started (by kernel_rfl) Tryd.func5
    (ChangeSpec.witness_shaped (enc := enc) (C := Tryd.checked) (os := os) (X := fun w _ => laidMetH Tryd.prog E.laid18 w) false (World.laidAll Tryd.prog os E.laid18) #[.agg #[.int .u8 0, .int .u16 0, .int .u32 0, .string .empty, .string .empty], .slice none 0 0] 8 (World.laidAll_os _ _ _)
      (World.shaped_of_ZipB (by kernel_rfl) (by kernel_rfl)) (by kernel_rfl) (by kernel_rfl) (by kernel_rfl)
      (by rw [MakeChecks.laidMetH_plain _ _ _ (by kernel_rfl)]; exact laidMet_laidAll _ (by kernel_rfl) (by kernel_rfl)))
    rfl rfl Tryd.underlying4 (fun t ht => by have h := List.all_eq_true.1 types t ht; simp only [Bool.and_eq_true, decide_eq_true_eq] at h; exact h)
    (fun ds hd => by
      rw [Tryd.params5] at hd
      match ds, hd with
      | [d0, d1], _ => rfl) E.law5
theorem over : Rows.dcepBackRow.holds Tryd.pinned (OpenSpec.ofChange Rows.dcepBackSpec) :=
  OpenClaim.holds_of_wide 5 Tryd.f5 rfl rfl rfl rfl rfl rfl rfl ⟨rfl, rfl, rfl, rfl, rfl⟩ rfl rfl rfl rfl rfl (by kernel_rfl) Tryd.func5 (by kernel_rfl)
    (of_decide_eq_true (by kernel_rfl)) (by unfold Func.isWrapper; first | (rw [if_pos (by decide +kernel)]; kernel_rfl) | (rw [if_neg (by decide +kernel)]; exact ⟨rfl, rfl⟩))
    (fun os started H enc _ => lifted os started H enc)
theorem card : Claim7.holds Tryd.pinned (.plain (OpenSpec.ofChange Rows.dcepBackSpec)) Rows.dcepBackCard :=
  Claim7.holds_tied_plain_at .later [] [.data, .pinned] true (true, "840fe89f1718999666760e2798cb68f93cfa0fb72f9e95c902c9bbcf5ac830c4") false over (fun _ h => by cases h) (by kernel_rfl) (fun _ h => by cases h) dcepBack_row_tie rfl ⟨rfl, rfl⟩ (by kernel_rfl) rfl
    (fun f fn hf hfn => by
      obtain rfl : f = 5 := Option.some.inj ((show Tryd.prog.funcNamed "bollard/bollardlaw18.DcepBack" = some 5 by kernel_rfl).symm.trans hf) |>.symm
      obtain rfl : fn = Tryd.f5 := (Option.some.inj (Tryd.func5.symm.trans hfn)).symm
      exact ⟨by kernel_rfl, fun j t ht => by
        rw [Tryd.params5] at ht
        have hm : t ∈ [25, 27] := by simpa using Array.mem_of_getElem? ht
        have hall : ([25, 27].all fun u => !Tryd.prog.wantsStandIn u) = true := by kernel_rfl
        exact (show Tryd.prog.wantsStandIn t = false by simpa using List.all_eq_true.1 hall t hm)⟩)
    (by kernel_rfl)
end Go.Proofs.YtfhbdddjclodhaaDoor.dcepBack
namespace Go.Proofs.YtfhbdddjclodhaaDoor
/-- The card, under a short name, for the claim. -/
theorem dcepBack_holds : Rows.DcepBackCardSaid := dcepBack.card
#print axioms dcepBack_holds
end Go.Proofs.YtfhbdddjclodhaaDoor
