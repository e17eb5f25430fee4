/- CookieBack, for every input, without conditions. -/
import Derived.Test.YteapgimihapefaaA
import Derived.Test.YteapgimihapefaaRows
import Derived.ProofKit
import Derived.OpenShut
namespace Go.Proofs.Yteapgimihapefaa.E
open Go.RowKit (Below)
set_option linter.unusedVariables false
set_option linter.unusedSimpArgs false
set_option maxRecDepth 100000 in
set_option maxHeartbeats 4000000 in
theorem run5tf (H : AH) (hok : H.Ok) (ka : Option (Nat × Nat)) (kc : Nat) (key : List UInt8) (khb : Bs H (.sl ka key.length kc 0) key) (khc : key.length ≤ kc) (khm0 : kc ≤ maxLen) (made : Int) (w_made : (Lit.int .i64 made).wf = true) (life : Int) (w_life : (Lit.int .i64 life).wf = true) (tag : Int) (w_tag : (Lit.int .u32 tag).wf = true) (peer : Int) (w_peer : (Lit.int .u32 peer).wf = true) (first : Int) (w_first : (Lit.int .u32 first).wf = true) (pf : Int) (w_pf : (Lit.int .u32 pf).wf = true) (room : Int) (w_room : (Lit.int .u32 room).wf = true) (out : Int) (w_out : (Lit.int .u16 out).wf = true) (inn : Int) (w_inn : (Lit.int .u16 inn).wf = true) (tie0 : Int) (w_tie0 : (Lit.int .u32 tie0).wf = true) (tie1 : Int) (w_tie1 : (Lit.int .u32 tie1).wf = true) (now : Int) (hk16 : key.length = 16) (hS : okS made life = true) (hfr : made ≤ now ∧ now ≤ made + life) : Ev tabA spA (.fn (.func 5) [] []) [.sl ka key.length kc 0, .agg [(.i .i64 made), (.i .i64 life), (.i .u32 tag), (.i .u32 peer), (.i .u32 first), (.i .u32 pf), (.i .u32 room), (.i .u16 out), (.i .u16 inn), (.i .u32 tie0), (.i .u32 tie1)], .i .i64 now] H (fun v _ => v = .b true) := by
  refine Ev_C (F := x5) rfl ?_
  have hO0 := Old.refl hok
  have khm : kc ≤ 9223372036854775807 := khm0
  have hma : -9223372036854775808 ≤ made ∧ made < 9223372036854775808 := by simp [Lit.wf, IntKind.wrap, IntKind.signed, IntKind.bits, IntKind.min, IntKind.max] at w_made; omega
  have hli : -9223372036854775808 ≤ life ∧ life < 9223372036854775808 := by simp [Lit.wf, IntKind.wrap, IntKind.signed, IntKind.bits, IntKind.min, IntKind.max] at w_life; omega
  have ht : 0 ≤ tag ∧ tag < 4294967296 := by simp [Lit.wf, IntKind.wrap, IntKind.signed, IntKind.bits, IntKind.min, IntKind.max] at w_tag; omega
  have hp : 0 ≤ peer ∧ peer < 4294967296 := by simp [Lit.wf, IntKind.wrap, IntKind.signed, IntKind.bits, IntKind.min, IntKind.max] at w_peer; omega
  have hf : 0 ≤ first ∧ first < 4294967296 := by simp [Lit.wf, IntKind.wrap, IntKind.signed, IntKind.bits, IntKind.min, IntKind.max] at w_first; omega
  have hpf : 0 ≤ pf ∧ pf < 4294967296 := by simp [Lit.wf, IntKind.wrap, IntKind.signed, IntKind.bits, IntKind.min, IntKind.max] at w_pf; omega
  have hr : 0 ≤ room ∧ room < 4294967296 := by simp [Lit.wf, IntKind.wrap, IntKind.signed, IntKind.bits, IntKind.min, IntKind.max] at w_room; omega
  have ho : 0 ≤ out ∧ out < 65536 := by simp [Lit.wf, IntKind.wrap, IntKind.signed, IntKind.bits, IntKind.min, IntKind.max] at w_out; omega
  have hi : 0 ≤ inn ∧ inn < 65536 := by simp [Lit.wf, IntKind.wrap, IntKind.signed, IntKind.bits, IntKind.min, IntKind.max] at w_inn; omega
  have h0 : 0 ≤ tie0 ∧ tie0 < 4294967296 := by simp [Lit.wf, IntKind.wrap, IntKind.signed, IntKind.bits, IntKind.min, IntKind.max] at w_tie0; omega
  have h1 : 0 ≤ tie1 ∧ tie1 < 4294967296 := by simp [Lit.wf, IntKind.wrap, IntKind.signed, IntKind.bits, IntKind.min, IntKind.max] at w_tie1; omega
  have h12 : tabA 12 = some x12 := rfl
  have h13 : tabA 13 = some x13 := rfl
  have hS4 : ((0 ≤ made ∧ made ≤ 281474976710656) ∧ 0 ≤ life) ∧ life ≤ 281474976710656 := by unfold okS at hS; simpa only [Bool.and_eq_true, decide_eq_true_eq] using hS
  have hcE : cErr key (sealed key (b32 (wordsL made life tag peer first pf room out inn tie0 tie1))) = 0 := cErr_sealed hk16 ⟨hS4.1.1.1, hS4.1.1.2⟩ ⟨hS4.1.2, hS4.2⟩ ht hp hf hpf hr ho hi h0 h1
  have hcS : ∀ j, cSt key (sealed key (b32 (wordsL made life tag peer first pf room out inn tie0 tie1))) j = [made, life, tag, peer, first, pf, room, out, inn, tie0, tie1].getD j 0 := cSt_sealed hk16 ⟨hS4.1.1.1, hS4.1.1.2⟩ ⟨hS4.1.2, hS4.2⟩ ht hp hf hpf hr ho hi h0 h1
  have hl60s : ((sealed key (b32 (wordsL made life tag peer first pf room out inn tie0 tie1)))).length = 60 := by rw [sealed_len, b32_len]; rfl
  have hc0 : cSt key (sealed key (b32 (wordsL made life tag peer first pf room out inn tie0 tie1))) 0 = made := hcS 0
  have hc1 : cSt key (sealed key (b32 (wordsL made life tag peer first pf room out inn tie0 tie1))) 1 = life := hcS 1
  have hkE : kErr key (sealed key (b32 (wordsL made life tag peer first pf room out inn tie0 tie1))) now = 0 := kErr_0 hcE (by rw [hc0, hc1]; omega)
  refine C_seq ?_
  refine C_region ?_
  refine O_box (z := [(.i .i64 made), (.i .i64 life), (.i .u32 tag), (.i .u32 peer), (.i .u32 first), (.i .u32 pf), (.i .u32 room), (.i .u16 out), (.i .u16 inn), (.i .u32 tie0), (.i .u32 tie1)]) rfl fun n1 H2 hN3 => ?_
  have hF4 := hN3.fr (fun _ => False)
  have hO5 := hO0.new hN3
  have hx_hO5 := hO5.next
  have hnm_n1 : n1 = H.next := hN3.1
  have hnx_H2 : H2.next = H.next + 1 := hN3.2.1
  have hlt_n1 : n1 < H2.next := by omega
  refine O_p (.b false) (r_mv rfl) ?_
  refine O_nil ?_
  refine C_seq ?_
  refine C_region ?_
  refine O_call (Ev.mono (awake_ev hO5.ok) fun v6 H7 hq8 => ?_)
  obtain ⟨rfl, hK9⟩ := hq8
  have hb10 := (hK9.keep _ (by omega)).trans hN3.2.2.1
  have hx_hK9 := hK9.next
  have hlt_n1 : n1 < H7.next := by omega
  have hO11 := hO5.trans hK9
  have hx_hO11 := hO11.next
  refine O_p (.b true) (r_mv rfl) ?_
  refine O_nil ?_
  refine C_seq ?_
  refine C_region ?_
  refine O_p (.sl ka key.length kc 0) (r_mv rfl) ?_
  refine O_p (.agg [(.i .i64 made), (.i .i64 life), (.i .u32 tag), (.i .u32 peer), (.i .u32 first), (.i .u32 pf), (.i .u32 room), (.i .u16 out), (.i .u16 inn), (.i .u32 tie0), (.i .u32 tie1)]) (r_ldA rfl hb10 rfl) ?_
  refine O_call (Ev.mono (enc_t hO11.ok (.inl rfl) (khb.old hok hO11) (by first | omega | (simp only [List.length_take, List.length_drop, List.length_append, List.length_cons, List.length_nil, beN_len] <;> omega)) (by first | omega | (simp only [List.length_take, List.length_drop, List.length_append, List.length_cons, List.length_nil, beN_len] <;> omega)) made life tag peer first pf room out inn tie0 tie1 hk16 hS) fun v12 H13 hq14 => ?_)
  obtain ⟨o15, rfl, hM16, hK17⟩ := hq14
  have hb18 := (hK17.keep _ (by omega)).trans hb10
  have hx_hK17 := hK17.next
  have hlt_n1 : n1 < H13.next := by omega
  have hO19 := hO11.trans hK17
  have hx_hO19 := hO19.next
  have hM20 := hM16.down (N := H.next) (by omega)
  have hlz_o15 : ((sealed key (b32 (wordsL made life tag peer first pf room out inn tie0 tie1)))).length = 60 := by rw [sealed_len, b32_len]; rfl
  have hd21 : ¬ o15.nameOf n1 := fun hq => by have := hM16.new _ hq; omega
  refine O_p (.tup [o15, (.b true)]) (r_mv rfl) ?_
  refine O_p o15 (r_ext rfl rfl) ?_
  refine O_p (.b true) (r_ext rfl rfl) ?_
  refine O_p o15 (r_mv rfl) ?_
  refine O_p (.b true) (r_mv rfl) ?_
  refine O_nil ?_
  refine C_seq ?_
  refine C_seq ?_
  refine C_region ?_
  refine O_p (.b true) (r_mv rfl) ?_
  refine O_p (.b false) (r_un rfl rfl) ?_
  refine O_nil ?_
  refine C_cond (x := false) rfl (fun h => by cases h) (fun _ => ?_)
  refine C_skip ?_
  refine C_seq ?_
  refine C_region ?_
  refine O_p (.sl ka key.length kc 0) (r_mv rfl) ?_
  refine O_p o15 (r_mv rfl) ?_
  have hsf26 : Own 1 H13 o15 (bcells (sealed key (b32 (wordsL made life tag peer first pf room out inn tie0 tie1)))) := hM20.own
  obtain ⟨oa22, og23, rfl, hog24, hob25⟩ := hsf26.bs
  have base27 := Old.refl hO19.ok
  refine O_call (Ev.mono (dec_ev hO19.ok (.inl rfl) (khb.old hok hO19) (by first | omega | (simp only [List.length_take, List.length_drop, List.length_append, List.length_cons, List.length_nil, beN_len] <;> omega)) (by first | omega | (simp only [List.length_take, List.length_drop, List.length_append, List.length_cons, List.length_nil, beN_len] <;> omega)) hog24 (hM20.own.asbs) (by first | omega | (simp only [List.length_take, List.length_drop, List.length_append, List.length_cons, List.length_nil, beN_len] <;> omega)) (by first | omega | (simp only [List.length_take, List.length_drop, List.length_append, List.length_cons, List.length_nil, beN_len] <;> omega))) fun v28 H29 hq30 => ?_)
  simp only [hcE, hcS] at hq30
  obtain ⟨rfl, hK31⟩ := hq30
  have hb32 := (hK31.keep _ (by omega)).trans hb18
  have hx_hK31 := hK31.next
  have hlt_n1 : n1 < H29.next := by omega
  have hM33 := hM20.kp hK31
  have hO34 := hO19.trans hK31
  have hx_hO34 := hO34.next
  have hO35 := base27.trans hK31
  refine O_p (.tup [(.agg [(.i .i64 made), (.i .i64 life), (.i .u32 tag), (.i .u32 peer), (.i .u32 first), (.i .u32 pf), (.i .u32 room), (.i .u16 out), (.i .u16 inn), (.i .u32 tie0), (.i .u32 tie1)]), (.i .i64 0)]) (r_mv rfl) ?_
  refine O_p (.agg [(.i .i64 made), (.i .i64 life), (.i .u32 tag), (.i .u32 peer), (.i .u32 first), (.i .u32 pf), (.i .u32 room), (.i .u16 out), (.i .u16 inn), (.i .u32 tie0), (.i .u32 tie1)]) (r_ext rfl rfl) ?_
  refine O_p (.i .i64 0) (r_ext rfl rfl) ?_
  refine O_alloc fun n36 H37 hN38 => ?_
  have hF39 := hN38.fr (fun _ => False)
  have hb40 := (hF39.keep _ (by exact hlt_n1) (fun h => h)).trans hb32
  have hM41 := hM33.anew hN38
  have hO42 := hO34.new hN38
  have hx_hO42 := hO42.next
  have hO43 := hO35.new hN38
  have hd44 : ¬ ((.sl oa22 ((sealed key (b32 (wordsL made life tag peer first pf room out inn tie0 tie1)))).length ((sealed key (b32 (wordsL made life tag peer first pf room out inn tie0 tie1)))).length og23) : AV).nameOf n36 := hM33.dis (by have := hN38.1; omega)
  have hnm_n36 : n36 = H29.next := hN38.1
  have hnx_H37 : H37.next = H29.next + 1 := hN38.2.1
  have hlt_n1 : n1 < H37.next := by omega
  have hlt_n36 : n36 < H37.next := by omega
  refine O_store (vs := [(.i .i64 made), (.i .i64 life), (.i .u32 tag), (.i .u32 peer), (.i .u32 first), (.i .u32 pf), (.i .u32 room), (.i .u16 out), (.i .u16 inn), (.i .u32 tie0), (.i .u32 tie1)]) (c' := [(.i .i64 made), (.i .i64 life), (.i .u32 tag), (.i .u32 peer), (.i .u32 first), (.i .u32 pf), (.i .u32 room), (.i .u16 out), (.i .u16 inn), (.i .u32 tie0), (.i .u32 tie1)]) rfl (by rfl) hN38.2.2.1 rfl (List.cons_ne_nil _ _) (Nat.le_of_ble_eq_true rfl) rfl fun H45 hW46 => ?_
  have hb47 := (hW46.2.2 _ (by omega)).trans hb40
  have hM48 := hM41.wr hW46 hd44
  have hO49 := hO42.wr hW46 (by omega) (by omega)
  have hx_hO49 := hO49.next
  have hO50 := hO43.wr hW46 (by omega) (by omega)
  have hnx_H45 : H45.next = H37.next := hW46.1
  have hlt_n1 : n1 < H45.next := by omega
  have hlt_n36 : n36 < H45.next := by omega
  refine O_p (.i .i64 0) (r_mv rfl) ?_
  refine O_nil ?_
  refine C_seq ?_
  refine C_region ?_
  refine O_p (.sl ka key.length kc 0) (r_mv rfl) ?_
  refine O_p (.sl oa22 ((sealed key (b32 (wordsL made life tag peer first pf room out inn tie0 tie1)))).length ((sealed key (b32 (wordsL made life tag peer first pf room out inn tie0 tie1)))).length og23) (r_mv rfl) ?_
  refine O_p (.i .i64 now) (r_mv rfl) ?_
  refine O_call (Ev.mono (chk_ev hO49.ok (.inl rfl) (khb.old hok hO49) (by first | omega | (simp only [List.length_take, List.length_drop, List.length_append, List.length_cons, List.length_nil, beN_len] <;> omega)) (by first | omega | (simp only [List.length_take, List.length_drop, List.length_append, List.length_cons, List.length_nil, beN_len] <;> omega)) hog24 (hM48.own.asbs) (by first | omega | (simp only [List.length_take, List.length_drop, List.length_append, List.length_cons, List.length_nil, beN_len] <;> omega)) (by first | omega | (simp only [List.length_take, List.length_drop, List.length_append, List.length_cons, List.length_nil, beN_len] <;> omega)) now) fun v51 H52 hq53 => ?_)
  rw [hkE] at hq53
  simp only [kSt_ok hkE, hcS] at hq53
  obtain ⟨rfl, hK54⟩ := hq53
  have hb55 := (hK54.keep _ (by omega)).trans hb47
  have hb56 := (hK54.keep _ (by omega)).trans hW46.2.1
  have hx_hK54 := hK54.next
  have hlt_n1 : n1 < H52.next := by omega
  have hlt_n36 : n36 < H52.next := by omega
  have hM57 := hM48.kp hK54
  have hO58 := hO49.trans hK54
  have hx_hO58 := hO58.next
  have hO59 := hO50.trans hK54
  refine O_p (.tup [(.agg [(.i .i64 made), (.i .i64 life), (.i .u32 tag), (.i .u32 peer), (.i .u32 first), (.i .u32 pf), (.i .u32 room), (.i .u16 out), (.i .u16 inn), (.i .u32 tie0), (.i .u32 tie1)]), (.i .i64 0)]) (r_mv rfl) ?_
  refine O_p (.agg [(.i .i64 made), (.i .i64 life), (.i .u32 tag), (.i .u32 peer), (.i .u32 first), (.i .u32 pf), (.i .u32 room), (.i .u16 out), (.i .u16 inn), (.i .u32 tie0), (.i .u32 tie1)]) (r_ext rfl rfl) ?_
  refine O_p (.i .i64 0) (r_ext rfl rfl) ?_
  refine O_alloc fun n60 H61 hN62 => ?_
  have hF63 := hN62.fr (fun _ => False)
  have hb64 := (hF63.keep _ (by exact hlt_n1) (fun h => h)).trans hb55
  have hb65 := (hF63.keep _ (by exact hlt_n36) (fun h => h)).trans hb56
  have hM66 := hM57.anew hN62
  have hO67 := hO58.new hN62
  have hx_hO67 := hO67.next
  have hO68 := hO59.new hN62
  have hd69 : ¬ ((.sl oa22 ((sealed key (b32 (wordsL made life tag peer first pf room out inn tie0 tie1)))).length ((sealed key (b32 (wordsL made life tag peer first pf room out inn tie0 tie1)))).length og23) : AV).nameOf n60 := hM57.dis (by have := hN62.1; omega)
  have hnm_n60 : n60 = H52.next := hN62.1
  have hnx_H61 : H61.next = H52.next + 1 := hN62.2.1
  have hlt_n1 : n1 < H61.next := by omega
  have hlt_n36 : n36 < H61.next := by omega
  have hlt_n60 : n60 < H61.next := by omega
  refine O_store (vs := [(.i .i64 made), (.i .i64 life), (.i .u32 tag), (.i .u32 peer), (.i .u32 first), (.i .u32 pf), (.i .u32 room), (.i .u16 out), (.i .u16 inn), (.i .u32 tie0), (.i .u32 tie1)]) (c' := [(.i .i64 made), (.i .i64 life), (.i .u32 tag), (.i .u32 peer), (.i .u32 first), (.i .u32 pf), (.i .u32 room), (.i .u16 out), (.i .u16 inn), (.i .u32 tie0), (.i .u32 tie1)]) rfl (by rfl) hN62.2.2.1 rfl (List.cons_ne_nil _ _) (Nat.le_of_ble_eq_true rfl) rfl fun H70 hW71 => ?_
  have hb72 := (hW71.2.2 _ (by omega)).trans hb64
  have hb73 := (hW71.2.2 _ (by omega)).trans hb65
  have hM74 := hM66.wr hW71 hd69
  have hO75 := hO67.wr hW71 (by omega) (by omega)
  have hx_hO75 := hO75.next
  have hO76 := hO68.wr hW71 (by omega) (by omega)
  have hnx_H70 : H70.next = H61.next := hW71.1
  have hlt_n1 : n1 < H70.next := by omega
  have hlt_n36 : n36 < H70.next := by omega
  have hlt_n60 : n60 < H70.next := by omega
  refine O_p (.i .i64 0) (r_mv rfl) ?_
  refine O_nil ?_
  refine C_seq ?_
  refine C_region ?_
  refine O_p (.i .i64 now) (r_mv rfl) ?_
  refine O_p (.p (some (n1, 0))) (r_fadd' rfl rfl) ?_
  refine O_p (.i .i64 made) (r_ld rfl hb72 rfl) ?_
  refine O_p (.b true) (by exact (by rw [r_geq rfl rfl, decide_eq_true (by omega)])) ?_
  refine O_p (.b true) (r_mv rfl) ?_
  refine O_gs (v := (.i .i64 now)) rfl (r_mv rfl) ?_
  refine O_gs (v := (.p (some (n1, 0)))) rfl (r_fadd' rfl rfl) ?_
  refine O_gs (v := (.i .i64 made)) rfl (r_ld rfl hb72 rfl) ?_
  refine O_gs (v := (.p (some (n1, 1)))) rfl (r_fadd' rfl rfl) ?_
  refine O_gs (v := (.i .i64 life)) rfl (r_ld rfl hb72 rfl) ?_
  refine O_gs (v := (.i .i64 (made + life))) rfl (by exact (r_addi rfl rfl (wrap_i64 (by omega) (by omega)))) ?_
  refine O_gs (v := (.b true)) rfl (by exact (by rw [r_leq rfl rfl, decide_eq_true (by omega)])) ?_
  refine O_p (.b true) (r_pick_t rfl rfl) ?_
  refine O_p (.b true) (r_mv rfl) ?_
  refine O_nil ?_
  refine C_seq ?_
  refine C_draw fun b77 H78 hbase79 hA80 => ?_
  have hnx81 : H78.next = H70.next + 30 := hA80.1
  have hb82 := (hA80.2 _).trans hb72
  have hb83 := (hA80.2 _).trans hb73
  have hb84 := (hA80.2 _).trans hW71.2.1
  have hF85 := hA80.fr (fun _ => False)
  have hM86 := hM74.aside hA80
  have hO87 := hO75.aside hA80
  have hx_hO87 := hO87.next
  have hO88 := hO76.aside hA80
  have hlt_n1 : n1 < H78.next := by omega
  have hlt_n36 : n36 < H78.next := by omega
  have hlt_n60 : n60 < H78.next := by omega
  refine D_l (v := (.b true)) rfl rfl rfl (r_mv rfl) ?_
  refine D_l (v := (.b true)) rfl rfl rfl (r_mv rfl) ?_
  refine D_gl (v := (.sl oa22 ((sealed key (b32 (wordsL made life tag peer first pf room out inn tie0 tie1)))).length ((sealed key (b32 (wordsL made life tag peer first pf room out inn tie0 tie1)))).length og23)) rfl rfl rfl rfl (r_mv rfl) ?_
  refine D_gl (v := (.i .i64 60)) rfl rfl rfl rfl (by exact (by rw [show (60 : Int) = ((((sealed key (b32 (wordsL made life tag peer first pf room out inn tie0 tie1)))).length : Nat) : Int) from by rw [hl60s]; rfl]; exact r_len rfl)) ?_
  refine D_gl (v := (.b true)) rfl rfl rfl rfl (r_bin rfl rfl rfl) ?_
  refine D_l (v := (.b true)) rfl rfl rfl (r_pick_t rfl rfl) ?_
  refine D_l (v := (.b true)) rfl rfl rfl (r_mv rfl) ?_
  refine D_gl (v := (.i .i64 0)) rfl rfl rfl rfl (r_mv rfl) ?_
  refine D_gl (v := (.b true)) rfl rfl rfl rfl (r_bin rfl rfl rfl) ?_
  refine D_l (v := (.b true)) rfl rfl rfl (r_pick_t rfl rfl) ?_
  refine D_l (v := (.b true)) rfl rfl rfl (r_mv rfl) ?_
  refine D_gr (v := (.agg [(.i .i64 made), (.i .i64 life), (.i .u32 tag), (.i .u32 peer), (.i .u32 first), (.i .u32 pf), (.i .u32 room), (.i .u16 out), (.i .u16 inn), (.i .u32 tie0), (.i .u32 tie1)])) rfl rfl rfl rfl (r_ldA rfl hb82 rfl) ?_
  refine D_gr (v := (.agg [(.i .i64 made), (.i .i64 life), (.i .u32 tag), (.i .u32 peer), (.i .u32 first), (.i .u32 pf), (.i .u32 room), (.i .u16 out), (.i .u16 inn), (.i .u32 tie0), (.i .u32 tie1)])) rfl rfl rfl rfl (r_ldA rfl hb83 rfl) ?_
  refine D_gcall rfl (Ev.mono (theirs_ev h12 hO87.ok made life tag peer first pf room out inn tie0 tie1 ht hp hf hpf hr ho hi h0 h1) fun v89 H90 hq91 => ?_)
  obtain ⟨rfl, hK92⟩ := hq91
  have hb93 := (hK92.keep _ (by omega)).trans hb82
  have hb94 := (hK92.keep _ (by omega)).trans hb83
  have hb95 := (hK92.keep _ (by omega)).trans hb84
  have hx_hK92 := hK92.next
  have hlt_n1 : n1 < H90.next := by omega
  have hlt_n36 : n36 < H90.next := by omega
  have hlt_n60 : n60 < H90.next := by omega
  have hM96 := hM86.kp hK92
  have hO97 := hO87.trans hK92
  have hx_hO97 := hO97.next
  have hO98 := hO88.trans hK92
  refine And.intro (And.intro (Or.inl rfl) (And.intro (Or.inr (look_run rfl rfl (r_ldA rfl hb93 rfl))) True.intro)) ?_
  refine D_gcall rfl (Ev.mono (alike_ev hO97.ok made life tag peer first pf room out inn tie0 tie1 ht hp hf hpf hr ho hi h0 h1) fun v99 H100 hq101 => ?_)
  obtain ⟨rfl, hK102⟩ := hq101
  have hb103 := (hK102.keep _ (by omega)).trans hb93
  have hb104 := (hK102.keep _ (by omega)).trans hb94
  have hb105 := (hK102.keep _ (by omega)).trans hb95
  have hx_hK102 := hK102.next
  have hlt_n1 : n1 < H100.next := by omega
  have hlt_n36 : n36 < H100.next := by omega
  have hlt_n60 : n60 < H100.next := by omega
  have hM106 := hM96.kp hK102
  have hO107 := hO97.trans hK102
  have hx_hO107 := hO107.next
  have hO108 := hO98.trans hK102
  refine And.intro (And.intro (Or.inl rfl) True.intro) ?_
  refine D_l (v := (.b true)) rfl rfl rfl (r_pick_t rfl rfl) ?_
  refine D_l (v := (.b true)) rfl rfl rfl (r_mv rfl) ?_
  refine D_gl (v := (.i .i64 0)) rfl rfl rfl rfl (r_mv rfl) ?_
  refine D_gl (v := (.b true)) rfl rfl rfl rfl (r_bin rfl rfl rfl) ?_
  refine D_gl (v := (.b true)) rfl rfl rfl rfl (r_mv rfl) ?_
  refine D_gl (v := (.b true)) rfl rfl rfl rfl (r_beqq rfl rfl) ?_
  refine D_l (v := (.b true)) rfl rfl rfl (r_pick_t rfl rfl) ?_
  refine D_l (v := (.b true)) rfl rfl rfl (r_mv rfl) ?_
  refine D_gl (v := (.b true)) rfl rfl rfl rfl (r_mv rfl) ?_
  refine D_gl (v := (.b true)) rfl rfl rfl rfl (r_mv rfl) ?_
  refine D_gf rfl ?_
  refine D_gf rfl ?_
  refine D_gl (v := (.b true)) rfl rfl rfl rfl (r_pick_t rfl rfl) ?_
  refine D_l (v := (.b true)) rfl rfl rfl (r_pick_t rfl rfl) ?_
  refine D_l (v := (.b true)) rfl rfl rfl (r_mv rfl) ?_
  refine D_nil ?_
  refine C_ret ?_
  exact ⟨.inr rfl, _, resL_one (r_tmp (v := .b true) rfl), rfl⟩
set_option maxRecDepth 100000 in
set_option maxHeartbeats 4000000 in
theorem run5tb1 (H : AH) (hok : H.Ok) (ka : Option (Nat × Nat)) (kc : Nat) (key : List UInt8) (khb : Bs H (.sl ka key.length kc 0) key) (khc : key.length ≤ kc) (khm0 : kc ≤ maxLen) (made : Int) (w_made : (Lit.int .i64 made).wf = true) (life : Int) (w_life : (Lit.int .i64 life).wf = true) (tag : Int) (w_tag : (Lit.int .u32 tag).wf = true) (peer : Int) (w_peer : (Lit.int .u32 peer).wf = true) (first : Int) (w_first : (Lit.int .u32 first).wf = true) (pf : Int) (w_pf : (Lit.int .u32 pf).wf = true) (room : Int) (w_room : (Lit.int .u32 room).wf = true) (out : Int) (w_out : (Lit.int .u16 out).wf = true) (inn : Int) (w_inn : (Lit.int .u16 inn).wf = true) (tie0 : Int) (w_tie0 : (Lit.int .u32 tie0).wf = true) (tie1 : Int) (w_tie1 : (Lit.int .u32 tie1).wf = true) (now : Int) (hk16 : key.length = 16) (hS : okS made life = true) (hfr : now < made) : Ev tabA spA (.fn (.func 5) [] []) [.sl ka key.length kc 0, .agg [(.i .i64 made), (.i .i64 life), (.i .u32 tag), (.i .u32 peer), (.i .u32 first), (.i .u32 pf), (.i .u32 room), (.i .u16 out), (.i .u16 inn), (.i .u32 tie0), (.i .u32 tie1)], .i .i64 now] H (fun v _ => v = .b true) := by
  refine Ev_C (F := x5) rfl ?_
  have hO0 := Old.refl hok
  have khm : kc ≤ 9223372036854775807 := khm0
  have hma : -9223372036854775808 ≤ made ∧ made < 9223372036854775808 := by simp [Lit.wf, IntKind.wrap, IntKind.signed, IntKind.bits, IntKind.min, IntKind.max] at w_made; omega
  have hli : -9223372036854775808 ≤ life ∧ life < 9223372036854775808 := by simp [Lit.wf, IntKind.wrap, IntKind.signed, IntKind.bits, IntKind.min, IntKind.max] at w_life; omega
  have ht : 0 ≤ tag ∧ tag < 4294967296 := by simp [Lit.wf, IntKind.wrap, IntKind.signed, IntKind.bits, IntKind.min, IntKind.max] at w_tag; omega
  have hp : 0 ≤ peer ∧ peer < 4294967296 := by simp [Lit.wf, IntKind.wrap, IntKind.signed, IntKind.bits, IntKind.min, IntKind.max] at w_peer; omega
  have hf : 0 ≤ first ∧ first < 4294967296 := by simp [Lit.wf, IntKind.wrap, IntKind.signed, IntKind.bits, IntKind.min, IntKind.max] at w_first; omega
  have hpf : 0 ≤ pf ∧ pf < 4294967296 := by simp [Lit.wf, IntKind.wrap, IntKind.signed, IntKind.bits, IntKind.min, IntKind.max] at w_pf; omega
  have hr : 0 ≤ room ∧ room < 4294967296 := by simp [Lit.wf, IntKind.wrap, IntKind.signed, IntKind.bits, IntKind.min, IntKind.max] at w_room; omega
  have ho : 0 ≤ out ∧ out < 65536 := by simp [Lit.wf, IntKind.wrap, IntKind.signed, IntKind.bits, IntKind.min, IntKind.max] at w_out; omega
  have hi : 0 ≤ inn ∧ inn < 65536 := by simp [Lit.wf, IntKind.wrap, IntKind.signed, IntKind.bits, IntKind.min, IntKind.max] at w_inn; omega
  have h0 : 0 ≤ tie0 ∧ tie0 < 4294967296 := by simp [Lit.wf, IntKind.wrap, IntKind.signed, IntKind.bits, IntKind.min, IntKind.max] at w_tie0; omega
  have h1 : 0 ≤ tie1 ∧ tie1 < 4294967296 := by simp [Lit.wf, IntKind.wrap, IntKind.signed, IntKind.bits, IntKind.min, IntKind.max] at w_tie1; omega
  have h12 : tabA 12 = some x12 := rfl
  have h13 : tabA 13 = some x13 := rfl
  have hS4 : ((0 ≤ made ∧ made ≤ 281474976710656) ∧ 0 ≤ life) ∧ life ≤ 281474976710656 := by unfold okS at hS; simpa only [Bool.and_eq_true, decide_eq_true_eq] using hS
  have hcE : cErr key (sealed key (b32 (wordsL made life tag peer first pf room out inn tie0 tie1))) = 0 := cErr_sealed hk16 ⟨hS4.1.1.1, hS4.1.1.2⟩ ⟨hS4.1.2, hS4.2⟩ ht hp hf hpf hr ho hi h0 h1
  have hcS : ∀ j, cSt key (sealed key (b32 (wordsL made life tag peer first pf room out inn tie0 tie1))) j = [made, life, tag, peer, first, pf, room, out, inn, tie0, tie1].getD j 0 := cSt_sealed hk16 ⟨hS4.1.1.1, hS4.1.1.2⟩ ⟨hS4.1.2, hS4.2⟩ ht hp hf hpf hr ho hi h0 h1
  have hl60s : ((sealed key (b32 (wordsL made life tag peer first pf room out inn tie0 tie1)))).length = 60 := by rw [sealed_len, b32_len]; rfl
  have hc0 : cSt key (sealed key (b32 (wordsL made life tag peer first pf room out inn tie0 tie1))) 0 = made := hcS 0
  have hc1 : cSt key (sealed key (b32 (wordsL made life tag peer first pf room out inn tie0 tie1))) 1 = life := hcS 1
  have hkE : kErr key (sealed key (b32 (wordsL made life tag peer first pf room out inn tie0 tie1))) now = 7 := kErr_7 hcE (by rw [hc0, hc1]; omega)
  have hkN : ¬ kErr key (sealed key (b32 (wordsL made life tag peer first pf room out inn tie0 tie1))) now = 0 := by rw [hkE]; decide
  refine C_seq ?_
  refine C_region ?_
  refine O_box (z := [(.i .i64 made), (.i .i64 life), (.i .u32 tag), (.i .u32 peer), (.i .u32 first), (.i .u32 pf), (.i .u32 room), (.i .u16 out), (.i .u16 inn), (.i .u32 tie0), (.i .u32 tie1)]) rfl fun n1 H2 hN3 => ?_
  have hF4 := hN3.fr (fun _ => False)
  have hO5 := hO0.new hN3
  have hx_hO5 := hO5.next
  have hnm_n1 : n1 = H.next := hN3.1
  have hnx_H2 : H2.next = H.next + 1 := hN3.2.1
  have hlt_n1 : n1 < H2.next := by omega
  refine O_p (.b false) (r_mv rfl) ?_
  refine O_nil ?_
  refine C_seq ?_
  refine C_region ?_
  refine O_call (Ev.mono (awake_ev hO5.ok) fun v6 H7 hq8 => ?_)
  obtain ⟨rfl, hK9⟩ := hq8
  have hb10 := (hK9.keep _ (by omega)).trans hN3.2.2.1
  have hx_hK9 := hK9.next
  have hlt_n1 : n1 < H7.next := by omega
  have hO11 := hO5.trans hK9
  have hx_hO11 := hO11.next
  refine O_p (.b true) (r_mv rfl) ?_
  refine O_nil ?_
  refine C_seq ?_
  refine C_region ?_
  refine O_p (.sl ka key.length kc 0) (r_mv rfl) ?_
  refine O_p (.agg [(.i .i64 made), (.i .i64 life), (.i .u32 tag), (.i .u32 peer), (.i .u32 first), (.i .u32 pf), (.i .u32 room), (.i .u16 out), (.i .u16 inn), (.i .u32 tie0), (.i .u32 tie1)]) (r_ldA rfl hb10 rfl) ?_
  refine O_call (Ev.mono (enc_t hO11.ok (.inl rfl) (khb.old hok hO11) (by first | omega | (simp only [List.length_take, List.length_drop, List.length_append, List.length_cons, List.length_nil, beN_len] <;> omega)) (by first | omega | (simp only [List.length_take, List.length_drop, List.length_append, List.length_cons, List.length_nil, beN_len] <;> omega)) made life tag peer first pf room out inn tie0 tie1 hk16 hS) fun v12 H13 hq14 => ?_)
  obtain ⟨o15, rfl, hM16, hK17⟩ := hq14
  have hb18 := (hK17.keep _ (by omega)).trans hb10
  have hx_hK17 := hK17.next
  have hlt_n1 : n1 < H13.next := by omega
  have hO19 := hO11.trans hK17
  have hx_hO19 := hO19.next
  have hM20 := hM16.down (N := H.next) (by omega)
  have hlz_o15 : ((sealed key (b32 (wordsL made life tag peer first pf room out inn tie0 tie1)))).length = 60 := by rw [sealed_len, b32_len]; rfl
  have hd21 : ¬ o15.nameOf n1 := fun hq => by have := hM16.new _ hq; omega
  refine O_p (.tup [o15, (.b true)]) (r_mv rfl) ?_
  refine O_p o15 (r_ext rfl rfl) ?_
  refine O_p (.b true) (r_ext rfl rfl) ?_
  refine O_p o15 (r_mv rfl) ?_
  refine O_p (.b true) (r_mv rfl) ?_
  refine O_nil ?_
  refine C_seq ?_
  refine C_seq ?_
  refine C_region ?_
  refine O_p (.b true) (r_mv rfl) ?_
  refine O_p (.b false) (r_un rfl rfl) ?_
  refine O_nil ?_
  refine C_cond (x := false) rfl (fun h => by cases h) (fun _ => ?_)
  refine C_skip ?_
  refine C_seq ?_
  refine C_region ?_
  refine O_p (.sl ka key.length kc 0) (r_mv rfl) ?_
  refine O_p o15 (r_mv rfl) ?_
  have hsf26 : Own 1 H13 o15 (bcells (sealed key (b32 (wordsL made life tag peer first pf room out inn tie0 tie1)))) := hM20.own
  obtain ⟨oa22, og23, rfl, hog24, hob25⟩ := hsf26.bs
  have base27 := Old.refl hO19.ok
  refine O_call (Ev.mono (dec_ev hO19.ok (.inl rfl) (khb.old hok hO19) (by first | omega | (simp only [List.length_take, List.length_drop, List.length_append, List.length_cons, List.length_nil, beN_len] <;> omega)) (by first | omega | (simp only [List.length_take, List.length_drop, List.length_append, List.length_cons, List.length_nil, beN_len] <;> omega)) hog24 (hM20.own.asbs) (by first | omega | (simp only [List.length_take, List.length_drop, List.length_append, List.length_cons, List.length_nil, beN_len] <;> omega)) (by first | omega | (simp only [List.length_take, List.length_drop, List.length_append, List.length_cons, List.length_nil, beN_len] <;> omega))) fun v28 H29 hq30 => ?_)
  simp only [hcE, hcS] at hq30
  obtain ⟨rfl, hK31⟩ := hq30
  have hb32 := (hK31.keep _ (by omega)).trans hb18
  have hx_hK31 := hK31.next
  have hlt_n1 : n1 < H29.next := by omega
  have hM33 := hM20.kp hK31
  have hO34 := hO19.trans hK31
  have hx_hO34 := hO34.next
  have hO35 := base27.trans hK31
  refine O_p (.tup [(.agg [(.i .i64 made), (.i .i64 life), (.i .u32 tag), (.i .u32 peer), (.i .u32 first), (.i .u32 pf), (.i .u32 room), (.i .u16 out), (.i .u16 inn), (.i .u32 tie0), (.i .u32 tie1)]), (.i .i64 0)]) (r_mv rfl) ?_
  refine O_p (.agg [(.i .i64 made), (.i .i64 life), (.i .u32 tag), (.i .u32 peer), (.i .u32 first), (.i .u32 pf), (.i .u32 room), (.i .u16 out), (.i .u16 inn), (.i .u32 tie0), (.i .u32 tie1)]) (r_ext rfl rfl) ?_
  refine O_p (.i .i64 0) (r_ext rfl rfl) ?_
  refine O_alloc fun n36 H37 hN38 => ?_
  have hF39 := hN38.fr (fun _ => False)
  have hb40 := (hF39.keep _ (by exact hlt_n1) (fun h => h)).trans hb32
  have hM41 := hM33.anew hN38
  have hO42 := hO34.new hN38
  have hx_hO42 := hO42.next
  have hO43 := hO35.new hN38
  have hd44 : ¬ ((.sl oa22 ((sealed key (b32 (wordsL made life tag peer first pf room out inn tie0 tie1)))).length ((sealed key (b32 (wordsL made life tag peer first pf room out inn tie0 tie1)))).length og23) : AV).nameOf n36 := hM33.dis (by have := hN38.1; omega)
  have hnm_n36 : n36 = H29.next := hN38.1
  have hnx_H37 : H37.next = H29.next + 1 := hN38.2.1
  have hlt_n1 : n1 < H37.next := by omega
  have hlt_n36 : n36 < H37.next := by omega
  refine O_store (vs := [(.i .i64 made), (.i .i64 life), (.i .u32 tag), (.i .u32 peer), (.i .u32 first), (.i .u32 pf), (.i .u32 room), (.i .u16 out), (.i .u16 inn), (.i .u32 tie0), (.i .u32 tie1)]) (c' := [(.i .i64 made), (.i .i64 life), (.i .u32 tag), (.i .u32 peer), (.i .u32 first), (.i .u32 pf), (.i .u32 room), (.i .u16 out), (.i .u16 inn), (.i .u32 tie0), (.i .u32 tie1)]) rfl (by rfl) hN38.2.2.1 rfl (List.cons_ne_nil _ _) (Nat.le_of_ble_eq_true rfl) rfl fun H45 hW46 => ?_
  have hb47 := (hW46.2.2 _ (by omega)).trans hb40
  have hM48 := hM41.wr hW46 hd44
  have hO49 := hO42.wr hW46 (by omega) (by omega)
  have hx_hO49 := hO49.next
  have hO50 := hO43.wr hW46 (by omega) (by omega)
  have hnx_H45 : H45.next = H37.next := hW46.1
  have hlt_n1 : n1 < H45.next := by omega
  have hlt_n36 : n36 < H45.next := by omega
  refine O_p (.i .i64 0) (r_mv rfl) ?_
  refine O_nil ?_
  refine C_seq ?_
  refine C_region ?_
  refine O_p (.sl ka key.length kc 0) (r_mv rfl) ?_
  refine O_p (.sl oa22 ((sealed key (b32 (wordsL made life tag peer first pf room out inn tie0 tie1)))).length ((sealed key (b32 (wordsL made life tag peer first pf room out inn tie0 tie1)))).length og23) (r_mv rfl) ?_
  refine O_p (.i .i64 now) (r_mv rfl) ?_
  refine O_call (Ev.mono (chk_ev hO49.ok (.inl rfl) (khb.old hok hO49) (by first | omega | (simp only [List.length_take, List.length_drop, List.length_append, List.length_cons, List.length_nil, beN_len] <;> omega)) (by first | omega | (simp only [List.length_take, List.length_drop, List.length_append, List.length_cons, List.length_nil, beN_len] <;> omega)) hog24 (hM48.own.asbs) (by first | omega | (simp only [List.length_take, List.length_drop, List.length_append, List.length_cons, List.length_nil, beN_len] <;> omega)) (by first | omega | (simp only [List.length_take, List.length_drop, List.length_append, List.length_cons, List.length_nil, beN_len] <;> omega)) now) fun v51 H52 hq53 => ?_)
  simp only [kSt_bad hkN, hkE] at hq53
  obtain ⟨rfl, hK54⟩ := hq53
  have hb55 := (hK54.keep _ (by omega)).trans hb47
  have hb56 := (hK54.keep _ (by omega)).trans hW46.2.1
  have hx_hK54 := hK54.next
  have hlt_n1 : n1 < H52.next := by omega
  have hlt_n36 : n36 < H52.next := by omega
  have hM57 := hM48.kp hK54
  have hO58 := hO49.trans hK54
  have hx_hO58 := hO58.next
  have hO59 := hO50.trans hK54
  refine O_p (.tup [(.agg [(.i .i64 0), (.i .i64 0), (.i .u32 0), (.i .u32 0), (.i .u32 0), (.i .u32 0), (.i .u32 0), (.i .u16 0), (.i .u16 0), (.i .u32 0), (.i .u32 0)]), (.i .i64 7)]) (r_mv rfl) ?_
  refine O_p (.agg [(.i .i64 0), (.i .i64 0), (.i .u32 0), (.i .u32 0), (.i .u32 0), (.i .u32 0), (.i .u32 0), (.i .u16 0), (.i .u16 0), (.i .u32 0), (.i .u32 0)]) (r_ext rfl rfl) ?_
  refine O_p (.i .i64 7) (r_ext rfl rfl) ?_
  refine O_alloc fun n60 H61 hN62 => ?_
  have hF63 := hN62.fr (fun _ => False)
  have hb64 := (hF63.keep _ (by exact hlt_n1) (fun h => h)).trans hb55
  have hb65 := (hF63.keep _ (by exact hlt_n36) (fun h => h)).trans hb56
  have hM66 := hM57.anew hN62
  have hO67 := hO58.new hN62
  have hx_hO67 := hO67.next
  have hO68 := hO59.new hN62
  have hd69 : ¬ ((.sl oa22 ((sealed key (b32 (wordsL made life tag peer first pf room out inn tie0 tie1)))).length ((sealed key (b32 (wordsL made life tag peer first pf room out inn tie0 tie1)))).length og23) : AV).nameOf n60 := hM57.dis (by have := hN62.1; omega)
  have hnm_n60 : n60 = H52.next := hN62.1
  have hnx_H61 : H61.next = H52.next + 1 := hN62.2.1
  have hlt_n1 : n1 < H61.next := by omega
  have hlt_n36 : n36 < H61.next := by omega
  have hlt_n60 : n60 < H61.next := by omega
  refine O_store (vs := [(.i .i64 0), (.i .i64 0), (.i .u32 0), (.i .u32 0), (.i .u32 0), (.i .u32 0), (.i .u32 0), (.i .u16 0), (.i .u16 0), (.i .u32 0), (.i .u32 0)]) (c' := [(.i .i64 0), (.i .i64 0), (.i .u32 0), (.i .u32 0), (.i .u32 0), (.i .u32 0), (.i .u32 0), (.i .u16 0), (.i .u16 0), (.i .u32 0), (.i .u32 0)]) rfl (by rfl) hN62.2.2.1 rfl (List.cons_ne_nil _ _) (Nat.le_of_ble_eq_true rfl) rfl fun H70 hW71 => ?_
  have hb72 := (hW71.2.2 _ (by omega)).trans hb64
  have hb73 := (hW71.2.2 _ (by omega)).trans hb65
  have hM74 := hM66.wr hW71 hd69
  have hO75 := hO67.wr hW71 (by omega) (by omega)
  have hx_hO75 := hO75.next
  have hO76 := hO68.wr hW71 (by omega) (by omega)
  have hnx_H70 : H70.next = H61.next := hW71.1
  have hlt_n1 : n1 < H70.next := by omega
  have hlt_n36 : n36 < H70.next := by omega
  have hlt_n60 : n60 < H70.next := by omega
  refine O_p (.i .i64 7) (r_mv rfl) ?_
  refine O_nil ?_
  refine C_seq ?_
  refine C_region ?_
  refine O_p (.i .i64 now) (r_mv rfl) ?_
  refine O_p (.p (some (n1, 0))) (r_fadd' rfl rfl) ?_
  refine O_p (.i .i64 made) (r_ld rfl hb72 rfl) ?_
  refine O_p (.b false) (by exact (by rw [r_geq rfl rfl, decide_eq_false (by omega)])) ?_
  refine O_p (.b false) (r_mv rfl) ?_
  refine O_gf rfl ?_
  refine O_gf rfl ?_
  refine O_gf rfl ?_
  refine O_gf rfl ?_
  refine O_gf rfl ?_
  refine O_gf rfl ?_
  refine O_gf rfl ?_
  refine O_p (.b false) (r_pick_f rfl rfl) ?_
  refine O_p (.b false) (r_mv rfl) ?_
  refine O_nil ?_
  refine C_seq ?_
  refine C_draw fun b77 H78 hbase79 hA80 => ?_
  have hnx81 : H78.next = H70.next + 30 := hA80.1
  have hb82 := (hA80.2 _).trans hb72
  have hb83 := (hA80.2 _).trans hb73
  have hb84 := (hA80.2 _).trans hW71.2.1
  have hF85 := hA80.fr (fun _ => False)
  have hM86 := hM74.aside hA80
  have hO87 := hO75.aside hA80
  have hx_hO87 := hO87.next
  have hO88 := hO76.aside hA80
  have hlt_n1 : n1 < H78.next := by omega
  have hlt_n36 : n36 < H78.next := by omega
  have hlt_n60 : n60 < H78.next := by omega
  refine D_l (v := (.b true)) rfl rfl rfl (r_mv rfl) ?_
  refine D_l (v := (.b true)) rfl rfl rfl (r_mv rfl) ?_
  refine D_gl (v := (.sl oa22 ((sealed key (b32 (wordsL made life tag peer first pf room out inn tie0 tie1)))).length ((sealed key (b32 (wordsL made life tag peer first pf room out inn tie0 tie1)))).length og23)) rfl rfl rfl rfl (r_mv rfl) ?_
  refine D_gl (v := (.i .i64 60)) rfl rfl rfl rfl (by exact (by rw [show (60 : Int) = ((((sealed key (b32 (wordsL made life tag peer first pf room out inn tie0 tie1)))).length : Nat) : Int) from by rw [hl60s]; rfl]; exact r_len rfl)) ?_
  refine D_gl (v := (.b true)) rfl rfl rfl rfl (r_bin rfl rfl rfl) ?_
  refine D_l (v := (.b true)) rfl rfl rfl (r_pick_t rfl rfl) ?_
  refine D_l (v := (.b true)) rfl rfl rfl (r_mv rfl) ?_
  refine D_gl (v := (.i .i64 0)) rfl rfl rfl rfl (r_mv rfl) ?_
  refine D_gl (v := (.b true)) rfl rfl rfl rfl (r_bin rfl rfl rfl) ?_
  refine D_l (v := (.b true)) rfl rfl rfl (r_pick_t rfl rfl) ?_
  refine D_l (v := (.b true)) rfl rfl rfl (r_mv rfl) ?_
  refine D_gr (v := (.agg [(.i .i64 made), (.i .i64 life), (.i .u32 tag), (.i .u32 peer), (.i .u32 first), (.i .u32 pf), (.i .u32 room), (.i .u16 out), (.i .u16 inn), (.i .u32 tie0), (.i .u32 tie1)])) rfl rfl rfl rfl (r_ldA rfl hb82 rfl) ?_
  refine D_gr (v := (.agg [(.i .i64 made), (.i .i64 life), (.i .u32 tag), (.i .u32 peer), (.i .u32 first), (.i .u32 pf), (.i .u32 room), (.i .u16 out), (.i .u16 inn), (.i .u32 tie0), (.i .u32 tie1)])) rfl rfl rfl rfl (r_ldA rfl hb83 rfl) ?_
  refine D_gcall rfl (Ev.mono (theirs_ev h12 hO87.ok made life tag peer first pf room out inn tie0 tie1 ht hp hf hpf hr ho hi h0 h1) fun v89 H90 hq91 => ?_)
  obtain ⟨rfl, hK92⟩ := hq91
  have hb93 := (hK92.keep _ (by omega)).trans hb82
  have hb94 := (hK92.keep _ (by omega)).trans hb83
  have hb95 := (hK92.keep _ (by omega)).trans hb84
  have hx_hK92 := hK92.next
  have hlt_n1 : n1 < H90.next := by omega
  have hlt_n36 : n36 < H90.next := by omega
  have hlt_n60 : n60 < H90.next := by omega
  have hM96 := hM86.kp hK92
  have hO97 := hO87.trans hK92
  have hx_hO97 := hO97.next
  have hO98 := hO88.trans hK92
  refine And.intro (And.intro (Or.inl rfl) (And.intro (Or.inr (look_run rfl rfl (r_ldA rfl hb93 rfl))) True.intro)) ?_
  refine D_gcall rfl (Ev.mono (alike_ev hO97.ok made life tag peer first pf room out inn tie0 tie1 ht hp hf hpf hr ho hi h0 h1) fun v99 H100 hq101 => ?_)
  obtain ⟨rfl, hK102⟩ := hq101
  have hb103 := (hK102.keep _ (by omega)).trans hb93
  have hb104 := (hK102.keep _ (by omega)).trans hb94
  have hb105 := (hK102.keep _ (by omega)).trans hb95
  have hx_hK102 := hK102.next
  have hlt_n1 : n1 < H100.next := by omega
  have hlt_n36 : n36 < H100.next := by omega
  have hlt_n60 : n60 < H100.next := by omega
  have hM106 := hM96.kp hK102
  have hO107 := hO97.trans hK102
  have hx_hO107 := hO107.next
  have hO108 := hO98.trans hK102
  refine And.intro (And.intro (Or.inl rfl) True.intro) ?_
  refine D_l (v := (.b true)) rfl rfl rfl (r_pick_t rfl rfl) ?_
  refine D_l (v := (.b true)) rfl rfl rfl (r_mv rfl) ?_
  refine D_gl (v := (.i .i64 7)) rfl rfl rfl rfl (r_mv rfl) ?_
  refine D_gl (v := (.b false)) rfl rfl rfl rfl (r_bin rfl rfl rfl) ?_
  refine D_gl (v := (.b false)) rfl rfl rfl rfl (r_mv rfl) ?_
  refine D_gl (v := (.b true)) rfl rfl rfl rfl (r_beqq rfl rfl) ?_
  refine D_l (v := (.b true)) rfl rfl rfl (r_pick_t rfl rfl) ?_
  refine D_l (v := (.b true)) rfl rfl rfl (r_mv rfl) ?_
  refine D_gl (v := (.b false)) rfl rfl rfl rfl (r_mv rfl) ?_
  refine D_gl (v := (.b false)) rfl rfl rfl rfl (r_mv rfl) ?_
  refine D_gl (v := (.i .i64 7)) rfl rfl rfl rfl (r_mv rfl) ?_
  refine D_gl (v := (.b true)) rfl rfl rfl rfl (r_bin rfl rfl rfl) ?_
  refine D_gl (v := (.b true)) rfl rfl rfl rfl (r_pick_f rfl rfl) ?_
  refine D_l (v := (.b true)) rfl rfl rfl (r_pick_t rfl rfl) ?_
  refine D_l (v := (.b true)) rfl rfl rfl (r_mv rfl) ?_
  refine D_nil ?_
  refine C_ret ?_
  exact ⟨.inr rfl, _, resL_one (r_tmp (v := .b true) rfl), rfl⟩
set_option maxRecDepth 100000 in
set_option maxHeartbeats 4000000 in
theorem run5tb2 (H : AH) (hok : H.Ok) (ka : Option (Nat × Nat)) (kc : Nat) (key : List UInt8) (khb : Bs H (.sl ka key.length kc 0) key) (khc : key.length ≤ kc) (khm0 : kc ≤ maxLen) (made : Int) (w_made : (Lit.int .i64 made).wf = true) (life : Int) (w_life : (Lit.int .i64 life).wf = true) (tag : Int) (w_tag : (Lit.int .u32 tag).wf = true) (peer : Int) (w_peer : (Lit.int .u32 peer).wf = true) (first : Int) (w_first : (Lit.int .u32 first).wf = true) (pf : Int) (w_pf : (Lit.int .u32 pf).wf = true) (room : Int) (w_room : (Lit.int .u32 room).wf = true) (out : Int) (w_out : (Lit.int .u16 out).wf = true) (inn : Int) (w_inn : (Lit.int .u16 inn).wf = true) (tie0 : Int) (w_tie0 : (Lit.int .u32 tie0).wf = true) (tie1 : Int) (w_tie1 : (Lit.int .u32 tie1).wf = true) (now : Int) (hk16 : key.length = 16) (hS : okS made life = true) (hfr : made ≤ now ∧ made + life < now) : Ev tabA spA (.fn (.func 5) [] []) [.sl ka key.length kc 0, .agg [(.i .i64 made), (.i .i64 life), (.i .u32 tag), (.i .u32 peer), (.i .u32 first), (.i .u32 pf), (.i .u32 room), (.i .u16 out), (.i .u16 inn), (.i .u32 tie0), (.i .u32 tie1)], .i .i64 now] H (fun v _ => v = .b true) := by
  refine Ev_C (F := x5) rfl ?_
  have hO0 := Old.refl hok
  have khm : kc ≤ 9223372036854775807 := khm0
  have hma : -9223372036854775808 ≤ made ∧ made < 9223372036854775808 := by simp [Lit.wf, IntKind.wrap, IntKind.signed, IntKind.bits, IntKind.min, IntKind.max] at w_made; omega
  have hli : -9223372036854775808 ≤ life ∧ life < 9223372036854775808 := by simp [Lit.wf, IntKind.wrap, IntKind.signed, IntKind.bits, IntKind.min, IntKind.max] at w_life; omega
  have ht : 0 ≤ tag ∧ tag < 4294967296 := by simp [Lit.wf, IntKind.wrap, IntKind.signed, IntKind.bits, IntKind.min, IntKind.max] at w_tag; omega
  have hp : 0 ≤ peer ∧ peer < 4294967296 := by simp [Lit.wf, IntKind.wrap, IntKind.signed, IntKind.bits, IntKind.min, IntKind.max] at w_peer; omega
  have hf : 0 ≤ first ∧ first < 4294967296 := by simp [Lit.wf, IntKind.wrap, IntKind.signed, IntKind.bits, IntKind.min, IntKind.max] at w_first; omega
  have hpf : 0 ≤ pf ∧ pf < 4294967296 := by simp [Lit.wf, IntKind.wrap, IntKind.signed, IntKind.bits, IntKind.min, IntKind.max] at w_pf; omega
  have hr : 0 ≤ room ∧ room < 4294967296 := by simp [Lit.wf, IntKind.wrap, IntKind.signed, IntKind.bits, IntKind.min, IntKind.max] at w_room; omega
  have ho : 0 ≤ out ∧ out < 65536 := by simp [Lit.wf, IntKind.wrap, IntKind.signed, IntKind.bits, IntKind.min, IntKind.max] at w_out; omega
  have hi : 0 ≤ inn ∧ inn < 65536 := by simp [Lit.wf, IntKind.wrap, IntKind.signed, IntKind.bits, IntKind.min, IntKind.max] at w_inn; omega
  have h0 : 0 ≤ tie0 ∧ tie0 < 4294967296 := by simp [Lit.wf, IntKind.wrap, IntKind.signed, IntKind.bits, IntKind.min, IntKind.max] at w_tie0; omega
  have h1 : 0 ≤ tie1 ∧ tie1 < 4294967296 := by simp [Lit.wf, IntKind.wrap, IntKind.signed, IntKind.bits, IntKind.min, IntKind.max] at w_tie1; omega
  have h12 : tabA 12 = some x12 := rfl
  have h13 : tabA 13 = some x13 := rfl
  have hS4 : ((0 ≤ made ∧ made ≤ 281474976710656) ∧ 0 ≤ life) ∧ life ≤ 281474976710656 := by unfold okS at hS; simpa only [Bool.and_eq_true, decide_eq_true_eq] using hS
  have hcE : cErr key (sealed key (b32 (wordsL made life tag peer first pf room out inn tie0 tie1))) = 0 := cErr_sealed hk16 ⟨hS4.1.1.1, hS4.1.1.2⟩ ⟨hS4.1.2, hS4.2⟩ ht hp hf hpf hr ho hi h0 h1
  have hcS : ∀ j, cSt key (sealed key (b32 (wordsL made life tag peer first pf room out inn tie0 tie1))) j = [made, life, tag, peer, first, pf, room, out, inn, tie0, tie1].getD j 0 := cSt_sealed hk16 ⟨hS4.1.1.1, hS4.1.1.2⟩ ⟨hS4.1.2, hS4.2⟩ ht hp hf hpf hr ho hi h0 h1
  have hl60s : ((sealed key (b32 (wordsL made life tag peer first pf room out inn tie0 tie1)))).length = 60 := by rw [sealed_len, b32_len]; rfl
  have hc0 : cSt key (sealed key (b32 (wordsL made life tag peer first pf room out inn tie0 tie1))) 0 = made := hcS 0
  have hc1 : cSt key (sealed key (b32 (wordsL made life tag peer first pf room out inn tie0 tie1))) 1 = life := hcS 1
  have hkE : kErr key (sealed key (b32 (wordsL made life tag peer first pf room out inn tie0 tie1))) now = 7 := kErr_7 hcE (by rw [hc0, hc1]; omega)
  have hkN : ¬ kErr key (sealed key (b32 (wordsL made life tag peer first pf room out inn tie0 tie1))) now = 0 := by rw [hkE]; decide
  refine C_seq ?_
  refine C_region ?_
  refine O_box (z := [(.i .i64 made), (.i .i64 life), (.i .u32 tag), (.i .u32 peer), (.i .u32 first), (.i .u32 pf), (.i .u32 room), (.i .u16 out), (.i .u16 inn), (.i .u32 tie0), (.i .u32 tie1)]) rfl fun n1 H2 hN3 => ?_
  have hF4 := hN3.fr (fun _ => False)
  have hO5 := hO0.new hN3
  have hx_hO5 := hO5.next
  have hnm_n1 : n1 = H.next := hN3.1
  have hnx_H2 : H2.next = H.next + 1 := hN3.2.1
  have hlt_n1 : n1 < H2.next := by omega
  refine O_p (.b false) (r_mv rfl) ?_
  refine O_nil ?_
  refine C_seq ?_
  refine C_region ?_
  refine O_call (Ev.mono (awake_ev hO5.ok) fun v6 H7 hq8 => ?_)
  obtain ⟨rfl, hK9⟩ := hq8
  have hb10 := (hK9.keep _ (by omega)).trans hN3.2.2.1
  have hx_hK9 := hK9.next
  have hlt_n1 : n1 < H7.next := by omega
  have hO11 := hO5.trans hK9
  have hx_hO11 := hO11.next
  refine O_p (.b true) (r_mv rfl) ?_
  refine O_nil ?_
  refine C_seq ?_
  refine C_region ?_
  refine O_p (.sl ka key.length kc 0) (r_mv rfl) ?_
  refine O_p (.agg [(.i .i64 made), (.i .i64 life), (.i .u32 tag), (.i .u32 peer), (.i .u32 first), (.i .u32 pf), (.i .u32 room), (.i .u16 out), (.i .u16 inn), (.i .u32 tie0), (.i .u32 tie1)]) (r_ldA rfl hb10 rfl) ?_
  refine O_call (Ev.mono (enc_t hO11.ok (.inl rfl) (khb.old hok hO11) (by first | omega | (simp only [List.length_take, List.length_drop, List.length_append, List.length_cons, List.length_nil, beN_len] <;> omega)) (by first | omega | (simp only [List.length_take, List.length_drop, List.length_append, List.length_cons, List.length_nil, beN_len] <;> omega)) made life tag peer first pf room out inn tie0 tie1 hk16 hS) fun v12 H13 hq14 => ?_)
  obtain ⟨o15, rfl, hM16, hK17⟩ := hq14
  have hb18 := (hK17.keep _ (by omega)).trans hb10
  have hx_hK17 := hK17.next
  have hlt_n1 : n1 < H13.next := by omega
  have hO19 := hO11.trans hK17
  have hx_hO19 := hO19.next
  have hM20 := hM16.down (N := H.next) (by omega)
  have hlz_o15 : ((sealed key (b32 (wordsL made life tag peer first pf room out inn tie0 tie1)))).length = 60 := by rw [sealed_len, b32_len]; rfl
  have hd21 : ¬ o15.nameOf n1 := fun hq => by have := hM16.new _ hq; omega
  refine O_p (.tup [o15, (.b true)]) (r_mv rfl) ?_
  refine O_p o15 (r_ext rfl rfl) ?_
  refine O_p (.b true) (r_ext rfl rfl) ?_
  refine O_p o15 (r_mv rfl) ?_
  refine O_p (.b true) (r_mv rfl) ?_
  refine O_nil ?_
  refine C_seq ?_
  refine C_seq ?_
  refine C_region ?_
  refine O_p (.b true) (r_mv rfl) ?_
  refine O_p (.b false) (r_un rfl rfl) ?_
  refine O_nil ?_
  refine C_cond (x := false) rfl (fun h => by cases h) (fun _ => ?_)
  refine C_skip ?_
  refine C_seq ?_
  refine C_region ?_
  refine O_p (.sl ka key.length kc 0) (r_mv rfl) ?_
  refine O_p o15 (r_mv rfl) ?_
  have hsf26 : Own 1 H13 o15 (bcells (sealed key (b32 (wordsL made life tag peer first pf room out inn tie0 tie1)))) := hM20.own
  obtain ⟨oa22, og23, rfl, hog24, hob25⟩ := hsf26.bs
  have base27 := Old.refl hO19.ok
  refine O_call (Ev.mono (dec_ev hO19.ok (.inl rfl) (khb.old hok hO19) (by first | omega | (simp only [List.length_take, List.length_drop, List.length_append, List.length_cons, List.length_nil, beN_len] <;> omega)) (by first | omega | (simp only [List.length_take, List.length_drop, List.length_append, List.length_cons, List.length_nil, beN_len] <;> omega)) hog24 (hM20.own.asbs) (by first | omega | (simp only [List.length_take, List.length_drop, List.length_append, List.length_cons, List.length_nil, beN_len] <;> omega)) (by first | omega | (simp only [List.length_take, List.length_drop, List.length_append, List.length_cons, List.length_nil, beN_len] <;> omega))) fun v28 H29 hq30 => ?_)
  simp only [hcE, hcS] at hq30
  obtain ⟨rfl, hK31⟩ := hq30
  have hb32 := (hK31.keep _ (by omega)).trans hb18
  have hx_hK31 := hK31.next
  have hlt_n1 : n1 < H29.next := by omega
  have hM33 := hM20.kp hK31
  have hO34 := hO19.trans hK31
  have hx_hO34 := hO34.next
  have hO35 := base27.trans hK31
  refine O_p (.tup [(.agg [(.i .i64 made), (.i .i64 life), (.i .u32 tag), (.i .u32 peer), (.i .u32 first), (.i .u32 pf), (.i .u32 room), (.i .u16 out), (.i .u16 inn), (.i .u32 tie0), (.i .u32 tie1)]), (.i .i64 0)]) (r_mv rfl) ?_
  refine O_p (.agg [(.i .i64 made), (.i .i64 life), (.i .u32 tag), (.i .u32 peer), (.i .u32 first), (.i .u32 pf), (.i .u32 room), (.i .u16 out), (.i .u16 inn), (.i .u32 tie0), (.i .u32 tie1)]) (r_ext rfl rfl) ?_
  refine O_p (.i .i64 0) (r_ext rfl rfl) ?_
  refine O_alloc fun n36 H37 hN38 => ?_
  have hF39 := hN38.fr (fun _ => False)
  have hb40 := (hF39.keep _ (by exact hlt_n1) (fun h => h)).trans hb32
  have hM41 := hM33.anew hN38
  have hO42 := hO34.new hN38
  have hx_hO42 := hO42.next
  have hO43 := hO35.new hN38
  have hd44 : ¬ ((.sl oa22 ((sealed key (b32 (wordsL made life tag peer first pf room out inn tie0 tie1)))).length ((sealed key (b32 (wordsL made life tag peer first pf room out inn tie0 tie1)))).length og23) : AV).nameOf n36 := hM33.dis (by have := hN38.1; omega)
  have hnm_n36 : n36 = H29.next := hN38.1
  have hnx_H37 : H37.next = H29.next + 1 := hN38.2.1
  have hlt_n1 : n1 < H37.next := by omega
  have hlt_n36 : n36 < H37.next := by omega
  refine O_store (vs := [(.i .i64 made), (.i .i64 life), (.i .u32 tag), (.i .u32 peer), (.i .u32 first), (.i .u32 pf), (.i .u32 room), (.i .u16 out), (.i .u16 inn), (.i .u32 tie0), (.i .u32 tie1)]) (c' := [(.i .i64 made), (.i .i64 life), (.i .u32 tag), (.i .u32 peer), (.i .u32 first), (.i .u32 pf), (.i .u32 room), (.i .u16 out), (.i .u16 inn), (.i .u32 tie0), (.i .u32 tie1)]) rfl (by rfl) hN38.2.2.1 rfl (List.cons_ne_nil _ _) (Nat.le_of_ble_eq_true rfl) rfl fun H45 hW46 => ?_
  have hb47 := (hW46.2.2 _ (by omega)).trans hb40
  have hM48 := hM41.wr hW46 hd44
  have hO49 := hO42.wr hW46 (by omega) (by omega)
  have hx_hO49 := hO49.next
  have hO50 := hO43.wr hW46 (by omega) (by omega)
  have hnx_H45 : H45.next = H37.next := hW46.1
  have hlt_n1 : n1 < H45.next := by omega
  have hlt_n36 : n36 < H45.next := by omega
  refine O_p (.i .i64 0) (r_mv rfl) ?_
  refine O_nil ?_
  refine C_seq ?_
  refine C_region ?_
  refine O_p (.sl ka key.length kc 0) (r_mv rfl) ?_
  refine O_p (.sl oa22 ((sealed key (b32 (wordsL made life tag peer first pf room out inn tie0 tie1)))).length ((sealed key (b32 (wordsL made life tag peer first pf room out inn tie0 tie1)))).length og23) (r_mv rfl) ?_
  refine O_p (.i .i64 now) (r_mv rfl) ?_
  refine O_call (Ev.mono (chk_ev hO49.ok (.inl rfl) (khb.old hok hO49) (by first | omega | (simp only [List.length_take, List.length_drop, List.length_append, List.length_cons, List.length_nil, beN_len] <;> omega)) (by first | omega | (simp only [List.length_take, List.length_drop, List.length_append, List.length_cons, List.length_nil, beN_len] <;> omega)) hog24 (hM48.own.asbs) (by first | omega | (simp only [List.length_take, List.length_drop, List.length_append, List.length_cons, List.length_nil, beN_len] <;> omega)) (by first | omega | (simp only [List.length_take, List.length_drop, List.length_append, List.length_cons, List.length_nil, beN_len] <;> omega)) now) fun v51 H52 hq53 => ?_)
  simp only [kSt_bad hkN, hkE] at hq53
  obtain ⟨rfl, hK54⟩ := hq53
  have hb55 := (hK54.keep _ (by omega)).trans hb47
  have hb56 := (hK54.keep _ (by omega)).trans hW46.2.1
  have hx_hK54 := hK54.next
  have hlt_n1 : n1 < H52.next := by omega
  have hlt_n36 : n36 < H52.next := by omega
  have hM57 := hM48.kp hK54
  have hO58 := hO49.trans hK54
  have hx_hO58 := hO58.next
  have hO59 := hO50.trans hK54
  refine O_p (.tup [(.agg [(.i .i64 0), (.i .i64 0), (.i .u32 0), (.i .u32 0), (.i .u32 0), (.i .u32 0), (.i .u32 0), (.i .u16 0), (.i .u16 0), (.i .u32 0), (.i .u32 0)]), (.i .i64 7)]) (r_mv rfl) ?_
  refine O_p (.agg [(.i .i64 0), (.i .i64 0), (.i .u32 0), (.i .u32 0), (.i .u32 0), (.i .u32 0), (.i .u32 0), (.i .u16 0), (.i .u16 0), (.i .u32 0), (.i .u32 0)]) (r_ext rfl rfl) ?_
  refine O_p (.i .i64 7) (r_ext rfl rfl) ?_
  refine O_alloc fun n60 H61 hN62 => ?_
  have hF63 := hN62.fr (fun _ => False)
  have hb64 := (hF63.keep _ (by exact hlt_n1) (fun h => h)).trans hb55
  have hb65 := (hF63.keep _ (by exact hlt_n36) (fun h => h)).trans hb56
  have hM66 := hM57.anew hN62
  have hO67 := hO58.new hN62
  have hx_hO67 := hO67.next
  have hO68 := hO59.new hN62
  have hd69 : ¬ ((.sl oa22 ((sealed key (b32 (wordsL made life tag peer first pf room out inn tie0 tie1)))).length ((sealed key (b32 (wordsL made life tag peer first pf room out inn tie0 tie1)))).length og23) : AV).nameOf n60 := hM57.dis (by have := hN62.1; omega)
  have hnm_n60 : n60 = H52.next := hN62.1
  have hnx_H61 : H61.next = H52.next + 1 := hN62.2.1
  have hlt_n1 : n1 < H61.next := by omega
  have hlt_n36 : n36 < H61.next := by omega
  have hlt_n60 : n60 < H61.next := by omega
  refine O_store (vs := [(.i .i64 0), (.i .i64 0), (.i .u32 0), (.i .u32 0), (.i .u32 0), (.i .u32 0), (.i .u32 0), (.i .u16 0), (.i .u16 0), (.i .u32 0), (.i .u32 0)]) (c' := [(.i .i64 0), (.i .i64 0), (.i .u32 0), (.i .u32 0), (.i .u32 0), (.i .u32 0), (.i .u32 0), (.i .u16 0), (.i .u16 0), (.i .u32 0), (.i .u32 0)]) rfl (by rfl) hN62.2.2.1 rfl (List.cons_ne_nil _ _) (Nat.le_of_ble_eq_true rfl) rfl fun H70 hW71 => ?_
  have hb72 := (hW71.2.2 _ (by omega)).trans hb64
  have hb73 := (hW71.2.2 _ (by omega)).trans hb65
  have hM74 := hM66.wr hW71 hd69
  have hO75 := hO67.wr hW71 (by omega) (by omega)
  have hx_hO75 := hO75.next
  have hO76 := hO68.wr hW71 (by omega) (by omega)
  have hnx_H70 : H70.next = H61.next := hW71.1
  have hlt_n1 : n1 < H70.next := by omega
  have hlt_n36 : n36 < H70.next := by omega
  have hlt_n60 : n60 < H70.next := by omega
  refine O_p (.i .i64 7) (r_mv rfl) ?_
  refine O_nil ?_
  refine C_seq ?_
  refine C_region ?_
  refine O_p (.i .i64 now) (r_mv rfl) ?_
  refine O_p (.p (some (n1, 0))) (r_fadd' rfl rfl) ?_
  refine O_p (.i .i64 made) (r_ld rfl hb72 rfl) ?_
  refine O_p (.b true) (by exact (by rw [r_geq rfl rfl, decide_eq_true (by omega)])) ?_
  refine O_p (.b true) (r_mv rfl) ?_
  refine O_gs (v := (.i .i64 now)) rfl (r_mv rfl) ?_
  refine O_gs (v := (.p (some (n1, 0)))) rfl (r_fadd' rfl rfl) ?_
  refine O_gs (v := (.i .i64 made)) rfl (r_ld rfl hb72 rfl) ?_
  refine O_gs (v := (.p (some (n1, 1)))) rfl (r_fadd' rfl rfl) ?_
  refine O_gs (v := (.i .i64 life)) rfl (r_ld rfl hb72 rfl) ?_
  refine O_gs (v := (.i .i64 (made + life))) rfl (by exact (r_addi rfl rfl (wrap_i64 (by omega) (by omega)))) ?_
  refine O_gs (v := (.b false)) rfl (by exact (by rw [r_leq rfl rfl, decide_eq_false (by omega)])) ?_
  refine O_p (.b false) (r_pick_t rfl rfl) ?_
  refine O_p (.b false) (r_mv rfl) ?_
  refine O_nil ?_
  refine C_seq ?_
  refine C_draw fun b77 H78 hbase79 hA80 => ?_
  have hnx81 : H78.next = H70.next + 30 := hA80.1
  have hb82 := (hA80.2 _).trans hb72
  have hb83 := (hA80.2 _).trans hb73
  have hb84 := (hA80.2 _).trans hW71.2.1
  have hF85 := hA80.fr (fun _ => False)
  have hM86 := hM74.aside hA80
  have hO87 := hO75.aside hA80
  have hx_hO87 := hO87.next
  have hO88 := hO76.aside hA80
  have hlt_n1 : n1 < H78.next := by omega
  have hlt_n36 : n36 < H78.next := by omega
  have hlt_n60 : n60 < H78.next := by omega
  refine D_l (v := (.b true)) rfl rfl rfl (r_mv rfl) ?_
  refine D_l (v := (.b true)) rfl rfl rfl (r_mv rfl) ?_
  refine D_gl (v := (.sl oa22 ((sealed key (b32 (wordsL made life tag peer first pf room out inn tie0 tie1)))).length ((sealed key (b32 (wordsL made life tag peer first pf room out inn tie0 tie1)))).length og23)) rfl rfl rfl rfl (r_mv rfl) ?_
  refine D_gl (v := (.i .i64 60)) rfl rfl rfl rfl (by exact (by rw [show (60 : Int) = ((((sealed key (b32 (wordsL made life tag peer first pf room out inn tie0 tie1)))).length : Nat) : Int) from by rw [hl60s]; rfl]; exact r_len rfl)) ?_
  refine D_gl (v := (.b true)) rfl rfl rfl rfl (r_bin rfl rfl rfl) ?_
  refine D_l (v := (.b true)) rfl rfl rfl (r_pick_t rfl rfl) ?_
  refine D_l (v := (.b true)) rfl rfl rfl (r_mv rfl) ?_
  refine D_gl (v := (.i .i64 0)) rfl rfl rfl rfl (r_mv rfl) ?_
  refine D_gl (v := (.b true)) rfl rfl rfl rfl (r_bin rfl rfl rfl) ?_
  refine D_l (v := (.b true)) rfl rfl rfl (r_pick_t rfl rfl) ?_
  refine D_l (v := (.b true)) rfl rfl rfl (r_mv rfl) ?_
  refine D_gr (v := (.agg [(.i .i64 made), (.i .i64 life), (.i .u32 tag), (.i .u32 peer), (.i .u32 first), (.i .u32 pf), (.i .u32 room), (.i .u16 out), (.i .u16 inn), (.i .u32 tie0), (.i .u32 tie1)])) rfl rfl rfl rfl (r_ldA rfl hb82 rfl) ?_
  refine D_gr (v := (.agg [(.i .i64 made), (.i .i64 life), (.i .u32 tag), (.i .u32 peer), (.i .u32 first), (.i .u32 pf), (.i .u32 room), (.i .u16 out), (.i .u16 inn), (.i .u32 tie0), (.i .u32 tie1)])) rfl rfl rfl rfl (r_ldA rfl hb83 rfl) ?_
  refine D_gcall rfl (Ev.mono (theirs_ev h12 hO87.ok made life tag peer first pf room out inn tie0 tie1 ht hp hf hpf hr ho hi h0 h1) fun v89 H90 hq91 => ?_)
  obtain ⟨rfl, hK92⟩ := hq91
  have hb93 := (hK92.keep _ (by omega)).trans hb82
  have hb94 := (hK92.keep _ (by omega)).trans hb83
  have hb95 := (hK92.keep _ (by omega)).trans hb84
  have hx_hK92 := hK92.next
  have hlt_n1 : n1 < H90.next := by omega
  have hlt_n36 : n36 < H90.next := by omega
  have hlt_n60 : n60 < H90.next := by omega
  have hM96 := hM86.kp hK92
  have hO97 := hO87.trans hK92
  have hx_hO97 := hO97.next
  have hO98 := hO88.trans hK92
  refine And.intro (And.intro (Or.inl rfl) (And.intro (Or.inr (look_run rfl rfl (r_ldA rfl hb93 rfl))) True.intro)) ?_
  refine D_gcall rfl (Ev.mono (alike_ev hO97.ok made life tag peer first pf room out inn tie0 tie1 ht hp hf hpf hr ho hi h0 h1) fun v99 H100 hq101 => ?_)
  obtain ⟨rfl, hK102⟩ := hq101
  have hb103 := (hK102.keep _ (by omega)).trans hb93
  have hb104 := (hK102.keep _ (by omega)).trans hb94
  have hb105 := (hK102.keep _ (by omega)).trans hb95
  have hx_hK102 := hK102.next
  have hlt_n1 : n1 < H100.next := by omega
  have hlt_n36 : n36 < H100.next := by omega
  have hlt_n60 : n60 < H100.next := by omega
  have hM106 := hM96.kp hK102
  have hO107 := hO97.trans hK102
  have hx_hO107 := hO107.next
  have hO108 := hO98.trans hK102
  refine And.intro (And.intro (Or.inl rfl) True.intro) ?_
  refine D_l (v := (.b true)) rfl rfl rfl (r_pick_t rfl rfl) ?_
  refine D_l (v := (.b true)) rfl rfl rfl (r_mv rfl) ?_
  refine D_gl (v := (.i .i64 7)) rfl rfl rfl rfl (r_mv rfl) ?_
  refine D_gl (v := (.b false)) rfl rfl rfl rfl (r_bin rfl rfl rfl) ?_
  refine D_gl (v := (.b false)) rfl rfl rfl rfl (r_mv rfl) ?_
  refine D_gl (v := (.b true)) rfl rfl rfl rfl (r_beqq rfl rfl) ?_
  refine D_l (v := (.b true)) rfl rfl rfl (r_pick_t rfl rfl) ?_
  refine D_l (v := (.b true)) rfl rfl rfl (r_mv rfl) ?_
  refine D_gl (v := (.b false)) rfl rfl rfl rfl (r_mv rfl) ?_
  refine D_gl (v := (.b false)) rfl rfl rfl rfl (r_mv rfl) ?_
  refine D_gl (v := (.i .i64 7)) rfl rfl rfl rfl (r_mv rfl) ?_
  refine D_gl (v := (.b true)) rfl rfl rfl rfl (r_bin rfl rfl rfl) ?_
  refine D_gl (v := (.b true)) rfl rfl rfl rfl (r_pick_f rfl rfl) ?_
  refine D_l (v := (.b true)) rfl rfl rfl (r_pick_t rfl rfl) ?_
  refine D_l (v := (.b true)) rfl rfl rfl (r_mv rfl) ?_
  refine D_nil ?_
  refine C_ret ?_
  exact ⟨.inr rfl, _, resL_one (r_tmp (v := .b true) rfl), rfl⟩
set_option maxRecDepth 100000 in
set_option maxHeartbeats 4000000 in
theorem run5f1 (H : AH) (hok : H.Ok) (ka : Option (Nat × Nat)) (kc : Nat) (key : List UInt8) (khb : Bs H (.sl ka key.length kc 0) key) (khc : key.length ≤ kc) (khm0 : kc ≤ maxLen) (made : Int) (w_made : (Lit.int .i64 made).wf = true) (life : Int) (w_life : (Lit.int .i64 life).wf = true) (tag : Int) (w_tag : (Lit.int .u32 tag).wf = true) (peer : Int) (w_peer : (Lit.int .u32 peer).wf = true) (first : Int) (w_first : (Lit.int .u32 first).wf = true) (pf : Int) (w_pf : (Lit.int .u32 pf).wf = true) (room : Int) (w_room : (Lit.int .u32 room).wf = true) (out : Int) (w_out : (Lit.int .u16 out).wf = true) (inn : Int) (w_inn : (Lit.int .u16 inn).wf = true) (tie0 : Int) (w_tie0 : (Lit.int .u32 tie0).wf = true) (tie1 : Int) (w_tie1 : (Lit.int .u32 tie1).wf = true) (now : Int) (hk16 : key.length = 16) (hS : okS made life = false) : Ev tabA spA (.fn (.func 5) [] []) [.sl ka key.length kc 0, .agg [(.i .i64 made), (.i .i64 life), (.i .u32 tag), (.i .u32 peer), (.i .u32 first), (.i .u32 pf), (.i .u32 room), (.i .u16 out), (.i .u16 inn), (.i .u32 tie0), (.i .u32 tie1)], .i .i64 now] H (fun v _ => v = .b true) := by
  refine Ev_C (F := x5) rfl ?_
  have hO0 := Old.refl hok
  have khm : kc ≤ 9223372036854775807 := khm0
  have hma : -9223372036854775808 ≤ made ∧ made < 9223372036854775808 := by simp [Lit.wf, IntKind.wrap, IntKind.signed, IntKind.bits, IntKind.min, IntKind.max] at w_made; omega
  have hli : -9223372036854775808 ≤ life ∧ life < 9223372036854775808 := by simp [Lit.wf, IntKind.wrap, IntKind.signed, IntKind.bits, IntKind.min, IntKind.max] at w_life; omega
  have ht : 0 ≤ tag ∧ tag < 4294967296 := by simp [Lit.wf, IntKind.wrap, IntKind.signed, IntKind.bits, IntKind.min, IntKind.max] at w_tag; omega
  have hp : 0 ≤ peer ∧ peer < 4294967296 := by simp [Lit.wf, IntKind.wrap, IntKind.signed, IntKind.bits, IntKind.min, IntKind.max] at w_peer; omega
  have hf : 0 ≤ first ∧ first < 4294967296 := by simp [Lit.wf, IntKind.wrap, IntKind.signed, IntKind.bits, IntKind.min, IntKind.max] at w_first; omega
  have hpf : 0 ≤ pf ∧ pf < 4294967296 := by simp [Lit.wf, IntKind.wrap, IntKind.signed, IntKind.bits, IntKind.min, IntKind.max] at w_pf; omega
  have hr : 0 ≤ room ∧ room < 4294967296 := by simp [Lit.wf, IntKind.wrap, IntKind.signed, IntKind.bits, IntKind.min, IntKind.max] at w_room; omega
  have ho : 0 ≤ out ∧ out < 65536 := by simp [Lit.wf, IntKind.wrap, IntKind.signed, IntKind.bits, IntKind.min, IntKind.max] at w_out; omega
  have hi : 0 ≤ inn ∧ inn < 65536 := by simp [Lit.wf, IntKind.wrap, IntKind.signed, IntKind.bits, IntKind.min, IntKind.max] at w_inn; omega
  have h0 : 0 ≤ tie0 ∧ tie0 < 4294967296 := by simp [Lit.wf, IntKind.wrap, IntKind.signed, IntKind.bits, IntKind.min, IntKind.max] at w_tie0; omega
  have h1 : 0 ≤ tie1 ∧ tie1 < 4294967296 := by simp [Lit.wf, IntKind.wrap, IntKind.signed, IntKind.bits, IntKind.min, IntKind.max] at w_tie1; omega
  have h12 : tabA 12 = some x12 := rfl
  have h13 : tabA 13 = some x13 := rfl
  refine C_seq ?_
  refine C_region ?_
  refine O_box (z := [(.i .i64 made), (.i .i64 life), (.i .u32 tag), (.i .u32 peer), (.i .u32 first), (.i .u32 pf), (.i .u32 room), (.i .u16 out), (.i .u16 inn), (.i .u32 tie0), (.i .u32 tie1)]) rfl fun n1 H2 hN3 => ?_
  have hF4 := hN3.fr (fun _ => False)
  have hO5 := hO0.new hN3
  have hx_hO5 := hO5.next
  have hnm_n1 : n1 = H.next := hN3.1
  have hnx_H2 : H2.next = H.next + 1 := hN3.2.1
  have hlt_n1 : n1 < H2.next := by omega
  refine O_p (.b false) (r_mv rfl) ?_
  refine O_nil ?_
  refine C_seq ?_
  refine C_region ?_
  refine O_call (Ev.mono (awake_ev hO5.ok) fun v6 H7 hq8 => ?_)
  obtain ⟨rfl, hK9⟩ := hq8
  have hb10 := (hK9.keep _ (by omega)).trans hN3.2.2.1
  have hx_hK9 := hK9.next
  have hlt_n1 : n1 < H7.next := by omega
  have hO11 := hO5.trans hK9
  have hx_hO11 := hO11.next
  refine O_p (.b true) (r_mv rfl) ?_
  refine O_nil ?_
  refine C_seq ?_
  refine C_region ?_
  refine O_p (.sl ka key.length kc 0) (r_mv rfl) ?_
  refine O_p (.agg [(.i .i64 made), (.i .i64 life), (.i .u32 tag), (.i .u32 peer), (.i .u32 first), (.i .u32 pf), (.i .u32 room), (.i .u16 out), (.i .u16 inn), (.i .u32 tie0), (.i .u32 tie1)]) (r_ldA rfl hb10 rfl) ?_
  refine O_call (Ev.mono (enc_f1 hO11.ok (.inl rfl) (khb.old hok hO11) (by first | omega | (simp only [List.length_take, List.length_drop, List.length_append, List.length_cons, List.length_nil, beN_len] <;> omega)) (by first | omega | (simp only [List.length_take, List.length_drop, List.length_append, List.length_cons, List.length_nil, beN_len] <;> omega)) made life tag peer first pf room out inn tie0 tie1 hk16 hS) fun v12 H13 hq14 => ?_)
  obtain ⟨o15, rfl, hM16, hK17⟩ := hq14
  have hb18 := (hK17.keep _ (by omega)).trans hb10
  have hx_hK17 := hK17.next
  have hlt_n1 : n1 < H13.next := by omega
  have hO19 := hO11.trans hK17
  have hx_hO19 := hO19.next
  have hM20 := hM16.down (N := H.next) (by omega)
  have hM21 : Mine H.next 1 H13 o15 (bcells ([] : List UInt8)) := hM20
  have hd22 : ¬ o15.nameOf n1 := fun hq => by have := hM16.new _ hq; omega
  refine O_p (.tup [o15, (.b false)]) (r_mv rfl) ?_
  refine O_p o15 (r_ext rfl rfl) ?_
  refine O_p (.b false) (r_ext rfl rfl) ?_
  refine O_p o15 (r_mv rfl) ?_
  refine O_p (.b false) (r_mv rfl) ?_
  refine O_nil ?_
  refine C_seq ?_
  refine C_seq ?_
  refine C_region ?_
  refine O_p (.b false) (r_mv rfl) ?_
  refine O_p (.b true) (r_un rfl rfl) ?_
  refine O_nil ?_
  refine C_cond (x := true) rfl (fun _ => ?_) (fun h => by cases h)
  refine C_seq ?_
  refine C_region ?_
  refine O_p (.b true) (r_mv rfl) ?_
  refine O_p (.b true) (r_mv rfl) ?_
  refine O_gs (v := o15) rfl (r_mv rfl) ?_
  refine O_gs (v := (.i .i64 0)) rfl (by exact (by exact r_lenOf rfl (hM21.own.lenOf ((bcells_len _).trans (Nat.mul_one _).symm) (by decide)) hM21.own.isSl)) ?_
  refine O_gs (v := (.b true)) rfl (r_bin rfl rfl rfl) ?_
  refine O_p (.b true) (r_pick_t rfl rfl) ?_
  refine O_p (.b true) (r_mv rfl) ?_
  refine O_gs (v := (.sl ka key.length kc 0)) rfl (r_mv rfl) ?_
  refine O_gs (v := (.i .i64 (((key.length : Nat)) : Int))) rfl (r_len rfl) ?_
  refine O_gs (v := (.b false)) rfl (by exact (by rw [r_neq rfl rfl, decide_eq_true (by omega)]; rfl)) ?_
  refine O_gs (v := (.b false)) rfl (r_mv rfl) ?_
  refine O_gs (v := (.p (some (n1, 0)))) rfl (r_fadd' rfl rfl) ?_
  refine O_gs (v := (.i .i64 made)) rfl (r_ld rfl hb18 rfl) ?_
  refine O_gs (v := (.b (decide (made < 0)))) rfl (r_lss rfl rfl) ?_
  refine O_gs (v := (.b (decide (made < 0)))) rfl (r_pick_f rfl rfl) ?_
  refine O_gs (v := (.b (decide (made < 0)))) rfl (r_mv rfl) ?_
  refine O_gx (e := (!(decide (made < 0)))) (v := (.p (some (n1, 1)))) (wf rfl) (fun he => (r_fadd' rfl rfl)) ?_
  refine O_gx (e := (!(decide (made < 0)))) (v := (.i .i64 life)) (wf rfl) (fun he => (r_ld (cond_pos he) hb18 rfl)) ?_
  refine O_gx (e := (!(decide (made < 0)))) (v := (.b (decide (life < 0)))) (wf rfl) (fun he => (r_lss (cond_pos he) rfl)) ?_
  refine O_gs (v := (.b ((decide (made < 0)) || (decide (life < 0))))) rfl (r_pick_or rfl rfl rfl rfl) ?_
  refine O_gs (v := (.b ((decide (made < 0)) || (decide (life < 0))))) rfl (r_mv rfl) ?_
  refine O_gx (e := (!((decide (made < 0)) || (decide (life < 0))))) (v := (.p (some (n1, 0)))) (wf rfl) (fun he => (r_fadd' rfl rfl)) ?_
  refine O_gx (e := (!((decide (made < 0)) || (decide (life < 0))))) (v := (.i .i64 made)) (wf rfl) (fun he => (r_ld (cond_pos he) hb18 rfl)) ?_
  refine O_gx (e := (!((decide (made < 0)) || (decide (life < 0))))) (v := (.b (decide (281474976710656 < made)))) (wf rfl) (fun he => (r_gtr (cond_pos he) rfl)) ?_
  refine O_gs (v := (.b (((decide (made < 0)) || (decide (life < 0))) || (decide (281474976710656 < made))))) rfl (r_pick_or rfl rfl rfl rfl) ?_
  refine O_gs (v := (.b (((decide (made < 0)) || (decide (life < 0))) || (decide (281474976710656 < made))))) rfl (r_mv rfl) ?_
  refine O_gx (e := (!(((decide (made < 0)) || (decide (life < 0))) || (decide (281474976710656 < made))))) (v := (.p (some (n1, 1)))) (wf rfl) (fun he => (r_fadd' rfl rfl)) ?_
  refine O_gx (e := (!(((decide (made < 0)) || (decide (life < 0))) || (decide (281474976710656 < made))))) (v := (.i .i64 life)) (wf rfl) (fun he => (r_ld (cond_pos he) hb18 rfl)) ?_
  refine O_gx (e := (!(((decide (made < 0)) || (decide (life < 0))) || (decide (281474976710656 < made))))) (v := (.b (decide (281474976710656 < life)))) (wf rfl) (fun he => (r_gtr (cond_pos he) rfl)) ?_
  refine O_gs (v := (.b ((((decide (made < 0)) || (decide (life < 0))) || (decide (281474976710656 < made))) || (decide (281474976710656 < life))))) rfl (r_pick_or rfl rfl rfl rfl) ?_
  refine O_p (.b ((((decide (made < 0)) || (decide (life < 0))) || (decide (281474976710656 < made))) || (decide (281474976710656 < life)))) (r_pick_t rfl rfl) ?_
  refine O_p (.b ((((decide (made < 0)) || (decide (life < 0))) || (decide (281474976710656 < made))) || (decide (281474976710656 < life)))) (r_mv rfl) ?_
  refine O_nil ?_
  refine C_ret ?_
  refine nx_ret ?_
  have hfin : ((((decide (made < 0)) || (decide (life < 0))) || (decide (281474976710656 < made))) || (decide (281474976710656 < life))) = true := by
    unfold okS at hS; simp only [Bool.and_eq_false_iff, decide_eq_false_iff_not] at hS; simp only [Bool.or_eq_true, decide_eq_true_eq]; omega
  exact ⟨.inr rfl, _, resL_one (r_tmp (v := .b ((((decide (made < 0)) || (decide (life < 0))) || (decide (281474976710656 < made))) || (decide (281474976710656 < life)))) rfl), by rw [hfin]; rfl⟩
set_option maxRecDepth 100000 in
set_option maxHeartbeats 4000000 in
theorem run5f2 (H : AH) (hok : H.Ok) (ka : Option (Nat × Nat)) (kc : Nat) (key : List UInt8) (khb : Bs H (.sl ka key.length kc 0) key) (khc : key.length ≤ kc) (khm0 : kc ≤ maxLen) (made : Int) (w_made : (Lit.int .i64 made).wf = true) (life : Int) (w_life : (Lit.int .i64 life).wf = true) (tag : Int) (w_tag : (Lit.int .u32 tag).wf = true) (peer : Int) (w_peer : (Lit.int .u32 peer).wf = true) (first : Int) (w_first : (Lit.int .u32 first).wf = true) (pf : Int) (w_pf : (Lit.int .u32 pf).wf = true) (room : Int) (w_room : (Lit.int .u32 room).wf = true) (out : Int) (w_out : (Lit.int .u16 out).wf = true) (inn : Int) (w_inn : (Lit.int .u16 inn).wf = true) (tie0 : Int) (w_tie0 : (Lit.int .u32 tie0).wf = true) (tie1 : Int) (w_tie1 : (Lit.int .u32 tie1).wf = true) (now : Int) (hk16 : ¬ key.length = 16) : Ev tabA spA (.fn (.func 5) [] []) [.sl ka key.length kc 0, .agg [(.i .i64 made), (.i .i64 life), (.i .u32 tag), (.i .u32 peer), (.i .u32 first), (.i .u32 pf), (.i .u32 room), (.i .u16 out), (.i .u16 inn), (.i .u32 tie0), (.i .u32 tie1)], .i .i64 now] H (fun v _ => v = .b true) := by
  refine Ev_C (F := x5) rfl ?_
  have hO0 := Old.refl hok
  have khm : kc ≤ 9223372036854775807 := khm0
  have hma : -9223372036854775808 ≤ made ∧ made < 9223372036854775808 := by simp [Lit.wf, IntKind.wrap, IntKind.signed, IntKind.bits, IntKind.min, IntKind.max] at w_made; omega
  have hli : -9223372036854775808 ≤ life ∧ life < 9223372036854775808 := by simp [Lit.wf, IntKind.wrap, IntKind.signed, IntKind.bits, IntKind.min, IntKind.max] at w_life; omega
  have ht : 0 ≤ tag ∧ tag < 4294967296 := by simp [Lit.wf, IntKind.wrap, IntKind.signed, IntKind.bits, IntKind.min, IntKind.max] at w_tag; omega
  have hp : 0 ≤ peer ∧ peer < 4294967296 := by simp [Lit.wf, IntKind.wrap, IntKind.signed, IntKind.bits, IntKind.min, IntKind.max] at w_peer; omega
  have hf : 0 ≤ first ∧ first < 4294967296 := by simp [Lit.wf, IntKind.wrap, IntKind.signed, IntKind.bits, IntKind.min, IntKind.max] at w_first; omega
  have hpf : 0 ≤ pf ∧ pf < 4294967296 := by simp [Lit.wf, IntKind.wrap, IntKind.signed, IntKind.bits, IntKind.min, IntKind.max] at w_pf; omega
  have hr : 0 ≤ room ∧ room < 4294967296 := by simp [Lit.wf, IntKind.wrap, IntKind.signed, IntKind.bits, IntKind.min, IntKind.max] at w_room; omega
  have ho : 0 ≤ out ∧ out < 65536 := by simp [Lit.wf, IntKind.wrap, IntKind.signed, IntKind.bits, IntKind.min, IntKind.max] at w_out; omega
  have hi : 0 ≤ inn ∧ inn < 65536 := by simp [Lit.wf, IntKind.wrap, IntKind.signed, IntKind.bits, IntKind.min, IntKind.max] at w_inn; omega
  have h0 : 0 ≤ tie0 ∧ tie0 < 4294967296 := by simp [Lit.wf, IntKind.wrap, IntKind.signed, IntKind.bits, IntKind.min, IntKind.max] at w_tie0; omega
  have h1 : 0 ≤ tie1 ∧ tie1 < 4294967296 := by simp [Lit.wf, IntKind.wrap, IntKind.signed, IntKind.bits, IntKind.min, IntKind.max] at w_tie1; omega
  have h12 : tabA 12 = some x12 := rfl
  have h13 : tabA 13 = some x13 := rfl
  refine C_seq ?_
  refine C_region ?_
  refine O_box (z := [(.i .i64 made), (.i .i64 life), (.i .u32 tag), (.i .u32 peer), (.i .u32 first), (.i .u32 pf), (.i .u32 room), (.i .u16 out), (.i .u16 inn), (.i .u32 tie0), (.i .u32 tie1)]) rfl fun n1 H2 hN3 => ?_
  have hF4 := hN3.fr (fun _ => False)
  have hO5 := hO0.new hN3
  have hx_hO5 := hO5.next
  have hnm_n1 : n1 = H.next := hN3.1
  have hnx_H2 : H2.next = H.next + 1 := hN3.2.1
  have hlt_n1 : n1 < H2.next := by omega
  refine O_p (.b false) (r_mv rfl) ?_
  refine O_nil ?_
  refine C_seq ?_
  refine C_region ?_
  refine O_call (Ev.mono (awake_ev hO5.ok) fun v6 H7 hq8 => ?_)
  obtain ⟨rfl, hK9⟩ := hq8
  have hb10 := (hK9.keep _ (by omega)).trans hN3.2.2.1
  have hx_hK9 := hK9.next
  have hlt_n1 : n1 < H7.next := by omega
  have hO11 := hO5.trans hK9
  have hx_hO11 := hO11.next
  refine O_p (.b true) (r_mv rfl) ?_
  refine O_nil ?_
  refine C_seq ?_
  refine C_region ?_
  refine O_p (.sl ka key.length kc 0) (r_mv rfl) ?_
  refine O_p (.agg [(.i .i64 made), (.i .i64 life), (.i .u32 tag), (.i .u32 peer), (.i .u32 first), (.i .u32 pf), (.i .u32 room), (.i .u16 out), (.i .u16 inn), (.i .u32 tie0), (.i .u32 tie1)]) (r_ldA rfl hb10 rfl) ?_
  refine O_call (Ev.mono (enc_f2 hO11.ok (.inl rfl) (khb.old hok hO11) (by first | omega | (simp only [List.length_take, List.length_drop, List.length_append, List.length_cons, List.length_nil, beN_len] <;> omega)) (by first | omega | (simp only [List.length_take, List.length_drop, List.length_append, List.length_cons, List.length_nil, beN_len] <;> omega)) made life tag peer first pf room out inn tie0 tie1 hk16) fun v12 H13 hq14 => ?_)
  obtain ⟨o15, rfl, hM16, hK17⟩ := hq14
  have hb18 := (hK17.keep _ (by omega)).trans hb10
  have hx_hK17 := hK17.next
  have hlt_n1 : n1 < H13.next := by omega
  have hO19 := hO11.trans hK17
  have hx_hO19 := hO19.next
  have hM20 := hM16.down (N := H.next) (by omega)
  have hM21 : Mine H.next 1 H13 o15 (bcells ([] : List UInt8)) := hM20
  have hd22 : ¬ o15.nameOf n1 := fun hq => by have := hM16.new _ hq; omega
  refine O_p (.tup [o15, (.b false)]) (r_mv rfl) ?_
  refine O_p o15 (r_ext rfl rfl) ?_
  refine O_p (.b false) (r_ext rfl rfl) ?_
  refine O_p o15 (r_mv rfl) ?_
  refine O_p (.b false) (r_mv rfl) ?_
  refine O_nil ?_
  refine C_seq ?_
  refine C_seq ?_
  refine C_region ?_
  refine O_p (.b false) (r_mv rfl) ?_
  refine O_p (.b true) (r_un rfl rfl) ?_
  refine O_nil ?_
  refine C_cond (x := true) rfl (fun _ => ?_) (fun h => by cases h)
  refine C_seq ?_
  refine C_region ?_
  refine O_p (.b true) (r_mv rfl) ?_
  refine O_p (.b true) (r_mv rfl) ?_
  refine O_gs (v := o15) rfl (r_mv rfl) ?_
  refine O_gs (v := (.i .i64 0)) rfl (by exact (by exact r_lenOf rfl (hM21.own.lenOf ((bcells_len _).trans (Nat.mul_one _).symm) (by decide)) hM21.own.isSl)) ?_
  refine O_gs (v := (.b true)) rfl (r_bin rfl rfl rfl) ?_
  refine O_p (.b true) (r_pick_t rfl rfl) ?_
  refine O_p (.b true) (r_mv rfl) ?_
  refine O_gs (v := (.sl ka key.length kc 0)) rfl (r_mv rfl) ?_
  refine O_gs (v := (.i .i64 (((key.length : Nat)) : Int))) rfl (r_len rfl) ?_
  refine O_gs (v := (.b true)) rfl (by exact (by rw [r_neq rfl rfl, decide_eq_false (by omega)]; rfl)) ?_
  refine O_gs (v := (.b true)) rfl (r_mv rfl) ?_
  refine O_gf rfl ?_
  refine O_gf rfl ?_
  refine O_gf rfl ?_
  refine O_gs (v := (.b true)) rfl (r_pick_t rfl rfl) ?_
  refine O_gs (v := (.b true)) rfl (r_mv rfl) ?_
  refine O_gf rfl ?_
  refine O_gf rfl ?_
  refine O_gf rfl ?_
  refine O_gs (v := (.b true)) rfl (r_pick_t rfl rfl) ?_
  refine O_gs (v := (.b true)) rfl (r_mv rfl) ?_
  refine O_gf rfl ?_
  refine O_gf rfl ?_
  refine O_gf rfl ?_
  refine O_gs (v := (.b true)) rfl (r_pick_t rfl rfl) ?_
  refine O_gs (v := (.b true)) rfl (r_mv rfl) ?_
  refine O_gf rfl ?_
  refine O_gf rfl ?_
  refine O_gf rfl ?_
  refine O_gs (v := (.b true)) rfl (r_pick_t rfl rfl) ?_
  refine O_p (.b true) (r_pick_t rfl rfl) ?_
  refine O_p (.b true) (r_mv rfl) ?_
  refine O_nil ?_
  refine C_ret ?_
  refine nx_ret ?_
  exact ⟨.inr rfl, _, resL_one (r_tmp (v := .b true) rfl), rfl⟩
theorem run5 (H : AH) (hok : H.Ok) (ka : Option (Nat × Nat)) (kc : Nat) (key : List UInt8) (khb : Bs H (.sl ka key.length kc 0) key) (khc : key.length ≤ kc) (khm0 : kc ≤ maxLen) (made : Int) (w_made : (Lit.int .i64 made).wf = true) (life : Int) (w_life : (Lit.int .i64 life).wf = true) (tag : Int) (w_tag : (Lit.int .u32 tag).wf = true) (peer : Int) (w_peer : (Lit.int .u32 peer).wf = true) (first : Int) (w_first : (Lit.int .u32 first).wf = true) (pf : Int) (w_pf : (Lit.int .u32 pf).wf = true) (room : Int) (w_room : (Lit.int .u32 room).wf = true) (out : Int) (w_out : (Lit.int .u16 out).wf = true) (inn : Int) (w_inn : (Lit.int .u16 inn).wf = true) (tie0 : Int) (w_tie0 : (Lit.int .u32 tie0).wf = true) (tie1 : Int) (w_tie1 : (Lit.int .u32 tie1).wf = true) (now : Int) (w_now : (Lit.int .i64 now).wf = true) : Ev tabA spA (.fn (.func 5) [] []) [.sl ka key.length kc 0, .agg [(.i .i64 made), (.i .i64 life), (.i .u32 tag), (.i .u32 peer), (.i .u32 first), (.i .u32 pf), (.i .u32 room), (.i .u16 out), (.i .u16 inn), (.i .u32 tie0), (.i .u32 tie1)], .i .i64 now] H (fun v _ => v = .b true) := by
  by_cases hk : key.length = 16
  · cases hS : okS made life with
    | true =>
      by_cases h1 : now < made
      · exact run5tb1 H hok ka kc key khb khc khm0 made w_made life w_life tag w_tag peer w_peer first w_first pf w_pf room w_room out w_out inn w_inn tie0 w_tie0 tie1 w_tie1 now hk hS h1
      · by_cases h2 : made + life < now
        · exact run5tb2 H hok ka kc key khb khc khm0 made w_made life w_life tag w_tag peer w_peer first w_first pf w_pf room w_room out w_out inn w_inn tie0 w_tie0 tie1 w_tie1 now hk hS ⟨by omega, h2⟩
        · exact run5tf H hok ka kc key khb khc khm0 made w_made life w_life tag w_tag peer w_peer first w_first pf w_pf room w_room out w_out inn w_inn tie0 w_tie0 tie1 w_tie1 now hk hS ⟨by omega, by omega⟩
    | false => exact run5f1 H hok ka kc key khb khc khm0 made w_made life w_life tag w_tag peer w_peer first w_first pf w_pf room w_room out w_out inn w_inn tie0 w_tie0 tie1 w_tie1 now hk hS
  · exact run5f2 H hok ka kc key khb khc khm0 made w_made life w_life tag w_tag peer w_peer first w_first pf w_pf room w_room out w_out inn w_inn tie0 w_tie0 tie1 w_tie1 now hk
theorem array2 {P : Program} {H : AH} {k : Nat} {t e : TypeId} {x y : AV} (hu : P.underlying t = some (.array 2 e)) (hz : P.cellsOf e = 1) (h : Typed P H (k + 1) t [x, y]) : Typed P H k e [x] ∧ Typed P H k e [y] := by
  unfold Typed at h; rw [hu] at h
  obtain ⟨_, h⟩ := h
  have h0 := h 0 (by decide)
  have h1 := h 1 (by decide)
  rw [hz] at h0 h1
  exact ⟨h0, h1⟩
theorem law5 (W : World) (ρ : Rho) (H : AH) (xs : List AV) (args : Array Value) (hR : Rel Try.prog W.heap.size W ρ H W) (hro : RO H) (hv : VRL ρ xs args.toList) (ht : TypedVs Try.prog H 9 Try.f5.params.toList xs) :
    Calls Try.prog 5 args W fun e w' => e = .returned (.bool true) ∧ Below W.heap.size W w' := by
  rw [Try.params5] at ht
  obtain ⟨a1, xs, rfl, g1, a2, xs, rfl, g2, b0, xs, rfl, gb0, rfl⟩ := ht
  obtain ⟨now, rfl, w_now⟩ := typedV_int Try.underlying3 gb0
  obtain ⟨ka, kn, kc, key, rfl, hb1, rfl, hc1, hm1⟩ := typed_bytes Try.underlying22 Try.underlying5 (by kernel_rfl) (typedV_slice Try.underlying22 g1)
  obtain ⟨l, rfl, g3⟩ := typedV_struct Try.underlying27 g2
  obtain ⟨hl, hq⟩ := struct_parts (qs := [(3, 0, 1), (3, 1, 1), (23, 2, 1), (23, 3, 1), (23, 4, 1), (23, 5, 1), (23, 6, 1), (24, 7, 1), (24, 8, 1), (25, 9, 2)]) Try.underlying27 g3 (by kernel_rfl)
  rw [show Try.prog.cellsOf 27 = 11 by kernel_rfl] at hl
  match l, hl with
  | [x0, x1, x2, x3, x4, x5, x6, x7, x8, x9, x10], _ =>
    simp only [List.forall_mem_cons, List.drop_zero, List.drop_succ_cons, List.take_succ_cons, List.take_zero] at hq
    obtain ⟨q0, q1, q2, q3, q4, q5, q6, q7, q8, q9, _⟩ := hq
    obtain ⟨made, e0, w_made⟩ := typed_int Try.underlying3 q0
    obtain ⟨life, e1, w_life⟩ := typed_int Try.underlying3 q1
    obtain ⟨tag, e2, w_tag⟩ := typed_int Try.underlying23 q2
    obtain ⟨peer, e3, w_peer⟩ := typed_int Try.underlying23 q3
    obtain ⟨first, e4, w_first⟩ := typed_int Try.underlying23 q4
    obtain ⟨pf, e5, w_pf⟩ := typed_int Try.underlying23 q5
    obtain ⟨room, e6, w_room⟩ := typed_int Try.underlying23 q6
    obtain ⟨out, e7, w_out⟩ := typed_int Try.underlying24 q7
    obtain ⟨inn, e8, w_inn⟩ := typed_int Try.underlying24 q8
    obtain ⟨q9, q10⟩ := array2 Try.underlying25 (by kernel_rfl) q9
    obtain ⟨tie0, e9, w_tie0⟩ := typed_int Try.underlying23 q9
    obtain ⟨tie1, e10, w_tie1⟩ := typed_int Try.underlying23 q10
    cases e0; cases e1; cases e2; cases e3; cases e4; cases e5; cases e6; cases e7; cases e8; cases e9; cases e10
    obtain ⟨k, v, H', hex, rfl⟩ := run5 H hR.aok ka kc key hb1 hc1 hm1 made w_made life w_life tag w_tag peer w_peer first w_first pf w_pf room w_room out w_out inn w_inn tie0 w_tie0 tie1 w_tie1 now w_now
    exact law_of mixed tabA_ok spA_ok hex hR hv
end Go.Proofs.Yteapgimihapefaa.E
namespace Go.Proofs.Yteapgimihapefaa.cookieBack
open Go.ChangeShapes Go.WideShapes Go.RowKit
set_option linter.unusedVariables false
theorem own : ownKnob Try.prog.godebug = none := by kernel_rfl
theorem types : (Try.f5.params.toList.all fun t => E.fit Try.prog 9 t && (Try.prog.readableRec t && decide (t < Try.prog.types.size))) = true := by kernel_rfl
set_option maxRecDepth 100000 in
theorem lifted (os : Os) (started : os.Started) (H : Type) (enc : TypeId × Value → H) :
    ReturnsInHanded {} Try.checked os 5 .any (Rows.cookieBackSpec.pre6 enc Try.prog Try.f5 Rows.cookieBackRow.domain false) (Rows.cookieBackSpec.post enc Try.prog Try.f5 false true false false) :=
  E.law_lifted (C := Try.checked) (k := 9) (tb := 4) E.globals0 E.laid own started (by kernel_rfl) Try.func5
    (ChangeSpec.witness6 (enc := enc) (C := Try.checked) false ⟨#[], #[.slice none 0 0, .agg #[.int .i64 0, .int .i64 0, .int .u32 0, .int .u32 0, .int .u32 0, .int .u32 0, .int .u32 0, .int .u16 0, .int .u16 0, .int .u32 0, .int .u32 0], .int .i64 0], []⟩ 8 (by kernel_rfl) (by kernel_rfl) (by kernel_rfl) (by kernel_rfl))
    rfl rfl Try.underlying4 (fun t ht => by have h := List.all_eq_true.1 types t ht; simp only [Bool.and_eq_true, decide_eq_true_eq] at h; exact h)
    (fun ds hd => by
      rw [Try.params5] at hd
      match ds, hd with
      | [d0, d1, d2], _ => rfl) E.law5
theorem over : Rows.cookieBackRow.holds Try.pinned (OpenSpec.ofChange Rows.cookieBackSpec) :=
  OpenClaim.holds_of_wide 5 Try.f5 rfl rfl rfl rfl rfl rfl rfl ⟨rfl, rfl, rfl, rfl, rfl⟩ rfl rfl rfl rfl rfl (by kernel_rfl) Try.func5 (by kernel_rfl)
    (of_decide_eq_true (by kernel_rfl)) (by unfold Func.isWrapper; first | (rw [if_pos (by decide +kernel)]; kernel_rfl) | (rw [if_neg (by decide +kernel)]; exact ⟨rfl, rfl⟩))
    (fun os started H enc _ => lifted os started H enc)
end Go.Proofs.Yteapgimihapefaa.cookieBack
namespace Go.Proofs.Yteapgimihapefaa
/-- The row, under a short name, for the claim. -/
theorem cookieBack_holds : Rows.CookieBackSaid := cookieBack.over
#print axioms cookieBack_holds
end Go.Proofs.Yteapgimihapefaa
