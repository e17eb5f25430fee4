/- CookieEncodes, for every input, without conditions. -/
import Derived.Test.YteapgimihapefaaP
import Derived.Test.YteapgimihapefaaRows
import Derived.ProofKit
import Derived.OpenShut
namespace Go.Proofs.Yteapgimihapefaa.E
open Go.RowKit (Below)
set_option linter.unusedVariables false
set_option linter.unusedSimpArgs false
set_option maxRecDepth 100000 in
theorem run3t (H : AH) (hok : H.Ok) (ka : Option (Nat × Nat)) (kc : Nat) (key : List UInt8) (khb : Bs H (.sl ka key.length kc 0) key) (khc : key.length ≤ kc) (khm0 : kc ≤ maxLen) (made : Int) (w_made : (Lit.int .i64 made).wf = true) (life : Int) (w_life : (Lit.int .i64 life).wf = true) (tag : Int) (w_tag : (Lit.int .u32 tag).wf = true) (peer : Int) (w_peer : (Lit.int .u32 peer).wf = true) (first : Int) (w_first : (Lit.int .u32 first).wf = true) (pf : Int) (w_pf : (Lit.int .u32 pf).wf = true) (room : Int) (w_room : (Lit.int .u32 room).wf = true) (out : Int) (w_out : (Lit.int .u16 out).wf = true) (inn : Int) (w_inn : (Lit.int .u16 inn).wf = true) (tie0 : Int) (w_tie0 : (Lit.int .u32 tie0).wf = true) (tie1 : Int) (w_tie1 : (Lit.int .u32 tie1).wf = true) (hk16 : key.length = 16) (hS : okS made life = true) : Ev tabA spA (.fn (.func 3) [] []) [.sl ka key.length kc 0, .agg [(.i .i64 made), (.i .i64 life), (.i .u32 tag), (.i .u32 peer), (.i .u32 first), (.i .u32 pf), (.i .u32 room), (.i .u16 out), (.i .u16 inn), (.i .u32 tie0), (.i .u32 tie1)]] H (fun v _ => v = .b true) := by
  refine Ev_C (F := x3) rfl ?_
  have hO0 := Old.refl hok
  have khm : kc ≤ 9223372036854775807 := khm0
  have hma : -9223372036854775808 ≤ made ∧ made < 9223372036854775808 := by simp [Lit.wf, IntKind.wrap, IntKind.signed, IntKind.bits, IntKind.min, IntKind.max] at w_made; omega
  have hli : -9223372036854775808 ≤ life ∧ life < 9223372036854775808 := by simp [Lit.wf, IntKind.wrap, IntKind.signed, IntKind.bits, IntKind.min, IntKind.max] at w_life; omega
  have ht : 0 ≤ tag ∧ tag < 4294967296 := by simp [Lit.wf, IntKind.wrap, IntKind.signed, IntKind.bits, IntKind.min, IntKind.max] at w_tag; omega
  have hp : 0 ≤ peer ∧ peer < 4294967296 := by simp [Lit.wf, IntKind.wrap, IntKind.signed, IntKind.bits, IntKind.min, IntKind.max] at w_peer; omega
  have hf : 0 ≤ first ∧ first < 4294967296 := by simp [Lit.wf, IntKind.wrap, IntKind.signed, IntKind.bits, IntKind.min, IntKind.max] at w_first; omega
  have hpf : 0 ≤ pf ∧ pf < 4294967296 := by simp [Lit.wf, IntKind.wrap, IntKind.signed, IntKind.bits, IntKind.min, IntKind.max] at w_pf; omega
  have hr : 0 ≤ room ∧ room < 4294967296 := by simp [Lit.wf, IntKind.wrap, IntKind.signed, IntKind.bits, IntKind.min, IntKind.max] at w_room; omega
  have ho : 0 ≤ out ∧ out < 65536 := by simp [Lit.wf, IntKind.wrap, IntKind.signed, IntKind.bits, IntKind.min, IntKind.max] at w_out; omega
  have hi : 0 ≤ inn ∧ inn < 65536 := by simp [Lit.wf, IntKind.wrap, IntKind.signed, IntKind.bits, IntKind.min, IntKind.max] at w_inn; omega
  have h0 : 0 ≤ tie0 ∧ tie0 < 4294967296 := by simp [Lit.wf, IntKind.wrap, IntKind.signed, IntKind.bits, IntKind.min, IntKind.max] at w_tie0; omega
  have h1 : 0 ≤ tie1 ∧ tie1 < 4294967296 := by simp [Lit.wf, IntKind.wrap, IntKind.signed, IntKind.bits, IntKind.min, IntKind.max] at w_tie1; omega
  have h12 : tabA 12 = some x12 := rfl
  have h13 : tabA 13 = some x13 := rfl
  refine C_seq ?_
  refine C_region ?_
  refine O_box (z := [(.i .i64 made), (.i .i64 life), (.i .u32 tag), (.i .u32 peer), (.i .u32 first), (.i .u32 pf), (.i .u32 room), (.i .u16 out), (.i .u16 inn), (.i .u32 tie0), (.i .u32 tie1)]) rfl fun n1 H2 hN3 => ?_
  have hF4 := hN3.fr (fun _ => False)
  have hO5 := hO0.new hN3
  have hx_hO5 := hO5.next
  have hnm_n1 : n1 = H.next := hN3.1
  have hnx_H2 : H2.next = H.next + 1 := hN3.2.1
  have hlt_n1 : n1 < H2.next := by omega
  refine O_p (.b false) (r_mv rfl) ?_
  refine O_nil ?_
  refine C_seq ?_
  refine C_region ?_
  refine O_call (Ev.mono (awake_ev hO5.ok) fun v6 H7 hq8 => ?_)
  obtain ⟨rfl, hK9⟩ := hq8
  have hb10 := (hK9.keep _ (by omega)).trans hN3.2.2.1
  have hx_hK9 := hK9.next
  have hlt_n1 : n1 < H7.next := by omega
  have hO11 := hO5.trans hK9
  have hx_hO11 := hO11.next
  refine O_p (.b true) (r_mv rfl) ?_
  refine O_nil ?_
  refine C_seq ?_
  refine C_seq ?_
  refine C_region ?_
  refine O_p (.sl ka key.length kc 0) (r_mv rfl) ?_
  refine O_p (.i .i64 (((key.length : Nat)) : Int)) (r_len rfl) ?_
  refine O_p (.b (decide (300 < (((key.length : Nat)) : Int)))) (r_gtr rfl rfl) ?_
  refine O_nil ?_
  refine C_cond (x := (decide (300 < (((key.length : Nat)) : Int)))) rfl (fun hc12 => ?_) (fun hc12 => ?_)
  ·
    simp only [decide_eq_true_eq, decide_eq_false_iff_not, Bool.not_eq_true', Bool.not_eq_false', Bool.and_eq_true, Bool.or_eq_true, Bool.or_eq_false_iff, Bool.not_not] at hc12
    refine C_seq ?_
    refine C_region ?_
    refine O_p (.b true) (r_mv rfl) ?_
    refine O_p (.b true) (r_mv rfl) ?_
    refine O_nil ?_
    refine C_ret ?_
    refine nx_ret ?_
    exact ⟨.inr rfl, _, resL_one (r_tmp (v := .b true) rfl), rfl⟩
  ·
    simp only [decide_eq_true_eq, decide_eq_false_iff_not, Bool.not_eq_true', Bool.not_eq_false', Bool.and_eq_true, Bool.or_eq_true, Bool.or_eq_false_iff, Bool.not_not] at hc12
    refine C_skip ?_
    refine C_seq ?_
    refine C_region ?_
    refine O_p (.sl ka key.length kc 0) (r_mv rfl) ?_
    refine O_p (.agg [(.i .i64 made), (.i .i64 life), (.i .u32 tag), (.i .u32 peer), (.i .u32 first), (.i .u32 pf), (.i .u32 room), (.i .u16 out), (.i .u16 inn), (.i .u32 tie0), (.i .u32 tie1)]) (r_ldA rfl hb10 rfl) ?_
    refine O_call (Ev.mono (enc_t hO11.ok (.inl rfl) (khb.old hok hO11) (by first | omega | (simp only [List.length_take, List.length_drop, List.length_append, List.length_cons, List.length_nil, beN_len] <;> omega)) (by first | omega | (simp only [List.length_take, List.length_drop, List.length_append, List.length_cons, List.length_nil, beN_len] <;> omega)) made life tag peer first pf room out inn tie0 tie1 hk16 hS) fun v13 H14 hq15 => ?_)
    obtain ⟨o16, rfl, hM17, hK18⟩ := hq15
    have hb19 := (hK18.keep _ (by omega)).trans hb10
    have hx_hK18 := hK18.next
    have hlt_n1 : n1 < H14.next := by omega
    have hO20 := hO11.trans hK18
    have hx_hO20 := hO20.next
    have hM21 := hM17.down (N := H.next) (by omega)
    have hlz_o16 : ((sealed key (b32 (wordsL made life tag peer first pf room out inn tie0 tie1)))).length = 60 := by rw [sealed_len, b32_len]; rfl
    have hd22 : ¬ o16.nameOf n1 := fun hq => by have := hM17.new _ hq; omega
    refine O_p (.tup [o16, (.b true)]) (r_mv rfl) ?_
    refine O_p o16 (r_ext rfl rfl) ?_
    refine O_p (.b true) (r_ext rfl rfl) ?_
    refine O_p o16 (r_mv rfl) ?_
    refine O_p (.b true) (r_mv rfl) ?_
    refine O_nil ?_
    refine C_seq ?_
    refine C_region ?_
    refine O_p (.sl ka key.length kc 0) (r_mv rfl) ?_
    refine O_p (.agg [(.i .i64 made), (.i .i64 life), (.i .u32 tag), (.i .u32 peer), (.i .u32 first), (.i .u32 pf), (.i .u32 room), (.i .u16 out), (.i .u16 inn), (.i .u32 tie0), (.i .u32 tie1)]) (r_ldA rfl hb19 rfl) ?_
    refine O_call (Ev.mono (theirs_ev h12 hO20.ok made life tag peer first pf room out inn tie0 tie1 ht hp hf hpf hr ho hi h0 h1) fun v23 H24 hq25 => ?_)
    obtain ⟨rfl, hK26⟩ := hq25
    have hb27 := (hK26.keep _ (by omega)).trans hb19
    have hx_hK26 := hK26.next
    have hlt_n1 : n1 < H24.next := by omega
    have hM28 := hM21.kp hK26
    have hO29 := hO20.trans hK26
    have hx_hO29 := hO29.next
    refine O_call (Ev.mono (renc_t hO29.ok (.inl rfl) (khb.old hok hO29) (by first | omega | (simp only [List.length_take, List.length_drop, List.length_append, List.length_cons, List.length_nil, beN_len] <;> omega)) (by first | omega | (simp only [List.length_take, List.length_drop, List.length_append, List.length_cons, List.length_nil, beN_len] <;> omega)) made life tag peer first pf room out inn tie0 tie1 ht hp hf hpf hr ho hi h0 h1 hk16 hS) fun v30 H31 hq32 => ?_)
    obtain ⟨o33, rfl, hM34, hK35⟩ := hq32
    have hb36 := (hK35.keep _ (by omega)).trans hb27
    have hx_hK35 := hK35.next
    have hlt_n1 : n1 < H31.next := by omega
    have hM37 := hM28.kp hK35
    have hO38 := hO29.trans hK35
    have hx_hO38 := hO38.next
    have hM39 := hM34.down (N := H.next) (by omega)
    have hlz_o33 : ((sealed key (b32 (wordsL made life tag peer first pf room out inn tie0 tie1)))).length = 60 := by rw [sealed_len, b32_len]; rfl
    have hd40 : ¬ o33.nameOf n1 := fun hq => by have := hM34.new _ hq; omega
    refine O_p (.tup [o33, (.b true)]) (r_mv rfl) ?_
    refine O_p o33 (r_ext rfl rfl) ?_
    refine O_p (.b true) (r_ext rfl rfl) ?_
    refine O_p o33 (r_mv rfl) ?_
    refine O_p (.b true) (r_mv rfl) ?_
    refine O_nil ?_
    refine C_seq ?_
    refine C_region ?_
    refine O_p (.b true) (r_mv rfl) ?_
    refine O_p (.b true) (r_mv rfl) ?_
    refine O_gs (v := (.b true)) rfl (r_mv rfl) ?_
    refine O_gs (v := (.b true)) rfl (r_mv rfl) ?_
    refine O_gs (v := (.b true)) rfl (r_beqq rfl rfl) ?_
    refine O_p (.b true) (r_pick_t rfl rfl) ?_
    refine O_p (.b true) (r_mv rfl) ?_
    refine O_gs (v := o16) rfl (r_mv rfl) ?_
    refine O_gs (v := o33) rfl (r_mv rfl) ?_
    have hsf45 : Own 1 H31 o16 (bcells (sealed key (b32 (wordsL made life tag peer first pf room out inn tie0 tie1)))) := hM37.own
    obtain ⟨oa41, og42, rfl, hog43, hob44⟩ := hsf45.bs
    have base46 := Old.refl hO38.ok
    have hsf51 : Own 1 H31 o33 (bcells (sealed key (b32 (wordsL made life tag peer first pf room out inn tie0 tie1)))) := hM39.own
    obtain ⟨oa47, og48, rfl, hog49, hob50⟩ := hsf51.bs
    have base52 := Old.refl hO38.ok
    refine O_gcall rfl (Ev.mono (same_ev h13 hO38.ok hog43 (hM37.own.asbs) (by first | omega | (simp only [List.length_take, List.length_drop, List.length_append, List.length_cons, List.length_nil, beN_len] <;> omega)) (by first | omega | (simp only [List.length_take, List.length_drop, List.length_append, List.length_cons, List.length_nil, beN_len] <;> omega)) hog49 (hM39.own.asbs) (by first | omega | (simp only [List.length_take, List.length_drop, List.length_append, List.length_cons, List.length_nil, beN_len] <;> omega)) (by first | omega | (simp only [List.length_take, List.length_drop, List.length_append, List.length_cons, List.length_nil, beN_len] <;> omega))) fun v53 H54 hq55 => ?_)
    rw [show decide ((sealed key (b32 (wordsL made life tag peer first pf room out inn tie0 tie1))) = (sealed key (b32 (wordsL made life tag peer first pf room out inn tie0 tie1)))) = true from decide_eq_true rfl] at hq55
    obtain ⟨rfl, hq55⟩ := hq55
    subst H54
    refine O_p (.b true) (r_pick_t rfl rfl) ?_
    refine O_p (.b true) (r_mv rfl) ?_
    refine O_nil ?_
    refine C_ret ?_
    exact ⟨.inr rfl, _, resL_one (r_tmp (v := .b true) rfl), rfl⟩
set_option maxRecDepth 100000 in
theorem run3f1 (H : AH) (hok : H.Ok) (ka : Option (Nat × Nat)) (kc : Nat) (key : List UInt8) (khb : Bs H (.sl ka key.length kc 0) key) (khc : key.length ≤ kc) (khm0 : kc ≤ maxLen) (made : Int) (w_made : (Lit.int .i64 made).wf = true) (life : Int) (w_life : (Lit.int .i64 life).wf = true) (tag : Int) (w_tag : (Lit.int .u32 tag).wf = true) (peer : Int) (w_peer : (Lit.int .u32 peer).wf = true) (first : Int) (w_first : (Lit.int .u32 first).wf = true) (pf : Int) (w_pf : (Lit.int .u32 pf).wf = true) (room : Int) (w_room : (Lit.int .u32 room).wf = true) (out : Int) (w_out : (Lit.int .u16 out).wf = true) (inn : Int) (w_inn : (Lit.int .u16 inn).wf = true) (tie0 : Int) (w_tie0 : (Lit.int .u32 tie0).wf = true) (tie1 : Int) (w_tie1 : (Lit.int .u32 tie1).wf = true) (hk16 : key.length = 16) (hS : okS made life = false) : Ev tabA spA (.fn (.func 3) [] []) [.sl ka key.length kc 0, .agg [(.i .i64 made), (.i .i64 life), (.i .u32 tag), (.i .u32 peer), (.i .u32 first), (.i .u32 pf), (.i .u32 room), (.i .u16 out), (.i .u16 inn), (.i .u32 tie0), (.i .u32 tie1)]] H (fun v _ => v = .b true) := by
  refine Ev_C (F := x3) rfl ?_
  have hO0 := Old.refl hok
  have khm : kc ≤ 9223372036854775807 := khm0
  have hma : -9223372036854775808 ≤ made ∧ made < 9223372036854775808 := by simp [Lit.wf, IntKind.wrap, IntKind.signed, IntKind.bits, IntKind.min, IntKind.max] at w_made; omega
  have hli : -9223372036854775808 ≤ life ∧ life < 9223372036854775808 := by simp [Lit.wf, IntKind.wrap, IntKind.signed, IntKind.bits, IntKind.min, IntKind.max] at w_life; omega
  have ht : 0 ≤ tag ∧ tag < 4294967296 := by simp [Lit.wf, IntKind.wrap, IntKind.signed, IntKind.bits, IntKind.min, IntKind.max] at w_tag; omega
  have hp : 0 ≤ peer ∧ peer < 4294967296 := by simp [Lit.wf, IntKind.wrap, IntKind.signed, IntKind.bits, IntKind.min, IntKind.max] at w_peer; omega
  have hf : 0 ≤ first ∧ first < 4294967296 := by simp [Lit.wf, IntKind.wrap, IntKind.signed, IntKind.bits, IntKind.min, IntKind.max] at w_first; omega
  have hpf : 0 ≤ pf ∧ pf < 4294967296 := by simp [Lit.wf, IntKind.wrap, IntKind.signed, IntKind.bits, IntKind.min, IntKind.max] at w_pf; omega
  have hr : 0 ≤ room ∧ room < 4294967296 := by simp [Lit.wf, IntKind.wrap, IntKind.signed, IntKind.bits, IntKind.min, IntKind.max] at w_room; omega
  have ho : 0 ≤ out ∧ out < 65536 := by simp [Lit.wf, IntKind.wrap, IntKind.signed, IntKind.bits, IntKind.min, IntKind.max] at w_out; omega
  have hi : 0 ≤ inn ∧ inn < 65536 := by simp [Lit.wf, IntKind.wrap, IntKind.signed, IntKind.bits, IntKind.min, IntKind.max] at w_inn; omega
  have h0 : 0 ≤ tie0 ∧ tie0 < 4294967296 := by simp [Lit.wf, IntKind.wrap, IntKind.signed, IntKind.bits, IntKind.min, IntKind.max] at w_tie0; omega
  have h1 : 0 ≤ tie1 ∧ tie1 < 4294967296 := by simp [Lit.wf, IntKind.wrap, IntKind.signed, IntKind.bits, IntKind.min, IntKind.max] at w_tie1; omega
  have h12 : tabA 12 = some x12 := rfl
  have h13 : tabA 13 = some x13 := rfl
  refine C_seq ?_
  refine C_region ?_
  refine O_box (z := [(.i .i64 made), (.i .i64 life), (.i .u32 tag), (.i .u32 peer), (.i .u32 first), (.i .u32 pf), (.i .u32 room), (.i .u16 out), (.i .u16 inn), (.i .u32 tie0), (.i .u32 tie1)]) rfl fun n1 H2 hN3 => ?_
  have hF4 := hN3.fr (fun _ => False)
  have hO5 := hO0.new hN3
  have hx_hO5 := hO5.next
  have hnm_n1 : n1 = H.next := hN3.1
  have hnx_H2 : H2.next = H.next + 1 := hN3.2.1
  have hlt_n1 : n1 < H2.next := by omega
  refine O_p (.b false) (r_mv rfl) ?_
  refine O_nil ?_
  refine C_seq ?_
  refine C_region ?_
  refine O_call (Ev.mono (awake_ev hO5.ok) fun v6 H7 hq8 => ?_)
  obtain ⟨rfl, hK9⟩ := hq8
  have hb10 := (hK9.keep _ (by omega)).trans hN3.2.2.1
  have hx_hK9 := hK9.next
  have hlt_n1 : n1 < H7.next := by omega
  have hO11 := hO5.trans hK9
  have hx_hO11 := hO11.next
  refine O_p (.b true) (r_mv rfl) ?_
  refine O_nil ?_
  refine C_seq ?_
  refine C_seq ?_
  refine C_region ?_
  refine O_p (.sl ka key.length kc 0) (r_mv rfl) ?_
  refine O_p (.i .i64 (((key.length : Nat)) : Int)) (r_len rfl) ?_
  refine O_p (.b (decide (300 < (((key.length : Nat)) : Int)))) (r_gtr rfl rfl) ?_
  refine O_nil ?_
  refine C_cond (x := (decide (300 < (((key.length : Nat)) : Int)))) rfl (fun hc12 => ?_) (fun hc12 => ?_)
  ·
    simp only [decide_eq_true_eq, decide_eq_false_iff_not, Bool.not_eq_true', Bool.not_eq_false', Bool.and_eq_true, Bool.or_eq_true, Bool.or_eq_false_iff, Bool.not_not] at hc12
    refine C_seq ?_
    refine C_region ?_
    refine O_p (.b true) (r_mv rfl) ?_
    refine O_p (.b true) (r_mv rfl) ?_
    refine O_nil ?_
    refine C_ret ?_
    refine nx_ret ?_
    exact ⟨.inr rfl, _, resL_one (r_tmp (v := .b true) rfl), rfl⟩
  ·
    simp only [decide_eq_true_eq, decide_eq_false_iff_not, Bool.not_eq_true', Bool.not_eq_false', Bool.and_eq_true, Bool.or_eq_true, Bool.or_eq_false_iff, Bool.not_not] at hc12
    refine C_skip ?_
    refine C_seq ?_
    refine C_region ?_
    refine O_p (.sl ka key.length kc 0) (r_mv rfl) ?_
    refine O_p (.agg [(.i .i64 made), (.i .i64 life), (.i .u32 tag), (.i .u32 peer), (.i .u32 first), (.i .u32 pf), (.i .u32 room), (.i .u16 out), (.i .u16 inn), (.i .u32 tie0), (.i .u32 tie1)]) (r_ldA rfl hb10 rfl) ?_
    refine O_call (Ev.mono (enc_f1 hO11.ok (.inl rfl) (khb.old hok hO11) (by first | omega | (simp only [List.length_take, List.length_drop, List.length_append, List.length_cons, List.length_nil, beN_len] <;> omega)) (by first | omega | (simp only [List.length_take, List.length_drop, List.length_append, List.length_cons, List.length_nil, beN_len] <;> omega)) made life tag peer first pf room out inn tie0 tie1 hk16 hS) fun v13 H14 hq15 => ?_)
    obtain ⟨o16, rfl, hM17, hK18⟩ := hq15
    have hb19 := (hK18.keep _ (by omega)).trans hb10
    have hx_hK18 := hK18.next
    have hlt_n1 : n1 < H14.next := by omega
    have hO20 := hO11.trans hK18
    have hx_hO20 := hO20.next
    have hM21 := hM17.down (N := H.next) (by omega)
    have hM22 : Mine H.next 1 H14 o16 (bcells ([] : List UInt8)) := hM21
    have hd23 : ¬ o16.nameOf n1 := fun hq => by have := hM17.new _ hq; omega
    refine O_p (.tup [o16, (.b false)]) (r_mv rfl) ?_
    refine O_p o16 (r_ext rfl rfl) ?_
    refine O_p (.b false) (r_ext rfl rfl) ?_
    refine O_p o16 (r_mv rfl) ?_
    refine O_p (.b false) (r_mv rfl) ?_
    refine O_nil ?_
    refine C_seq ?_
    refine C_region ?_
    refine O_p (.sl ka key.length kc 0) (r_mv rfl) ?_
    refine O_p (.agg [(.i .i64 made), (.i .i64 life), (.i .u32 tag), (.i .u32 peer), (.i .u32 first), (.i .u32 pf), (.i .u32 room), (.i .u16 out), (.i .u16 inn), (.i .u32 tie0), (.i .u32 tie1)]) (r_ldA rfl hb19 rfl) ?_
    refine O_call (Ev.mono (theirs_ev h12 hO20.ok made life tag peer first pf room out inn tie0 tie1 ht hp hf hpf hr ho hi h0 h1) fun v24 H25 hq26 => ?_)
    obtain ⟨rfl, hK27⟩ := hq26
    have hb28 := (hK27.keep _ (by omega)).trans hb19
    have hx_hK27 := hK27.next
    have hlt_n1 : n1 < H25.next := by omega
    have hM29 := hM22.kp hK27
    have hO30 := hO20.trans hK27
    have hx_hO30 := hO30.next
    refine O_call (Ev.mono (renc_f1 hO30.ok (.inl rfl) (khb.old hok hO30) (by first | omega | (simp only [List.length_take, List.length_drop, List.length_append, List.length_cons, List.length_nil, beN_len] <;> omega)) (by first | omega | (simp only [List.length_take, List.length_drop, List.length_append, List.length_cons, List.length_nil, beN_len] <;> omega)) made life tag peer first pf room out inn tie0 tie1 ht hp hf hpf hr ho hi h0 h1 hk16 hS) fun v31 H32 hq33 => ?_)
    obtain ⟨o34, rfl, hM35, hK36⟩ := hq33
    have hb37 := (hK36.keep _ (by omega)).trans hb28
    have hx_hK36 := hK36.next
    have hlt_n1 : n1 < H32.next := by omega
    have hM38 := hM29.kp hK36
    have hO39 := hO30.trans hK36
    have hx_hO39 := hO39.next
    have hM40 := hM35.down (N := H.next) (by omega)
    have hM41 : Mine H.next 1 H32 o34 (bcells ([] : List UInt8)) := hM40
    have hd42 : ¬ o34.nameOf n1 := fun hq => by have := hM35.new _ hq; omega
    refine O_p (.tup [o34, (.b false)]) (r_mv rfl) ?_
    refine O_p o34 (r_ext rfl rfl) ?_
    refine O_p (.b false) (r_ext rfl rfl) ?_
    refine O_p o34 (r_mv rfl) ?_
    refine O_p (.b false) (r_mv rfl) ?_
    refine O_nil ?_
    refine C_seq ?_
    refine C_region ?_
    refine O_p (.b true) (r_mv rfl) ?_
    refine O_p (.b true) (r_mv rfl) ?_
    refine O_gs (v := (.b false)) rfl (r_mv rfl) ?_
    refine O_gs (v := (.b false)) rfl (r_mv rfl) ?_
    refine O_gs (v := (.b true)) rfl (r_beqq rfl rfl) ?_
    refine O_p (.b true) (r_pick_t rfl rfl) ?_
    refine O_p (.b true) (r_mv rfl) ?_
    refine O_gs (v := o16) rfl (r_mv rfl) ?_
    refine O_gs (v := o34) rfl (r_mv rfl) ?_
    have hsf47 : Own 1 H32 o16 (bcells ([] : List UInt8)) := hM38.own
    obtain ⟨oa43, og44, rfl, hog45, hob46⟩ := hsf47.bs
    have base48 := Old.refl hO39.ok
    have hsf53 : Own 1 H32 o34 (bcells ([] : List UInt8)) := hM41.own
    obtain ⟨oa49, og50, rfl, hog51, hob52⟩ := hsf53.bs
    have base54 := Old.refl hO39.ok
    refine O_gcall rfl (Ev.mono (same_ev h13 hO39.ok hog45 (hM38.own.asbs) (by first | omega | (simp only [List.length_take, List.length_drop, List.length_append, List.length_cons, List.length_nil, beN_len] <;> omega)) (by first | omega | (simp only [List.length_take, List.length_drop, List.length_append, List.length_cons, List.length_nil, beN_len] <;> omega)) hog51 (hM41.own.asbs) (by first | omega | (simp only [List.length_take, List.length_drop, List.length_append, List.length_cons, List.length_nil, beN_len] <;> omega)) (by first | omega | (simp only [List.length_take, List.length_drop, List.length_append, List.length_cons, List.length_nil, beN_len] <;> omega))) fun v55 H56 hq57 => ?_)
    rw [show decide (([] : List UInt8) = ([] : List UInt8)) = true from decide_eq_true rfl] at hq57
    obtain ⟨rfl, hq57⟩ := hq57
    subst H56
    refine O_p (.b true) (r_pick_t rfl rfl) ?_
    refine O_p (.b true) (r_mv rfl) ?_
    refine O_nil ?_
    refine C_ret ?_
    exact ⟨.inr rfl, _, resL_one (r_tmp (v := .b true) rfl), rfl⟩
set_option maxRecDepth 100000 in
theorem run3f2 (H : AH) (hok : H.Ok) (ka : Option (Nat × Nat)) (kc : Nat) (key : List UInt8) (khb : Bs H (.sl ka key.length kc 0) key) (khc : key.length ≤ kc) (khm0 : kc ≤ maxLen) (made : Int) (w_made : (Lit.int .i64 made).wf = true) (life : Int) (w_life : (Lit.int .i64 life).wf = true) (tag : Int) (w_tag : (Lit.int .u32 tag).wf = true) (peer : Int) (w_peer : (Lit.int .u32 peer).wf = true) (first : Int) (w_first : (Lit.int .u32 first).wf = true) (pf : Int) (w_pf : (Lit.int .u32 pf).wf = true) (room : Int) (w_room : (Lit.int .u32 room).wf = true) (out : Int) (w_out : (Lit.int .u16 out).wf = true) (inn : Int) (w_inn : (Lit.int .u16 inn).wf = true) (tie0 : Int) (w_tie0 : (Lit.int .u32 tie0).wf = true) (tie1 : Int) (w_tie1 : (Lit.int .u32 tie1).wf = true) (hk16 : ¬ key.length = 16) : Ev tabA spA (.fn (.func 3) [] []) [.sl ka key.length kc 0, .agg [(.i .i64 made), (.i .i64 life), (.i .u32 tag), (.i .u32 peer), (.i .u32 first), (.i .u32 pf), (.i .u32 room), (.i .u16 out), (.i .u16 inn), (.i .u32 tie0), (.i .u32 tie1)]] H (fun v _ => v = .b true) := by
  refine Ev_C (F := x3) rfl ?_
  have hO0 := Old.refl hok
  have khm : kc ≤ 9223372036854775807 := khm0
  have hma : -9223372036854775808 ≤ made ∧ made < 9223372036854775808 := by simp [Lit.wf, IntKind.wrap, IntKind.signed, IntKind.bits, IntKind.min, IntKind.max] at w_made; omega
  have hli : -9223372036854775808 ≤ life ∧ life < 9223372036854775808 := by simp [Lit.wf, IntKind.wrap, IntKind.signed, IntKind.bits, IntKind.min, IntKind.max] at w_life; omega
  have ht : 0 ≤ tag ∧ tag < 4294967296 := by simp [Lit.wf, IntKind.wrap, IntKind.signed, IntKind.bits, IntKind.min, IntKind.max] at w_tag; omega
  have hp : 0 ≤ peer ∧ peer < 4294967296 := by simp [Lit.wf, IntKind.wrap, IntKind.signed, IntKind.bits, IntKind.min, IntKind.max] at w_peer; omega
  have hf : 0 ≤ first ∧ first < 4294967296 := by simp [Lit.wf, IntKind.wrap, IntKind.signed, IntKind.bits, IntKind.min, IntKind.max] at w_first; omega
  have hpf : 0 ≤ pf ∧ pf < 4294967296 := by simp [Lit.wf, IntKind.wrap, IntKind.signed, IntKind.bits, IntKind.min, IntKind.max] at w_pf; omega
  have hr : 0 ≤ room ∧ room < 4294967296 := by simp [Lit.wf, IntKind.wrap, IntKind.signed, IntKind.bits, IntKind.min, IntKind.max] at w_room; omega
  have ho : 0 ≤ out ∧ out < 65536 := by simp [Lit.wf, IntKind.wrap, IntKind.signed, IntKind.bits, IntKind.min, IntKind.max] at w_out; omega
  have hi : 0 ≤ inn ∧ inn < 65536 := by simp [Lit.wf, IntKind.wrap, IntKind.signed, IntKind.bits, IntKind.min, IntKind.max] at w_inn; omega
  have h0 : 0 ≤ tie0 ∧ tie0 < 4294967296 := by simp [Lit.wf, IntKind.wrap, IntKind.signed, IntKind.bits, IntKind.min, IntKind.max] at w_tie0; omega
  have h1 : 0 ≤ tie1 ∧ tie1 < 4294967296 := by simp [Lit.wf, IntKind.wrap, IntKind.signed, IntKind.bits, IntKind.min, IntKind.max] at w_tie1; omega
  have h12 : tabA 12 = some x12 := rfl
  have h13 : tabA 13 = some x13 := rfl
  refine C_seq ?_
  refine C_region ?_
  refine O_box (z := [(.i .i64 made), (.i .i64 life), (.i .u32 tag), (.i .u32 peer), (.i .u32 first), (.i .u32 pf), (.i .u32 room), (.i .u16 out), (.i .u16 inn), (.i .u32 tie0), (.i .u32 tie1)]) rfl fun n1 H2 hN3 => ?_
  have hF4 := hN3.fr (fun _ => False)
  have hO5 := hO0.new hN3
  have hx_hO5 := hO5.next
  have hnm_n1 : n1 = H.next := hN3.1
  have hnx_H2 : H2.next = H.next + 1 := hN3.2.1
  have hlt_n1 : n1 < H2.next := by omega
  refine O_p (.b false) (r_mv rfl) ?_
  refine O_nil ?_
  refine C_seq ?_
  refine C_region ?_
  refine O_call (Ev.mono (awake_ev hO5.ok) fun v6 H7 hq8 => ?_)
  obtain ⟨rfl, hK9⟩ := hq8
  have hb10 := (hK9.keep _ (by omega)).trans hN3.2.2.1
  have hx_hK9 := hK9.next
  have hlt_n1 : n1 < H7.next := by omega
  have hO11 := hO5.trans hK9
  have hx_hO11 := hO11.next
  refine O_p (.b true) (r_mv rfl) ?_
  refine O_nil ?_
  refine C_seq ?_
  refine C_seq ?_
  refine C_region ?_
  refine O_p (.sl ka key.length kc 0) (r_mv rfl) ?_
  refine O_p (.i .i64 (((key.length : Nat)) : Int)) (r_len rfl) ?_
  refine O_p (.b (decide (300 < (((key.length : Nat)) : Int)))) (r_gtr rfl rfl) ?_
  refine O_nil ?_
  refine C_cond (x := (decide (300 < (((key.length : Nat)) : Int)))) rfl (fun hc12 => ?_) (fun hc12 => ?_)
  ·
    simp only [decide_eq_true_eq, decide_eq_false_iff_not, Bool.not_eq_true', Bool.not_eq_false', Bool.and_eq_true, Bool.or_eq_true, Bool.or_eq_false_iff, Bool.not_not] at hc12
    refine C_seq ?_
    refine C_region ?_
    refine O_p (.b true) (r_mv rfl) ?_
    refine O_p (.b true) (r_mv rfl) ?_
    refine O_nil ?_
    refine C_ret ?_
    refine nx_ret ?_
    exact ⟨.inr rfl, _, resL_one (r_tmp (v := .b true) rfl), rfl⟩
  ·
    simp only [decide_eq_true_eq, decide_eq_false_iff_not, Bool.not_eq_true', Bool.not_eq_false', Bool.and_eq_true, Bool.or_eq_true, Bool.or_eq_false_iff, Bool.not_not] at hc12
    refine C_skip ?_
    refine C_seq ?_
    refine C_region ?_
    refine O_p (.sl ka key.length kc 0) (r_mv rfl) ?_
    refine O_p (.agg [(.i .i64 made), (.i .i64 life), (.i .u32 tag), (.i .u32 peer), (.i .u32 first), (.i .u32 pf), (.i .u32 room), (.i .u16 out), (.i .u16 inn), (.i .u32 tie0), (.i .u32 tie1)]) (r_ldA rfl hb10 rfl) ?_
    refine O_call (Ev.mono (enc_f2 hO11.ok (.inl rfl) (khb.old hok hO11) (by first | omega | (simp only [List.length_take, List.length_drop, List.length_append, List.length_cons, List.length_nil, beN_len] <;> omega)) (by first | omega | (simp only [List.length_take, List.length_drop, List.length_append, List.length_cons, List.length_nil, beN_len] <;> omega)) made life tag peer first pf room out inn tie0 tie1 hk16) fun v13 H14 hq15 => ?_)
    obtain ⟨o16, rfl, hM17, hK18⟩ := hq15
    have hb19 := (hK18.keep _ (by omega)).trans hb10
    have hx_hK18 := hK18.next
    have hlt_n1 : n1 < H14.next := by omega
    have hO20 := hO11.trans hK18
    have hx_hO20 := hO20.next
    have hM21 := hM17.down (N := H.next) (by omega)
    have hM22 : Mine H.next 1 H14 o16 (bcells ([] : List UInt8)) := hM21
    have hd23 : ¬ o16.nameOf n1 := fun hq => by have := hM17.new _ hq; omega
    refine O_p (.tup [o16, (.b false)]) (r_mv rfl) ?_
    refine O_p o16 (r_ext rfl rfl) ?_
    refine O_p (.b false) (r_ext rfl rfl) ?_
    refine O_p o16 (r_mv rfl) ?_
    refine O_p (.b false) (r_mv rfl) ?_
    refine O_nil ?_
    refine C_seq ?_
    refine C_region ?_
    refine O_p (.sl ka key.length kc 0) (r_mv rfl) ?_
    refine O_p (.agg [(.i .i64 made), (.i .i64 life), (.i .u32 tag), (.i .u32 peer), (.i .u32 first), (.i .u32 pf), (.i .u32 room), (.i .u16 out), (.i .u16 inn), (.i .u32 tie0), (.i .u32 tie1)]) (r_ldA rfl hb19 rfl) ?_
    refine O_call (Ev.mono (theirs_ev h12 hO20.ok made life tag peer first pf room out inn tie0 tie1 ht hp hf hpf hr ho hi h0 h1) fun v24 H25 hq26 => ?_)
    obtain ⟨rfl, hK27⟩ := hq26
    have hb28 := (hK27.keep _ (by omega)).trans hb19
    have hx_hK27 := hK27.next
    have hlt_n1 : n1 < H25.next := by omega
    have hM29 := hM22.kp hK27
    have hO30 := hO20.trans hK27
    have hx_hO30 := hO30.next
    refine O_call (Ev.mono (renc_f2 hO30.ok (.inl rfl) (khb.old hok hO30) (by first | omega | (simp only [List.length_take, List.length_drop, List.length_append, List.length_cons, List.length_nil, beN_len] <;> omega)) (by first | omega | (simp only [List.length_take, List.length_drop, List.length_append, List.length_cons, List.length_nil, beN_len] <;> omega)) made life tag peer first pf room out inn tie0 tie1 ht hp hf hpf hr ho hi h0 h1 hk16) fun v31 H32 hq33 => ?_)
    obtain ⟨o34, rfl, hM35, hK36⟩ := hq33
    have hb37 := (hK36.keep _ (by omega)).trans hb28
    have hx_hK36 := hK36.next
    have hlt_n1 : n1 < H32.next := by omega
    have hM38 := hM29.kp hK36
    have hO39 := hO30.trans hK36
    have hx_hO39 := hO39.next
    have hM40 := hM35.down (N := H.next) (by omega)
    have hM41 : Mine H.next 1 H32 o34 (bcells ([] : List UInt8)) := hM40
    have hd42 : ¬ o34.nameOf n1 := fun hq => by have := hM35.new _ hq; omega
    refine O_p (.tup [o34, (.b false)]) (r_mv rfl) ?_
    refine O_p o34 (r_ext rfl rfl) ?_
    refine O_p (.b false) (r_ext rfl rfl) ?_
    refine O_p o34 (r_mv rfl) ?_
    refine O_p (.b false) (r_mv rfl) ?_
    refine O_nil ?_
    refine C_seq ?_
    refine C_region ?_
    refine O_p (.b true) (r_mv rfl) ?_
    refine O_p (.b true) (r_mv rfl) ?_
    refine O_gs (v := (.b false)) rfl (r_mv rfl) ?_
    refine O_gs (v := (.b false)) rfl (r_mv rfl) ?_
    refine O_gs (v := (.b true)) rfl (r_beqq rfl rfl) ?_
    refine O_p (.b true) (r_pick_t rfl rfl) ?_
    refine O_p (.b true) (r_mv rfl) ?_
    refine O_gs (v := o16) rfl (r_mv rfl) ?_
    refine O_gs (v := o34) rfl (r_mv rfl) ?_
    have hsf47 : Own 1 H32 o16 (bcells ([] : List UInt8)) := hM38.own
    obtain ⟨oa43, og44, rfl, hog45, hob46⟩ := hsf47.bs
    have base48 := Old.refl hO39.ok
    have hsf53 : Own 1 H32 o34 (bcells ([] : List UInt8)) := hM41.own
    obtain ⟨oa49, og50, rfl, hog51, hob52⟩ := hsf53.bs
    have base54 := Old.refl hO39.ok
    refine O_gcall rfl (Ev.mono (same_ev h13 hO39.ok hog45 (hM38.own.asbs) (by first | omega | (simp only [List.length_take, List.length_drop, List.length_append, List.length_cons, List.length_nil, beN_len] <;> omega)) (by first | omega | (simp only [List.length_take, List.length_drop, List.length_append, List.length_cons, List.length_nil, beN_len] <;> omega)) hog51 (hM41.own.asbs) (by first | omega | (simp only [List.length_take, List.length_drop, List.length_append, List.length_cons, List.length_nil, beN_len] <;> omega)) (by first | omega | (simp only [List.length_take, List.length_drop, List.length_append, List.length_cons, List.length_nil, beN_len] <;> omega))) fun v55 H56 hq57 => ?_)
    rw [show decide (([] : List UInt8) = ([] : List UInt8)) = true from decide_eq_true rfl] at hq57
    obtain ⟨rfl, hq57⟩ := hq57
    subst H56
    refine O_p (.b true) (r_pick_t rfl rfl) ?_
    refine O_p (.b true) (r_mv rfl) ?_
    refine O_nil ?_
    refine C_ret ?_
    exact ⟨.inr rfl, _, resL_one (r_tmp (v := .b true) rfl), rfl⟩
theorem run3 (H : AH) (hok : H.Ok) (ka : Option (Nat × Nat)) (kc : Nat) (key : List UInt8) (khb : Bs H (.sl ka key.length kc 0) key) (khc : key.length ≤ kc) (khm0 : kc ≤ maxLen) (made : Int) (w_made : (Lit.int .i64 made).wf = true) (life : Int) (w_life : (Lit.int .i64 life).wf = true) (tag : Int) (w_tag : (Lit.int .u32 tag).wf = true) (peer : Int) (w_peer : (Lit.int .u32 peer).wf = true) (first : Int) (w_first : (Lit.int .u32 first).wf = true) (pf : Int) (w_pf : (Lit.int .u32 pf).wf = true) (room : Int) (w_room : (Lit.int .u32 room).wf = true) (out : Int) (w_out : (Lit.int .u16 out).wf = true) (inn : Int) (w_inn : (Lit.int .u16 inn).wf = true) (tie0 : Int) (w_tie0 : (Lit.int .u32 tie0).wf = true) (tie1 : Int) (w_tie1 : (Lit.int .u32 tie1).wf = true) : Ev tabA spA (.fn (.func 3) [] []) [.sl ka key.length kc 0, .agg [(.i .i64 made), (.i .i64 life), (.i .u32 tag), (.i .u32 peer), (.i .u32 first), (.i .u32 pf), (.i .u32 room), (.i .u16 out), (.i .u16 inn), (.i .u32 tie0), (.i .u32 tie1)]] H (fun v _ => v = .b true) := by
  by_cases hk : key.length = 16
  · cases hS : okS made life with
    | true => exact run3t H hok ka kc key khb khc khm0 made w_made life w_life tag w_tag peer w_peer first w_first pf w_pf room w_room out w_out inn w_inn tie0 w_tie0 tie1 w_tie1 hk hS
    | false => exact run3f1 H hok ka kc key khb khc khm0 made w_made life w_life tag w_tag peer w_peer first w_first pf w_pf room w_room out w_out inn w_inn tie0 w_tie0 tie1 w_tie1 hk hS
  · exact run3f2 H hok ka kc key khb khc khm0 made w_made life w_life tag w_tag peer w_peer first w_first pf w_pf room w_room out w_out inn w_inn tie0 w_tie0 tie1 w_tie1 hk
theorem array2 {P : Program} {H : AH} {k : Nat} {t e : TypeId} {x y : AV} (hu : P.underlying t = some (.array 2 e)) (hz : P.cellsOf e = 1) (h : Typed P H (k + 1) t [x, y]) : Typed P H k e [x] ∧ Typed P H k e [y] := by
  unfold Typed at h; rw [hu] at h
  obtain ⟨_, h⟩ := h
  have h0 := h 0 (by decide)
  have h1 := h 1 (by decide)
  rw [hz] at h0 h1
  exact ⟨h0, h1⟩
theorem law3 (W : World) (ρ : Rho) (H : AH) (xs : List AV) (args : Array Value) (hR : Rel Try.prog W.heap.size W ρ H W) (hro : RO H) (hv : VRL ρ xs args.toList) (ht : TypedVs Try.prog H 9 Try.f3.params.toList xs) :
    Calls Try.prog 3 args W fun e w' => e = .returned (.bool true) ∧ Below W.heap.size W w' := by
  rw [Try.params3] at ht
  obtain ⟨a1, xs, rfl, g1, a2, xs, rfl, g2, rfl⟩ := ht
  obtain ⟨ka, kn, kc, key, rfl, hb1, rfl, hc1, hm1⟩ := typed_bytes Try.underlying22 Try.underlying5 (by kernel_rfl) (typedV_slice Try.underlying22 g1)
  obtain ⟨l, rfl, g3⟩ := typedV_struct Try.underlying27 g2
  obtain ⟨hl, hq⟩ := struct_parts (qs := [(3, 0, 1), (3, 1, 1), (23, 2, 1), (23, 3, 1), (23, 4, 1), (23, 5, 1), (23, 6, 1), (24, 7, 1), (24, 8, 1), (25, 9, 2)]) Try.underlying27 g3 (by kernel_rfl)
  rw [show Try.prog.cellsOf 27 = 11 by kernel_rfl] at hl
  match l, hl with
  | [x0, x1, x2, x3, x4, x5, x6, x7, x8, x9, x10], _ =>
    simp only [List.forall_mem_cons, List.drop_zero, List.drop_succ_cons, List.take_succ_cons, List.take_zero] at hq
    obtain ⟨q0, q1, q2, q3, q4, q5, q6, q7, q8, q9, _⟩ := hq
    obtain ⟨made, e0, w_made⟩ := typed_int Try.underlying3 q0
    obtain ⟨life, e1, w_life⟩ := typed_int Try.underlying3 q1
    obtain ⟨tag, e2, w_tag⟩ := typed_int Try.underlying23 q2
    obtain ⟨peer, e3, w_peer⟩ := typed_int Try.underlying23 q3
    obtain ⟨first, e4, w_first⟩ := typed_int Try.underlying23 q4
    obtain ⟨pf, e5, w_pf⟩ := typed_int Try.underlying23 q5
    obtain ⟨room, e6, w_room⟩ := typed_int Try.underlying23 q6
    obtain ⟨out, e7, w_out⟩ := typed_int Try.underlying24 q7
    obtain ⟨inn, e8, w_inn⟩ := typed_int Try.underlying24 q8
    obtain ⟨q9, q10⟩ := array2 Try.underlying25 (by kernel_rfl) q9
    obtain ⟨tie0, e9, w_tie0⟩ := typed_int Try.underlying23 q9
    obtain ⟨tie1, e10, w_tie1⟩ := typed_int Try.underlying23 q10
    cases e0; cases e1; cases e2; cases e3; cases e4; cases e5; cases e6; cases e7; cases e8; cases e9; cases e10
    obtain ⟨k, v, H', hex, rfl⟩ := run3 H hR.aok ka kc key hb1 hc1 hm1 made w_made life w_life tag w_tag peer w_peer first w_first pf w_pf room w_room out w_out inn w_inn tie0 w_tie0 tie1 w_tie1
    exact law_of mixed tabA_ok spA_ok hex hR hv
end Go.Proofs.Yteapgimihapefaa.E
namespace Go.Proofs.Yteapgimihapefaa.cookieEncodes
open Go.ChangeShapes Go.WideShapes Go.RowKit
set_option linter.unusedVariables false
theorem own : ownKnob Try.prog.godebug = none := by kernel_rfl
theorem types : (Try.f3.params.toList.all fun t => E.fit Try.prog 9 t && (Try.prog.readableRec t && decide (t < Try.prog.types.size))) = true := by kernel_rfl
set_option maxRecDepth 100000 in
theorem lifted (os : Os) (started : os.Started) (H : Type) (enc : TypeId × Value → H) :
    ReturnsInHanded {} Try.checked os 3 .any (Rows.cookieEncodesSpec.pre6 enc Try.prog Try.f3 Rows.cookieEncodesRow.domain false) (Rows.cookieEncodesSpec.post enc Try.prog Try.f3 false true false false) :=
  E.law_lifted (C := Try.checked) (k := 9) (tb := 4) E.globals0 E.laid own started (by kernel_rfl) Try.func3
    (ChangeSpec.witness6 (enc := enc) (C := Try.checked) false ⟨#[], #[.slice none 0 0, .agg #[.int .i64 0, .int .i64 0, .int .u32 0, .int .u32 0, .int .u32 0, .int .u32 0, .int .u32 0, .int .u16 0, .int .u16 0, .int .u32 0, .int .u32 0]], []⟩ 8 (by kernel_rfl) (by kernel_rfl) (by kernel_rfl) (by kernel_rfl))
    rfl rfl Try.underlying4 (fun t ht => by have h := List.all_eq_true.1 types t ht; simp only [Bool.and_eq_true, decide_eq_true_eq] at h; exact h)
    (fun ds hd => by
      rw [Try.params3] at hd
      match ds, hd with
      | [d0, d1], _ => rfl) E.law3
theorem over : Rows.cookieEncodesRow.holds Try.pinned (OpenSpec.ofChange Rows.cookieEncodesSpec) :=
  OpenClaim.holds_of_wide 3 Try.f3 rfl rfl rfl rfl rfl rfl rfl ⟨rfl, rfl, rfl, rfl, rfl⟩ rfl rfl rfl rfl rfl (by kernel_rfl) Try.func3 (by kernel_rfl)
    (of_decide_eq_true (by kernel_rfl)) (by unfold Func.isWrapper; first | (rw [if_pos (by decide +kernel)]; kernel_rfl) | (rw [if_neg (by decide +kernel)]; exact ⟨rfl, rfl⟩))
    (fun os started H enc _ => lifted os started H enc)
end Go.Proofs.Yteapgimihapefaa.cookieEncodes
namespace Go.Proofs.Yteapgimihapefaa
/-- The row, under a short name, for the claim. -/
theorem cookieEncodes_holds : Rows.CookieEncodesSaid := cookieEncodes.over
#print axioms cookieEncodes_holds
end Go.Proofs.Yteapgimihapefaa
