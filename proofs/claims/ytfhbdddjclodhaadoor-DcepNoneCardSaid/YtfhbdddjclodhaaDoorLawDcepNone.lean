/- DcepNone, for every input, without conditions. -/
import Derived.Test.YtfhbdddjclodhaaDoorF
namespace Go.Proofs.YtfhbdddjclodhaaDoor.E
open Go.RowKit (Below)
open Go.Lib
set_option linter.unusedVariables false
set_option linter.unusedSimpArgs false
theorem at_nil {H : AH} (hok : H.Ok) (st : Int) : Ev tabV spV (.fn (.func 50) [] []) [.p none, .i .u16 st] H (fun r H' => r = .p none ∧ Kp H H') := by
  refine Ev_C (F := x50) rfl ?_
  have hO0 := Old.refl hok
  refine C_seq ?_
  refine C_region ?_
  refine O_p (.p none) (r_mv rfl) ?_
  refine O_nil ?_
  refine C_seq ?_
  refine C_seq ?_
  refine C_region ?_
  refine O_p (.p none) (r_mv rfl) ?_
  refine O_p (.b true) (r_nilq_n rfl) ?_
  refine O_p (.b true) (r_mv rfl) ?_
  refine O_gf rfl ?_
  refine O_gf rfl ?_
  refine O_gf rfl ?_
  refine O_gf rfl ?_
  refine O_gf rfl ?_
  refine O_gf rfl ?_
  refine O_gf rfl ?_
  refine O_gf rfl ?_
  refine O_p (.b true) (r_pick_t rfl rfl) ?_
  refine O_nil ?_
  refine C_cond (x := true) rfl (fun _ => ?_) (fun h => by cases h)
  refine C_seq ?_
  refine C_region ?_
  refine O_p (.p none) (r_mv rfl) ?_
  refine O_nil ?_
  refine C_ret ?_
  refine nx_ret ?_
  exact ⟨.inr rfl, _, resL_one (r_tmp (v := .p none) rfl), rfl, hO0⟩
theorem state_nil {H : AH} (hok : H.Ok) (st : Int) : Ev tabV spV (.fn (.func 29) [] []) [.p none, .i .u16 st] H (fun r H' => r = .i .i64 0 ∧ Kp H H') := by
  refine Ev_C (F := x29) rfl ?_
  have hO0 := Old.refl hok
  refine C_seq ?_
  refine C_region ?_
  refine O_p (.i .i64 0) (r_mv rfl) ?_
  refine O_nil ?_
  refine C_seq ?_
  refine C_seq ?_
  refine C_region ?_
  refine O_p (.p none) (r_mv rfl) ?_
  refine O_p (.i .u16 st) (r_mv rfl) ?_
  refine O_call (Ev.mono (at_nil hO0.ok st) fun v1 H2 hq3 => ?_)
  obtain ⟨rfl, hK4⟩ := hq3
  have hx_hK4 := hK4.next
  have hO5 := hO0.trans hK4
  have hx_hO5 := hO5.next
  refine O_p (.p none) (r_mv rfl) ?_
  refine O_nil ?_
  refine C_seq ?_
  refine C_region ?_
  refine O_p (.p none) (r_mv rfl) ?_
  refine O_p (.b false) (r_nilq_n rfl) ?_
  refine O_nil ?_
  refine C_cond (x := false) rfl (fun h => by cases h) (fun _ => ?_)
  refine C_skip ?_
  refine C_seq ?_
  refine C_region ?_
  refine O_p (.i .i64 0) (r_mv rfl) ?_
  refine O_nil ?_
  refine C_ret ?_
  exact ⟨.inr rfl, _, resL_one (r_tmp (v := .i .i64 0) rfl), rfl, hO5⟩
theorem close_nil {H : AH} (hok : H.Ok) (st : Int) : Ev tabV spV (.fn (.func 24) [] []) [.p none, .i .u16 st] H (fun r H' => r = .i .i64 11 ∧ Kp H H') := by
  refine Ev_C (F := x24) rfl ?_
  have hO0 := Old.refl hok
  refine C_seq ?_
  refine C_region ?_
  refine O_p (.i .i64 0) (r_mv rfl) ?_
  refine O_nil ?_
  refine C_seq ?_
  refine C_region ?_
  refine O_p (.p none) (r_mv rfl) ?_
  refine O_p (.i .u16 st) (r_mv rfl) ?_
  refine O_call (Ev.mono (at_nil hO0.ok st) fun v1 H2 hq3 => ?_)
  obtain ⟨rfl, hK4⟩ := hq3
  have hx_hK4 := hK4.next
  have hO5 := hO0.trans hK4
  have hx_hO5 := hO5.next
  refine O_p (.p none) (r_mv rfl) ?_
  refine O_nil ?_
  refine C_seq ?_
  refine C_seq ?_
  refine C_region ?_
  refine O_p (.p none) (r_mv rfl) ?_
  refine O_p (.b true) (r_nilq_n rfl) ?_
  refine O_p (.b true) (r_mv rfl) ?_
  refine O_gf rfl ?_
  refine O_gf rfl ?_
  refine O_gf rfl ?_
  refine O_p (.b true) (r_pick_t rfl rfl) ?_
  refine O_nil ?_
  refine C_cond (x := true) rfl (fun _ => ?_) (fun h => by cases h)
  refine C_seq ?_
  refine C_region ?_
  refine O_p (.i .i64 11) (r_mv rfl) ?_
  refine O_nil ?_
  refine C_ret ?_
  refine nx_ret ?_
  exact ⟨.inr rfl, _, resL_one (r_tmp (v := .i .i64 11) rfl), rfl, hO5⟩
theorem gone_nil {H : AH} (hok : H.Ok) (st : Int) : Ev tabV spV (.fn (.func 26) [] []) [.p none, .i .u16 st] H (fun r H' => r = .b false ∧ Kp H H') := by
  refine Ev_C (F := x26) rfl ?_
  have hO0 := Old.refl hok
  refine C_seq ?_
  refine C_region ?_
  refine O_p (.b false) (r_mv rfl) ?_
  refine O_nil ?_
  refine C_seq ?_
  refine C_region ?_
  refine O_p (.p none) (r_mv rfl) ?_
  refine O_p (.i .u16 st) (r_mv rfl) ?_
  refine O_call (Ev.mono (at_nil hO0.ok st) fun v1 H2 hq3 => ?_)
  obtain ⟨rfl, hK4⟩ := hq3
  have hx_hK4 := hK4.next
  have hO5 := hO0.trans hK4
  have hx_hO5 := hO5.next
  refine O_p (.p none) (r_mv rfl) ?_
  refine O_nil ?_
  refine C_seq ?_
  refine C_seq ?_
  refine C_region ?_
  refine O_p (.p none) (r_mv rfl) ?_
  refine O_p (.b true) (r_nilq_n rfl) ?_
  refine O_p (.b true) (r_mv rfl) ?_
  refine O_gf rfl ?_
  refine O_gf rfl ?_
  refine O_gf rfl ?_
  refine O_gf rfl ?_
  refine O_gf rfl ?_
  refine O_p (.b true) (r_pick_t rfl rfl) ?_
  refine O_nil ?_
  refine C_cond (x := true) rfl (fun _ => ?_) (fun h => by cases h)
  refine C_seq ?_
  refine C_region ?_
  refine O_p (.b false) (r_mv rfl) ?_
  refine O_nil ?_
  refine C_ret ?_
  refine nx_ret ?_
  exact ⟨.inr rfl, _, resL_one (r_tmp (v := .b false) rfl), rfl, hO5⟩
theorem freed_nil {H : AH} (hok : H.Ok) (st : Int) : Ev tabV spV (.fn (.func 25) [] []) [.p none, .i .u16 st] H (fun r H' => r = .tup [] ∧ Kp H H') := by
  refine Ev_C (F := x25) rfl ?_
  have hO0 := Old.refl hok
  refine C_seq ?_
  refine C_region ?_
  refine O_p (.p none) (r_mv rfl) ?_
  refine O_p (.i .u16 st) (r_mv rfl) ?_
  refine O_call (Ev.mono (at_nil hO0.ok st) fun v1 H2 hq3 => ?_)
  obtain ⟨rfl, hK4⟩ := hq3
  have hx_hK4 := hK4.next
  have hO5 := hO0.trans hK4
  have hx_hO5 := hO5.next
  refine O_p (.p none) (r_mv rfl) ?_
  refine O_nil ?_
  refine C_seq ?_
  refine C_region ?_
  refine O_p (.p none) (r_mv rfl) ?_
  refine O_p (.b false) (r_nilq_n rfl) ?_
  refine O_p (.b false) (r_mv rfl) ?_
  refine O_gf rfl ?_
  refine O_gf rfl ?_
  refine O_gf rfl ?_
  refine O_gf rfl ?_
  refine O_gf rfl ?_
  refine O_p (.b false) (r_pick_f rfl rfl) ?_
  refine O_nil ?_
  refine C_cond (x := false) rfl (fun h => by cases h) (fun _ => ?_)
  refine C_skip ?_
  exact ⟨.inl rfl, _, rfl, rfl, hO5⟩
theorem opening_nil {H : AH} (hok : H.Ok) (st : Int) : Ev tabV spV (.fn (.func 27) [] []) [.p none, .i .u16 st] H (fun r H' => r = .agg [.i .u8 0, .i .u16 0, .i .u32 0, .s ⟨#[]⟩, .s ⟨#[]⟩] ∧ Kp H H') := by
  refine Ev_C (F := x27) rfl ?_
  have hO0 := Old.refl hok
  refine C_seq ?_
  refine C_region ?_
  refine O_alloc fun n1 H2 hN3 => ?_
  have hF4 := hN3.fr (fun _ => False)
  have hO5 := hO0.new hN3
  have hx_hO5 := hO5.next
  have hnm_n1 : n1 = H.next := hN3.1
  have hnx_H2 : H2.next = H.next + 1 := hN3.2.1
  have hlt_n1 : n1 < H2.next := by omega
  refine O_nil ?_
  refine C_seq ?_
  refine C_seq ?_
  refine C_region ?_
  refine O_p (.p none) (r_mv rfl) ?_
  refine O_p (.i .u16 st) (r_mv rfl) ?_
  refine O_call (Ev.mono (at_nil hO5.ok st) fun v6 H7 hq8 => ?_)
  obtain ⟨rfl, hK9⟩ := hq8
  have hb10 := (hK9.keep _ (by omega)).trans hN3.2.2.1
  have hx_hK9 := hK9.next
  have hlt_n1 : n1 < H7.next := by omega
  have hO11 := hO5.trans hK9
  have hx_hO11 := hO11.next
  refine O_p (.p none) (r_mv rfl) ?_
  refine O_nil ?_
  refine C_seq ?_
  refine C_region ?_
  refine O_p (.p none) (r_mv rfl) ?_
  refine O_p (.b false) (r_nilq_n rfl) ?_
  refine O_nil ?_
  refine C_cond (x := false) rfl (fun h => by cases h) (fun _ => ?_)
  refine C_skip ?_
  refine C_seq ?_
  refine C_region ?_
  refine O_p (.agg [(.i .u8 0), (.i .u16 0), (.i .u32 0), (.s ⟨#[]⟩), (.s ⟨#[]⟩)]) (r_build rfl) ?_
  refine O_store (vs := [(.i .u8 0), (.i .u16 0), (.i .u32 0), (.s ⟨#[]⟩), (.s ⟨#[]⟩)]) (c' := [(.i .u8 0), (.i .u16 0), (.i .u32 0), (.s ⟨#[]⟩), (.s ⟨#[]⟩)]) rfl (by rfl) hb10 rfl (List.cons_ne_nil _ _) (Nat.le_of_ble_eq_true rfl) rfl fun H12 hW13 => ?_
  have hO14 := hO11.wr hW13 (by omega) (by omega)
  have hx_hO14 := hO14.next
  have hnx_H12 : H12.next = H7.next := hW13.1
  have hlt_n1 : n1 < H12.next := by omega
  refine O_nil ?_
  refine C_ret ?_
  exact ⟨.inr rfl, _, resL_one (r_cellA rfl hW13.2.1 rfl), rfl, hO14⟩
theorem find_nil {H : AH} (hok : H.Ok) (l : List UInt8) : Ev tabV spV (.fn (.func 33) [] []) [.p none, .s (txt l)] H (fun r H' => r = .tup [.i .u16 0, .b false] ∧ Kp H H') := by
  refine Ev_C (F := x33) rfl ?_
  have hO0 := Old.refl hok
  refine C_seq ?_
  refine C_region ?_
  refine O_box (z := [(.s (txt l))]) rfl fun n1 H2 hN3 => ?_
  have hF4 := hN3.fr (fun _ => False)
  have hO5 := hO0.new hN3
  have hx_hO5 := hO5.next
  have hnm_n1 : n1 = H.next := hN3.1
  have hnx_H2 : H2.next = H.next + 1 := hN3.2.1
  have hlt_n1 : n1 < H2.next := by omega
  refine O_p (.i .u16 0) (r_mv rfl) ?_
  refine O_p (.b false) (r_mv rfl) ?_
  refine O_nil ?_
  refine C_seq ?_
  refine C_seq ?_
  refine C_region ?_
  refine O_p (.p none) (r_mv rfl) ?_
  refine O_p (.b true) (r_nilq_n rfl) ?_
  refine O_nil ?_
  refine C_cond (x := true) rfl (fun _ => ?_) (fun h => by cases h)
  refine C_seq ?_
  refine C_region ?_
  refine O_p (.i .u16 0) (r_mv rfl) ?_
  refine O_p (.b false) (r_mv rfl) ?_
  refine O_nil ?_
  refine C_ret ?_
  refine nx_ret ?_
  exact ⟨.inr rfl, _, resL_cons (r_tmp (v := .i .u16 0) rfl) (resL_one (r_tmp (v := .b false) rfl)), rfl, hO5⟩
theorem ask_nil {H : AH} (hok : H.Ok) (kind prio limit : Int) (label proto : List UInt8) : Ev tabV spV (.fn (.func 23) [] []) [.p none, .agg [(.i .u8 kind), (.i .u16 prio), (.i .u32 limit), (.s (txt label)), (.s (txt proto))]] H (fun r H' => r = .tup [.i .u16 0, .sl none 0 0 0, .i .i64 1] ∧ Kp H H') := by
  refine Ev_C (F := x23) rfl ?_
  have hO0 := Old.refl hok
  refine C_seq ?_
  refine C_region ?_
  refine O_box (z := [(.i .u8 kind), (.i .u16 prio), (.i .u32 limit), (.s (txt label)), (.s (txt proto))]) rfl fun n1 H2 hN3 => ?_
  have hF4 := hN3.fr (fun _ => False)
  have hO5 := hO0.new hN3
  have hx_hO5 := hO5.next
  have hnm_n1 : n1 = H.next := hN3.1
  have hnx_H2 : H2.next = H.next + 1 := hN3.2.1
  have hlt_n1 : n1 < H2.next := by omega
  refine O_p (.i .u16 0) (r_mv rfl) ?_
  refine O_p (.sl none 0 0 0) (r_mv rfl) ?_
  refine O_p (.i .i64 0) (r_mv rfl) ?_
  refine O_nil ?_
  refine C_seq ?_
  refine C_seq ?_
  refine C_region ?_
  refine O_p (.p none) (r_mv rfl) ?_
  refine O_p (.b true) (r_nilq_n rfl) ?_
  refine O_nil ?_
  refine C_cond (x := true) rfl (fun _ => ?_) (fun h => by cases h)
  refine C_seq ?_
  refine C_region ?_
  refine O_p (.i .u16 0) (r_mv rfl) ?_
  refine O_p (.sl none 0 0 0) (r_mv rfl) ?_
  refine O_p (.i .i64 1) (r_mv rfl) ?_
  refine O_nil ?_
  refine C_ret ?_
  refine nx_ret ?_
  exact ⟨.inr rfl, _, resL_cons (r_tmp (v := .i .u16 0) rfl) (resL_cons (r_tmp (v := .sl none 0 0 0) rfl) (resL_one (r_tmp (v := .i .i64 1) rfl))), rfl, hO5⟩
theorem hear_nil {H : AH} (hok : H.Ok) (st pp : Int) (un : Bool) (da : Option (Nat × Nat)) (dn dc : Nat) : Ev tabV spV (.fn (.func 35) [] []) [.p none, .agg [(.i .u16 st), (.b un), (.i .u32 pp), (.sl da dn dc 0)]] H (fun r H' => r = .tup [.agg [.i .i64 0, .i .u16 0, .i .u8 0, .i .u16 0, .i .u32 0, .s ⟨#[]⟩, .s ⟨#[]⟩, .b false, .sl none 0 0 0], .sl none 0 0 0, .i .i64 1] ∧ Kp H H') := by
  refine Ev_C (F := x35) rfl ?_
  have hO0 := Old.refl hok
  refine C_seq ?_
  refine C_region ?_
  refine O_box (z := [(.i .u16 st), (.b un), (.i .u32 pp), (.sl da dn dc 0)]) rfl fun n1 H2 hN3 => ?_
  have hF4 := hN3.fr (fun _ => False)
  have hO5 := hO0.new hN3
  have hx_hO5 := hO5.next
  have hnm_n1 : n1 = H.next := hN3.1
  have hnx_H2 : H2.next = H.next + 1 := hN3.2.1
  have hlt_n1 : n1 < H2.next := by omega
  refine O_alloc fun n6 H7 hN8 => ?_
  have hF9 := hN8.fr (fun _ => False)
  have hb10 := (hF9.keep _ (by exact hlt_n1) (fun h => h)).trans hN3.2.2.1
  have hO11 := hO5.new hN8
  have hx_hO11 := hO11.next
  have hnm_n6 : n6 = H2.next := hN8.1
  have hnx_H7 : H7.next = H2.next + 1 := hN8.2.1
  have hlt_n1 : n1 < H7.next := by omega
  have hlt_n6 : n6 < H7.next := by omega
  refine O_p (.sl none 0 0 0) (r_mv rfl) ?_
  refine O_p (.i .i64 0) (r_mv rfl) ?_
  refine O_nil ?_
  refine C_seq ?_
  refine C_region ?_
  refine O_p (.p none) (r_mv rfl) ?_
  refine O_p (.p (some (n1, 0))) (r_fadd' rfl rfl) ?_
  refine O_p (.i .u16 st) (r_ld rfl hb10 rfl) ?_
  refine O_call (Ev.mono (at_nil hO11.ok st) fun v12 H13 hq14 => ?_)
  obtain ⟨rfl, hK15⟩ := hq14
  have hb16 := (hK15.keep _ (by omega)).trans hb10
  have hb17 := (hK15.keep _ (by omega)).trans hN8.2.2.1
  have hx_hK15 := hK15.next
  have hlt_n1 : n1 < H13.next := by omega
  have hlt_n6 : n6 < H13.next := by omega
  have hO18 := hO11.trans hK15
  have hx_hO18 := hO18.next
  refine O_p (.p none) (r_mv rfl) ?_
  refine O_nil ?_
  refine C_seq ?_
  refine C_block ?_
  refine C_seq ?_
  refine C_region ?_
  refine O_p (.p none) (r_mv rfl) ?_
  refine O_p (.b true) (r_nilq_n rfl) ?_
  refine O_p (.b true) (r_mv rfl) ?_
  refine O_nil ?_
  refine C_cond (x := true) rfl (fun _ => ?_) (fun h => by cases h)
  refine C_seq ?_
  refine C_region ?_
  refine O_p (.agg [(.i .i64 0), (.i .u16 0), (.i .u8 0), (.i .u16 0), (.i .u32 0), (.s ⟨#[]⟩), (.s ⟨#[]⟩), (.b false), (.sl none 0 0 0)]) (r_build rfl) ?_
  refine O_store (vs := [(.i .i64 0), (.i .u16 0), (.i .u8 0), (.i .u16 0), (.i .u32 0), (.s ⟨#[]⟩), (.s ⟨#[]⟩), (.b false), (.sl none 0 0 0)]) (c' := [(.i .i64 0), (.i .u16 0), (.i .u8 0), (.i .u16 0), (.i .u32 0), (.s ⟨#[]⟩), (.s ⟨#[]⟩), (.b false), (.sl none 0 0 0)]) rfl (by rfl) hb17 rfl (List.cons_ne_nil _ _) (Nat.le_of_ble_eq_true rfl) rfl fun H19 hW20 => ?_
  have hb21 := (hW20.2.2 _ (by omega)).trans hb16
  have hO22 := hO18.wr hW20 (by omega) (by omega)
  have hx_hO22 := hO22.next
  have hnx_H19 : H19.next = H13.next := hW20.1
  have hlt_n1 : n1 < H19.next := by omega
  have hlt_n6 : n6 < H19.next := by omega
  refine O_p (.sl none 0 0 0) (r_mv rfl) ?_
  refine O_p (.i .i64 1) (r_mv rfl) ?_
  refine O_nil ?_
  refine C_ret ?_
  refine bk_ret ?_
  refine nx_ret ?_
  exact ⟨.inr rfl, _, resL_cons (r_cellA rfl hW20.2.1 rfl) (resL_cons (r_tmp (v := .sl none 0 0 0) rfl) (resL_one (r_tmp (v := .i .i64 1) rfl))), rfl, hO22⟩
set_option maxRecDepth 100000 in
set_option maxHeartbeats 1000000 in
theorem run10 (H : AH) (hok : H.Ok) (htb : Tb H) (kind prio limit : Int) (label proto : List UInt8) (hk : 0 ≤ kind ∧ kind < 256) (hp : 0 ≤ prio ∧ prio < 65536) (hl : 0 ≤ limit ∧ limit < 4294967296) (hll : label.length ≤ maxLen) (hpl : proto.length ≤ maxLen) (st pp : Int) (un : Bool) (da : Option (Nat × Nat)) (dn dc : Nat) : Ev tabV spV (.fn (.func 10) [] []) [.agg [(.i .u8 kind), (.i .u16 prio), (.i .u32 limit), (.s (txt label)), (.s (txt proto))], .agg [(.i .u16 st), (.b un), (.i .u32 pp), (.sl da dn dc 0)]] H (fun v _ => v = .b true) := by
  refine Ev_C (F := x10) rfl ?_
  have hO0 := Old.refl hok
  have hll' := hll
  have hpl' := hpl
  have hMx : maxLen ≤ 9223372036854775807 := by decide
  replace hll := Nat.le_trans hll hMx
  replace hpl := Nat.le_trans hpl hMx
  have hel := encR_len kind prio limit label proto
  refine C_seq ?_
  refine C_region ?_
  refine O_box (z := [(.i .u8 kind), (.i .u16 prio), (.i .u32 limit), (.s (txt label)), (.s (txt proto))]) rfl fun n1 H2 hN3 => ?_
  have hF4 := hN3.fr (fun _ => False)
  have hO5 := hO0.new hN3
  have hx_hO5 := hO5.next
  have hnm_n1 : n1 = H.next := hN3.1
  have hnx_H2 : H2.next = H.next + 1 := hN3.2.1
  have hlt_n1 : n1 < H2.next := by omega
  refine O_box (z := [(.i .u16 st), (.b un), (.i .u32 pp), (.sl da dn dc 0)]) rfl fun n6 H7 hN8 => ?_
  have hF9 := hN8.fr (fun _ => False)
  have hb10 := (hF9.keep _ (by exact hlt_n1) (fun h => h)).trans hN3.2.2.1
  have hO11 := hO5.new hN8
  have hx_hO11 := hO11.next
  have hnm_n6 : n6 = H2.next := hN8.1
  have hnx_H7 : H7.next = H2.next + 1 := hN8.2.1
  have hlt_n1 : n1 < H7.next := by omega
  have hlt_n6 : n6 < H7.next := by omega
  refine O_p (.b false) (r_mv rfl) ?_
  refine O_nil ?_
  refine C_seq ?_
  refine C_region ?_
  refine O_call (Ev.mono (awake_ev (htb.kp hok hO11)) fun v12 H13 hq14 => ?_)
  obtain ⟨rfl, hq14⟩ := hq14
  subst H13
  refine O_p (.b true) (r_mv rfl) ?_
  refine O_nil ?_
  refine C_seq ?_
  refine C_seq ?_
  refine C_region ?_
  refine O_p (.p (some (n1, 3))) (r_fadd' rfl rfl) ?_
  refine O_p (.s (txt label)) (r_ld rfl hb10 rfl) ?_
  refine O_p (.i .i64 ((((label).length : Nat)) : Int)) (r_lent (l := label) rfl) ?_
  refine O_p (.b (decide (1000 < ((((label).length : Nat)) : Int)))) (r_gtr rfl rfl) ?_
  refine O_p (.b (decide (1000 < ((((label).length : Nat)) : Int)))) (r_mv rfl) ?_
  refine O_gx (e := (!(decide (1000 < ((((label).length : Nat)) : Int))))) (v := (.p (some (n1, 4)))) (wf rfl) (fun he => (r_fadd' rfl rfl)) ?_
  refine O_gx (e := (!(decide (1000 < ((((label).length : Nat)) : Int))))) (v := (.s (txt proto))) (wf rfl) (fun he => (r_ld (cond_pos he) hb10 rfl)) ?_
  refine O_gx (e := (!(decide (1000 < ((((label).length : Nat)) : Int))))) (v := (.i .i64 ((((proto).length : Nat)) : Int))) (wf rfl) (fun he => (r_lent (l := proto) (cond_pos he))) ?_
  refine O_gx (e := (!(decide (1000 < ((((label).length : Nat)) : Int))))) (v := (.b (decide (1000 < ((((proto).length : Nat)) : Int))))) (wf rfl) (fun he => (r_gtr (cond_pos he) rfl)) ?_
  refine O_p (.b ((decide (1000 < ((((label).length : Nat)) : Int))) || (decide (1000 < ((((proto).length : Nat)) : Int))))) (r_pick_or rfl rfl rfl rfl) ?_
  refine O_p (.b ((decide (1000 < ((((label).length : Nat)) : Int))) || (decide (1000 < ((((proto).length : Nat)) : Int))))) (r_mv rfl) ?_
  refine O_gx (e := (!((decide (1000 < ((((label).length : Nat)) : Int))) || (decide (1000 < ((((proto).length : Nat)) : Int)))))) (v := (.p (some (n6, 3)))) (wf rfl) (fun he => (r_fadd' rfl rfl)) ?_
  refine O_gx (e := (!((decide (1000 < ((((label).length : Nat)) : Int))) || (decide (1000 < ((((proto).length : Nat)) : Int)))))) (v := (.sl da dn dc 0)) (wf rfl) (fun he => (r_ld (cond_pos he) hN8.2.2.1 rfl)) ?_
  refine O_gx (e := (!((decide (1000 < ((((label).length : Nat)) : Int))) || (decide (1000 < ((((proto).length : Nat)) : Int)))))) (v := (.i .i64 (((dn : Nat)) : Int))) (wf rfl) (fun he => (r_len (cond_pos he))) ?_
  refine O_gx (e := (!((decide (1000 < ((((label).length : Nat)) : Int))) || (decide (1000 < ((((proto).length : Nat)) : Int)))))) (v := (.b (decide (1000 < (((dn : Nat)) : Int))))) (wf rfl) (fun he => (r_gtr (cond_pos he) rfl)) ?_
  refine O_p (.b (((decide (1000 < ((((label).length : Nat)) : Int))) || (decide (1000 < ((((proto).length : Nat)) : Int)))) || (decide (1000 < (((dn : Nat)) : Int))))) (r_pick_or rfl rfl rfl rfl) ?_
  refine O_nil ?_
  refine C_cond (x := (((decide (1000 < ((((label).length : Nat)) : Int))) || (decide (1000 < ((((proto).length : Nat)) : Int)))) || (decide (1000 < (((dn : Nat)) : Int))))) rfl (fun hc15 => ?_) (fun hc15 => ?_)
  ·
    simp only [decide_eq_true_eq, decide_eq_false_iff_not, Bool.not_eq_true', Bool.not_eq_false', Bool.and_eq_true, Bool.or_eq_true, Bool.or_eq_false_iff, Bool.not_not] at hc15
    refine C_seq ?_
    refine C_region ?_
    refine O_p (.b true) (r_mv rfl) ?_
    refine O_p (.b true) (r_mv rfl) ?_
    refine O_nil ?_
    refine C_ret ?_
    refine nx_ret ?_
    exact ⟨.inr rfl, _, resL_one (r_tmp (v := .b true) rfl), rfl⟩
  ·
    simp only [decide_eq_true_eq, decide_eq_false_iff_not, Bool.not_eq_true', Bool.not_eq_false', Bool.and_eq_true, Bool.or_eq_true, Bool.or_eq_false_iff, Bool.not_not] at hc15
    refine C_skip ?_
    refine C_seq ?_
    refine C_region ?_
    refine O_p (.p none) (r_mv rfl) ?_
    refine O_nil ?_
    refine C_seq ?_
    refine C_region ?_
    refine O_p (.p none) (r_mv rfl) ?_
    refine O_p (.agg [(.i .u8 kind), (.i .u16 prio), (.i .u32 limit), (.s (txt label)), (.s (txt proto))]) (r_ldA rfl hb10 rfl) ?_
    refine O_call (Ev.mono (ask_nil hO11.ok kind prio limit label proto) fun v16 H17 hq18 => ?_)
    obtain ⟨rfl, hK19⟩ := hq18
    have hb20 := (hK19.keep _ (by omega)).trans hb10
    have hb21 := (hK19.keep _ (by omega)).trans hN8.2.2.1
    have hx_hK19 := hK19.next
    have hlt_n1 : n1 < H17.next := by omega
    have hlt_n6 : n6 < H17.next := by omega
    have hO22 := hO11.trans hK19
    have hx_hO22 := hO22.next
    refine O_p (.tup [(.i .u16 0), (.sl none 0 0 0), (.i .i64 1)]) (r_mv rfl) ?_
    refine O_p (.i .u16 0) (r_ext rfl rfl) ?_
    refine O_p (.sl none 0 0 0) (r_ext rfl rfl) ?_
    refine O_p (.i .i64 1) (r_ext rfl rfl) ?_
    refine O_p (.i .u16 0) (r_mv rfl) ?_
    refine O_p (.sl none 0 0 0) (r_mv rfl) ?_
    refine O_p (.i .i64 1) (r_mv rfl) ?_
    refine O_nil ?_
    refine C_seq ?_
    refine C_region ?_
    refine O_p (.p none) (r_mv rfl) ?_
    refine O_p (.agg [(.i .u16 st), (.b un), (.i .u32 pp), (.sl da dn dc 0)]) (r_ldA rfl hb21 rfl) ?_
    refine O_call (Ev.mono (hear_nil hO22.ok st pp un da dn dc) fun v23 H24 hq25 => ?_)
    obtain ⟨rfl, hK26⟩ := hq25
    have hb27 := (hK26.keep _ (by omega)).trans hb20
    have hb28 := (hK26.keep _ (by omega)).trans hb21
    have hx_hK26 := hK26.next
    have hlt_n1 : n1 < H24.next := by omega
    have hlt_n6 : n6 < H24.next := by omega
    have hO29 := hO22.trans hK26
    have hx_hO29 := hO29.next
    refine O_p (.tup [(.agg [(.i .i64 0), (.i .u16 0), (.i .u8 0), (.i .u16 0), (.i .u32 0), (.s ⟨#[]⟩), (.s ⟨#[]⟩), (.b false), (.sl none 0 0 0)]), (.sl none 0 0 0), (.i .i64 1)]) (r_mv rfl) ?_
    refine O_p (.agg [(.i .i64 0), (.i .u16 0), (.i .u8 0), (.i .u16 0), (.i .u32 0), (.s ⟨#[]⟩), (.s ⟨#[]⟩), (.b false), (.sl none 0 0 0)]) (r_ext rfl rfl) ?_
    refine O_p (.sl none 0 0 0) (r_ext rfl rfl) ?_
    refine O_p (.i .i64 1) (r_ext rfl rfl) ?_
    refine O_alloc fun n30 H31 hN32 => ?_
    have hF33 := hN32.fr (fun _ => False)
    have hb34 := (hF33.keep _ (by exact hlt_n1) (fun h => h)).trans hb27
    have hb35 := (hF33.keep _ (by exact hlt_n6) (fun h => h)).trans hb28
    have hO36 := hO29.new hN32
    have hx_hO36 := hO36.next
    have hnm_n30 : n30 = H24.next := hN32.1
    have hnx_H31 : H31.next = H24.next + 1 := hN32.2.1
    have hlt_n1 : n1 < H31.next := by omega
    have hlt_n6 : n6 < H31.next := by omega
    have hlt_n30 : n30 < H31.next := by omega
    refine O_store (vs := [(.i .i64 0), (.i .u16 0), (.i .u8 0), (.i .u16 0), (.i .u32 0), (.s ⟨#[]⟩), (.s ⟨#[]⟩), (.b false), (.sl none 0 0 0)]) (c' := [(.i .i64 0), (.i .u16 0), (.i .u8 0), (.i .u16 0), (.i .u32 0), (.s ⟨#[]⟩), (.s ⟨#[]⟩), (.b false), (.sl none 0 0 0)]) rfl (by rfl) hN32.2.2.1 rfl (List.cons_ne_nil _ _) (Nat.le_of_ble_eq_true rfl) rfl fun H37 hW38 => ?_
    have hb39 := (hW38.2.2 _ (by omega)).trans hb34
    have hb40 := (hW38.2.2 _ (by omega)).trans hb35
    have hO41 := hO36.wr hW38 (by omega) (by omega)
    have hx_hO41 := hO41.next
    have hnx_H37 : H37.next = H31.next := hW38.1
    have hlt_n1 : n1 < H37.next := by omega
    have hlt_n6 : n6 < H37.next := by omega
    have hlt_n30 : n30 < H37.next := by omega
    refine O_p (.sl none 0 0 0) (r_mv rfl) ?_
    refine O_p (.i .i64 1) (r_mv rfl) ?_
    refine O_nil ?_
    refine C_seq ?_
    refine C_region ?_
    refine O_p (.p none) (r_mv rfl) ?_
    refine O_p (.p (some (n6, 0))) (r_fadd' rfl rfl) ?_
    refine O_p (.i .u16 st) (r_ld rfl hb40 rfl) ?_
    refine O_call (Ev.mono (freed_nil hO41.ok st) fun v42 H43 hq44 => ?_)
    obtain ⟨rfl, hK45⟩ := hq44
    have hb46 := (hK45.keep _ (by omega)).trans hb39
    have hb47 := (hK45.keep _ (by omega)).trans hb40
    have hb48 := (hK45.keep _ (by omega)).trans hW38.2.1
    have hx_hK45 := hK45.next
    have hlt_n1 : n1 < H43.next := by omega
    have hlt_n6 : n6 < H43.next := by omega
    have hlt_n30 : n30 < H43.next := by omega
    have hO49 := hO41.trans hK45
    have hx_hO49 := hO49.next
    refine O_nil ?_
    refine C_seq ?_
    refine C_region ?_
    refine O_p (.p none) (r_mv rfl) ?_
    refine O_p (.p (some (n1, 3))) (r_fadd' rfl rfl) ?_
    refine O_p (.s (txt label)) (r_ld rfl hb46 rfl) ?_
    refine O_call (Ev.mono (find_nil hO49.ok label) fun v50 H51 hq52 => ?_)
    obtain ⟨rfl, hK53⟩ := hq52
    have hb54 := (hK53.keep _ (by omega)).trans hb46
    have hb55 := (hK53.keep _ (by omega)).trans hb47
    have hb56 := (hK53.keep _ (by omega)).trans hb48
    have hx_hK53 := hK53.next
    have hlt_n1 : n1 < H51.next := by omega
    have hlt_n6 : n6 < H51.next := by omega
    have hlt_n30 : n30 < H51.next := by omega
    have hO57 := hO49.trans hK53
    have hx_hO57 := hO57.next
    refine O_p (.tup [(.i .u16 0), (.b false)]) (r_mv rfl) ?_
    refine O_p (.i .u16 0) (r_ext rfl rfl) ?_
    refine O_p (.b false) (r_ext rfl rfl) ?_
    refine O_p (.i .u16 0) (r_mv rfl) ?_
    refine O_p (.b false) (r_mv rfl) ?_
    refine O_nil ?_
    refine C_seq ?_
    refine C_region ?_
    refine O_p (.b true) (r_mv rfl) ?_
    refine O_p (.b true) (r_mv rfl) ?_
    refine O_gs (v := (.sl none 0 0 0)) rfl (r_mv rfl) ?_
    refine O_gs (v := (.i .i64 0)) rfl (r_len rfl) ?_
    refine O_gs (v := (.sl none 0 0 0)) rfl (r_mv rfl) ?_
    refine O_gs (v := (.i .i64 0)) rfl (r_len rfl) ?_
    refine O_gs (v := (.i .i64 0)) rfl (r_bin rfl rfl rfl) ?_
    refine O_gs (v := (.b true)) rfl (r_bin rfl rfl rfl) ?_
    refine O_p (.b true) (r_pick_t rfl rfl) ?_
    refine O_p (.b true) (r_mv rfl) ?_
    refine O_gs (v := (.i .i64 1)) rfl (r_mv rfl) ?_
    refine O_gs (v := (.b true)) rfl (r_bin rfl rfl rfl) ?_
    refine O_p (.b true) (r_pick_t rfl rfl) ?_
    refine O_p (.b true) (r_mv rfl) ?_
    refine O_gs (v := (.i .i64 1)) rfl (r_mv rfl) ?_
    refine O_gs (v := (.b true)) rfl (r_bin rfl rfl rfl) ?_
    refine O_p (.b true) (r_pick_t rfl rfl) ?_
    refine O_p (.b true) (r_mv rfl) ?_
    refine O_gs (v := (.p (some (n30, 0)))) rfl (r_fadd' rfl rfl) ?_
    refine O_gs (v := (.i .i64 0)) rfl (r_ld rfl hb56 rfl) ?_
    refine O_gs (v := (.b true)) rfl (r_bin rfl rfl rfl) ?_
    refine O_p (.b true) (r_pick_t rfl rfl) ?_
    refine O_p (.b true) (r_mv rfl) ?_
    refine O_gs (v := (.p none)) rfl (r_mv rfl) ?_
    refine O_gs (v := (.p (some (n6, 0)))) rfl (r_fadd' rfl rfl) ?_
    refine O_gs (v := (.i .u16 st)) rfl (r_ld rfl hb55 rfl) ?_
    refine O_gcall rfl (Ev.mono (close_nil hO57.ok st) fun v58 H59 hq60 => ?_)
    obtain ⟨rfl, hK61⟩ := hq60
    have hb62 := (hK61.keep _ (by omega)).trans hb54
    have hb63 := (hK61.keep _ (by omega)).trans hb55
    have hb64 := (hK61.keep _ (by omega)).trans hb56
    have hx_hK61 := hK61.next
    have hlt_n1 : n1 < H59.next := by omega
    have hlt_n6 : n6 < H59.next := by omega
    have hlt_n30 : n30 < H59.next := by omega
    have hO65 := hO57.trans hK61
    have hx_hO65 := hO65.next
    refine O_gs (v := (.b true)) rfl (r_bin rfl rfl rfl) ?_
    refine O_p (.b true) (r_pick_t rfl rfl) ?_
    refine O_p (.b true) (r_mv rfl) ?_
    refine O_gs (v := (.p none)) rfl (r_mv rfl) ?_
    refine O_gs (v := (.p (some (n6, 0)))) rfl (r_fadd' rfl rfl) ?_
    refine O_gs (v := (.i .u16 st)) rfl (r_ld rfl hb63 rfl) ?_
    refine O_gcall rfl (Ev.mono (gone_nil hO65.ok st) fun v66 H67 hq68 => ?_)
    obtain ⟨rfl, hK69⟩ := hq68
    have hb70 := (hK69.keep _ (by omega)).trans hb62
    have hb71 := (hK69.keep _ (by omega)).trans hb63
    have hb72 := (hK69.keep _ (by omega)).trans hb64
    have hx_hK69 := hK69.next
    have hlt_n1 : n1 < H67.next := by omega
    have hlt_n6 : n6 < H67.next := by omega
    have hlt_n30 : n30 < H67.next := by omega
    have hO73 := hO65.trans hK69
    have hx_hO73 := hO73.next
    refine O_gs (v := (.b true)) rfl (r_un rfl rfl) ?_
    refine O_p (.b true) (r_pick_t rfl rfl) ?_
    refine O_p (.b true) (r_mv rfl) ?_
    refine O_gs (v := (.p none)) rfl (r_mv rfl) ?_
    refine O_gs (v := (.p (some (n6, 0)))) rfl (r_fadd' rfl rfl) ?_
    refine O_gs (v := (.i .u16 st)) rfl (r_ld rfl hb71 rfl) ?_
    refine O_gcall rfl (Ev.mono (state_nil hO73.ok st) fun v74 H75 hq76 => ?_)
    obtain ⟨rfl, hK77⟩ := hq76
    have hb78 := (hK77.keep _ (by omega)).trans hb70
    have hb79 := (hK77.keep _ (by omega)).trans hb71
    have hb80 := (hK77.keep _ (by omega)).trans hb72
    have hx_hK77 := hK77.next
    have hlt_n1 : n1 < H75.next := by omega
    have hlt_n6 : n6 < H75.next := by omega
    have hlt_n30 : n30 < H75.next := by omega
    have hO81 := hO73.trans hK77
    have hx_hO81 := hO81.next
    refine O_gs (v := (.b true)) rfl (r_bin rfl rfl rfl) ?_
    refine O_p (.b true) (r_pick_t rfl rfl) ?_
    refine O_p (.b true) (r_mv rfl) ?_
    refine O_gs (v := (.b false)) rfl (r_mv rfl) ?_
    refine O_gs (v := (.b true)) rfl (r_un rfl rfl) ?_
    refine O_p (.b true) (r_pick_t rfl rfl) ?_
    refine O_p (.b true) (r_mv rfl) ?_
    refine O_gs (v := (.p none)) rfl (r_mv rfl) ?_
    refine O_gs (v := (.p (some (n6, 0)))) rfl (r_fadd' rfl rfl) ?_
    refine O_gs (v := (.i .u16 st)) rfl (r_ld rfl hb79 rfl) ?_
    refine O_gcall rfl (Ev.mono (opening_nil hO81.ok st) fun v82 H83 hq84 => ?_)
    obtain ⟨rfl, hK85⟩ := hq84
    have hb86 := (hK85.keep _ (by omega)).trans hb78
    have hb87 := (hK85.keep _ (by omega)).trans hb79
    have hb88 := (hK85.keep _ (by omega)).trans hb80
    have hx_hK85 := hK85.next
    have hlt_n1 : n1 < H83.next := by omega
    have hlt_n6 : n6 < H83.next := by omega
    have hlt_n30 : n30 < H83.next := by omega
    have hO89 := hO81.trans hK85
    have hx_hO89 := hO89.next
    refine O_gs (v := (.agg [(.i .u8 0), (.i .u16 0), (.i .u32 0), (.s ⟨#[]⟩), (.s ⟨#[]⟩)])) rfl (r_build rfl) ?_
    refine O_gcall rfl (Ev.mono (alike_ev hO89.ok 0 0 0 ([] : List UInt8) ([] : List UInt8)) fun v90 H91 hq92 => ?_)
    obtain ⟨rfl, hK93⟩ := hq92
    have hb94 := (hK93.keep _ (by omega)).trans hb86
    have hb95 := (hK93.keep _ (by omega)).trans hb87
    have hb96 := (hK93.keep _ (by omega)).trans hb88
    have hx_hK93 := hK93.next
    have hlt_n1 : n1 < H91.next := by omega
    have hlt_n6 : n6 < H91.next := by omega
    have hlt_n30 : n30 < H91.next := by omega
    have hO97 := hO89.trans hK93
    have hx_hO97 := hO97.next
    refine O_p (.b true) (r_pick_t rfl rfl) ?_
    refine O_p (.b true) (r_mv rfl) ?_
    refine O_nil ?_
    refine C_ret ?_
    exact ⟨.inr rfl, _, resL_one (r_tmp (v := .b true) rfl), rfl⟩
set_option maxRecDepth 100000 in
theorem law10 (W : World) (ρ : Rho) (H : AH) (xs : List AV) (args : Array Value) (hR : Rel Tryd.prog W.heap.size W ρ H W) (hro : RO H) (hT : ∀ n b, tabs0.get n = some b → H.get n = some b) (hv : VRL ρ xs args.toList) (ht : TypedVs Tryd.prog H 9 Tryd.f10.params.toList xs) :
    Calls Tryd.prog 10 args W fun e w' => e = .returned (.bool true) ∧ Below W.heap.size W w' := by
  rw [Tryd.params10] at ht
  obtain ⟨a0, xs, rfl, g0, a1, xs, rfl, g1, rfl⟩ := ht
  obtain ⟨l, rfl, g⟩ := typedV_struct Tryd.underlying25 g0
  obtain ⟨hl, hq⟩ := struct_parts (qs := [(5, 0, 1), (22, 1, 1), (23, 2, 1), (9, 3, 1), (9, 4, 1)]) Tryd.underlying25 g (by kernel_rfl)
  rw [show Tryd.prog.cellsOf 25 = 5 by kernel_rfl] at hl
  obtain ⟨x0, x1, x2, x3, x4, rfl⟩ : ∃ a b c d e, l = [a, b, c, d, e] := by
    match l, hl with
    | [a, b, c, d, e], _ => exact ⟨a, b, c, d, e, rfl⟩
  simp only [List.forall_mem_cons, List.drop_zero, List.drop_succ_cons, List.take_succ_cons, List.take_zero] at hq
  obtain ⟨q0, q1, q2, q3, q4, _⟩ := hq
  obtain ⟨kind, e0, w0⟩ := typed_int Tryd.underlying5 q0
  obtain ⟨prio, e1, w1⟩ := typed_int Tryd.underlying22 q1
  obtain ⟨limit, e2, w2⟩ := typed_int Tryd.underlying23 q2
  obtain ⟨ls, e3, w3⟩ := typed_string Tryd.underlying9 q3
  obtain ⟨pr, e4, w4⟩ := typed_string Tryd.underlying9 q4
  cases e0; cases e1; cases e2; cases e3; cases e4
  obtain ⟨label, rfl⟩ := txt_ex ls
  obtain ⟨proto, rfl⟩ := txt_ex pr
  rw [txt_size] at w3 w4
  obtain ⟨ml, rfl, mg⟩ := typedV_struct Tryd.underlying62 g1
  obtain ⟨mhl, mhq⟩ := struct_parts (qs := [(22, 0, 1), (4, 1, 1), (23, 2, 1), (27, 3, 1)]) Tryd.underlying62 mg (by kernel_rfl)
  rw [show Tryd.prog.cellsOf 62 = 4 by kernel_rfl] at mhl
  obtain ⟨mx0, mx1, mx2, mx3, rfl⟩ : ∃ a b c d, ml = [a, b, c, d] := by
    match ml, mhl with
    | [a, b, c, d], _ => exact ⟨a, b, c, d, rfl⟩
  simp only [List.forall_mem_cons, List.drop_zero, List.drop_succ_cons, List.take_succ_cons, List.take_zero] at mhq
  obtain ⟨mq0, mq1, mq2, mq3, _⟩ := mhq
  obtain ⟨mst, me0, mw0⟩ := typed_int Tryd.underlying22 mq0
  obtain ⟨mun, me1⟩ := typed_bool Tryd.underlying4 mq1
  obtain ⟨mpp, me2, mw2⟩ := typed_int Tryd.underlying23 mq2
  obtain ⟨ma, mn, mc, mb, me3, mhb, mhbl, mhc, mhm⟩ := typed_bytes Tryd.underlying27 Tryd.underlying5 (by kernel_rfl) mq3
  cases me0; cases me1; cases me2; cases me3
  obtain ⟨k, v, H', hex, rfl⟩ := run10 H hR.aok (Tb.of hT) kind prio limit label proto (wfU8 w0) (wfU16 w1) (wfU32 w2) w3 w4 mst mpp mun ma mn mc
  exact law_of mixed tabV_ok spV_ok hex hR hv
end Go.Proofs.YtfhbdddjclodhaaDoor.E
namespace Go.Proofs.YtfhbdddjclodhaaDoor.dcepNone
open Go.ChangeShapes Go.WideShapes Go.RowKit Go.ChangeAt
set_option linter.unusedVariables false
theorem types : (Tryd.f10.params.toList.all fun t => E.fit Tryd.prog 9 t && (Tryd.prog.readableRec t && decide (t < Tryd.prog.types.size))) = true := by kernel_rfl
set_option maxRecDepth 100000 in
theorem lifted (os : Os) (started : os.Started) (H : Type) (enc : TypeId × Value → H) :
    ReturnsInHanded {} Tryd.checked os 10 .any (fun w args => (Rows.dcepNoneSpec.pre enc Tryd.prog Tryd.f10 Rows.dcepNoneRow.domain false w args ∧ laidMetH Tryd.prog E.laid18 w) ∧ sizedMet enc Tryd.prog Tryd.f10 (OpenSpec.ofChange Rows.dcepNoneSpec) false w args) (Rows.dcepNoneSpec.post enc Tryd.prog Tryd.f10 false true false false) :=
  E.law_liftedG (C := Tryd.checked) (k := 9) (tb := 4) (X := fun w => laidMetH Tryd.prog E.laid18 w) E.laid (fun _ _ hh h => h.of_heap hh) (fun W h => E.Rel.tabs E.globals2 (E.tabs18 h)) E.tabs0_ro E.own18 started (by kernel_rfl) Tryd.func10
    (ChangeSpec.witness_shaped (enc := enc) (C := Tryd.checked) (os := os) (X := fun w _ => laidMetH Tryd.prog E.laid18 w) false (World.laidAll Tryd.prog os E.laid18) #[.agg #[.int .u8 0, .int .u16 0, .int .u32 0, .string .empty, .string .empty], .agg #[.int .u16 0, .bool false, .int .u32 0, .slice none 0 0]] 8 (World.laidAll_os _ _ _)
      (World.shaped_of_ZipB (by kernel_rfl) (by kernel_rfl)) (by kernel_rfl) (by kernel_rfl) (by kernel_rfl)
      (by rw [MakeChecks.laidMetH_plain _ _ _ (by kernel_rfl)]; exact laidMet_laidAll _ (by kernel_rfl) (by kernel_rfl)))
    rfl rfl Tryd.underlying4 (fun t ht => by have h := List.all_eq_true.1 types t ht; simp only [Bool.and_eq_true, decide_eq_true_eq] at h; exact h)
    (fun ds hd => by
      rw [Tryd.params10] at hd
      match ds, hd with
      | [d0, d1], _ => rfl) E.law10
theorem over : Rows.dcepNoneRow.holds Tryd.pinned (OpenSpec.ofChange Rows.dcepNoneSpec) :=
  OpenClaim.holds_of_wide 10 Tryd.f10 rfl rfl rfl rfl rfl rfl rfl ⟨rfl, rfl, rfl, rfl, rfl⟩ rfl rfl rfl rfl rfl (by kernel_rfl) Tryd.func10 (by kernel_rfl)
    (of_decide_eq_true (by kernel_rfl)) (by unfold Func.isWrapper; first | (rw [if_pos (by decide +kernel)]; kernel_rfl) | (rw [if_neg (by decide +kernel)]; exact ⟨rfl, rfl⟩))
    (fun os started H enc _ => lifted os started H enc)
theorem card : Claim7.holds Tryd.pinned (.plain (OpenSpec.ofChange Rows.dcepNoneSpec)) Rows.dcepNoneCard :=
  Claim7.holds_tied_plain_at .later [] [.data, .pinned] true (true, "840fe89f1718999666760e2798cb68f93cfa0fb72f9e95c902c9bbcf5ac830c4") false over (fun _ h => by cases h) (by kernel_rfl) (fun _ h => by cases h) dcepNone_row_tie rfl ⟨rfl, rfl⟩ (by kernel_rfl) rfl
    (fun f fn hf hfn => by
      obtain rfl : f = 10 := Option.some.inj ((show Tryd.prog.funcNamed "bollard/bollardlaw18.DcepNone" = some 10 by kernel_rfl).symm.trans hf) |>.symm
      obtain rfl : fn = Tryd.f10 := (Option.some.inj (Tryd.func10.symm.trans hfn)).symm
      exact ⟨by kernel_rfl, fun j t ht => by
        rw [Tryd.params10] at ht
        have hm : t ∈ [25, 62] := by simpa using Array.mem_of_getElem? ht
        have hall : ([25, 62].all fun u => !Tryd.prog.wantsStandIn u) = true := by kernel_rfl
        exact (show Tryd.prog.wantsStandIn t = false by simpa using List.all_eq_true.1 hall t hm)⟩)
    (by kernel_rfl)
end Go.Proofs.YtfhbdddjclodhaaDoor.dcepNone
namespace Go.Proofs.YtfhbdddjclodhaaDoor
/-- The card, under a short name, for the claim. -/
theorem dcepNone_holds : Rows.DcepNoneCardSaid := dcepNone.card
#print axioms dcepNone_holds
end Go.Proofs.YtfhbdddjclodhaaDoor
