/- alike, walked. It bears no condition. -/
import Derived.Test.YteapgimihapefaaP
namespace Go.Proofs.Yteapgimihapefaa.E
set_option linter.unusedVariables false
set_option linter.unusedSimpArgs false
set_option maxRecDepth 100000 in
theorem alike_ev {H : AH} (hok : H.Ok) (made life tag peer first pf room out inn tie0 tie1 : Int) (ht : 0 ≤ tag ∧ tag < 4294967296) (hp : 0 ≤ peer ∧ peer < 4294967296) (hf : 0 ≤ first ∧ first < 4294967296) (hpf : 0 ≤ pf ∧ pf < 4294967296) (hr : 0 ≤ room ∧ room < 4294967296) (ho : 0 ≤ out ∧ out < 65536) (hi : 0 ≤ inn ∧ inn < 65536) (h0 : 0 ≤ tie0 ∧ tie0 < 4294967296) (h1 : 0 ≤ tie1 ∧ tie1 < 4294967296) : Ev tabA spA (.fn (.func 18) [] []) [.agg [(.i .i64 made), (.i .i64 life), (.i .u32 tag), (.i .u32 peer), (.i .u32 first), (.i .u32 pf), (.i .u32 room), (.i .u16 out), (.i .u16 inn), (.i .u32 tie0), (.i .u32 tie1)], .agg [(.i .i64 made), (.i .i64 life), (.i .i64 tag), (.i .i64 peer), (.i .i64 first), (.i .i64 pf), (.i .i64 room), (.i .i64 tie0), (.i .i64 tie1), (.i .i64 out), (.i .i64 inn)]] H (fun r H' => r = .b true ∧ Kp H H') := by
  refine Ev_C (F := x18) rfl ?_
  have hO0 := Old.refl hok
  have h12 : tabA 12 = some x12 := rfl
  refine C_seq ?_
  refine C_region ?_
  refine O_box (z := [(.i .i64 made), (.i .i64 life), (.i .u32 tag), (.i .u32 peer), (.i .u32 first), (.i .u32 pf), (.i .u32 room), (.i .u16 out), (.i .u16 inn), (.i .u32 tie0), (.i .u32 tie1)]) rfl fun n1 H2 hN3 => ?_
  have hF4 := hN3.fr (fun _ => False)
  have hO5 := hO0.new hN3
  have hx_hO5 := hO5.next
  have hnm_n1 : n1 = H.next := hN3.1
  have hnx_H2 : H2.next = H.next + 1 := hN3.2.1
  have hlt_n1 : n1 < H2.next := by omega
  refine O_box (z := [(.i .i64 made), (.i .i64 life), (.i .i64 tag), (.i .i64 peer), (.i .i64 first), (.i .i64 pf), (.i .i64 room), (.i .i64 tie0), (.i .i64 tie1), (.i .i64 out), (.i .i64 inn)]) rfl fun n6 H7 hN8 => ?_
  have hF9 := hN8.fr (fun _ => False)
  have hb10 := (hF9.keep _ (by exact hlt_n1) (fun h => h)).trans hN3.2.2.1
  have hO11 := hO5.new hN8
  have hx_hO11 := hO11.next
  have hnm_n6 : n6 = H2.next := hN8.1
  have hnx_H7 : H7.next = H2.next + 1 := hN8.2.1
  have hlt_n1 : n1 < H7.next := by omega
  have hlt_n6 : n6 < H7.next := by omega
  refine O_p (.b false) (r_mv rfl) ?_
  refine O_nil ?_
  refine C_seq ?_
  refine C_region ?_
  refine O_p (.agg [(.i .i64 made), (.i .i64 life), (.i .u32 tag), (.i .u32 peer), (.i .u32 first), (.i .u32 pf), (.i .u32 room), (.i .u16 out), (.i .u16 inn), (.i .u32 tie0), (.i .u32 tie1)]) (r_ldA rfl hb10 rfl) ?_
  refine O_call (Ev.mono (theirs_ev h12 hO11.ok made life tag peer first pf room out inn tie0 tie1 ht hp hf hpf hr ho hi h0 h1) fun v12 H13 hq14 => ?_)
  obtain ⟨rfl, hK15⟩ := hq14
  have hb16 := (hK15.keep _ (by omega)).trans hb10
  have hb17 := (hK15.keep _ (by omega)).trans hN8.2.2.1
  have hx_hK15 := hK15.next
  have hlt_n1 : n1 < H13.next := by omega
  have hlt_n6 : n6 < H13.next := by omega
  have hO18 := hO11.trans hK15
  have hx_hO18 := hO18.next
  refine O_alloc fun n19 H20 hN21 => ?_
  have hF22 := hN21.fr (fun _ => False)
  have hb23 := (hF22.keep _ (by exact hlt_n1) (fun h => h)).trans hb16
  have hb24 := (hF22.keep _ (by exact hlt_n6) (fun h => h)).trans hb17
  have hO25 := hO18.new hN21
  have hx_hO25 := hO25.next
  have hnm_n19 : n19 = H13.next := hN21.1
  have hnx_H20 : H20.next = H13.next + 1 := hN21.2.1
  have hlt_n1 : n1 < H20.next := by omega
  have hlt_n6 : n6 < H20.next := by omega
  have hlt_n19 : n19 < H20.next := by omega
  refine O_store (vs := [(.i .i64 made), (.i .i64 life), (.i .i64 tag), (.i .i64 peer), (.i .i64 first), (.i .i64 pf), (.i .i64 room), (.i .i64 tie0), (.i .i64 tie1), (.i .i64 out), (.i .i64 inn)]) (c' := [(.i .i64 made), (.i .i64 life), (.i .i64 tag), (.i .i64 peer), (.i .i64 first), (.i .i64 pf), (.i .i64 room), (.i .i64 tie0), (.i .i64 tie1), (.i .i64 out), (.i .i64 inn)]) rfl (by rfl) hN21.2.2.1 rfl (List.cons_ne_nil _ _) (Nat.le_of_ble_eq_true rfl) rfl fun H26 hW27 => ?_
  have hb28 := (hW27.2.2 _ (by omega)).trans hb23
  have hb29 := (hW27.2.2 _ (by omega)).trans hb24
  have hO30 := hO25.wr hW27 (by omega) (by omega)
  have hx_hO30 := hO30.next
  have hnx_H26 : H26.next = H20.next := hW27.1
  have hlt_n1 : n1 < H26.next := by omega
  have hlt_n6 : n6 < H26.next := by omega
  have hlt_n19 : n19 < H26.next := by omega
  refine O_nil ?_
  refine C_seq ?_
  refine C_seq ?_
  refine C_region ?_
  refine O_p (.i .i64 0) (r_mv rfl) ?_
  refine O_nil ?_
  refine C_block ?_
  refine C_loop ?_
  refine C_seq ?_
  refine C_seq ?_
  refine C_region ?_
  refine O_p (.i .i64 0) (r_mv rfl) ?_
  refine O_p (.b true) (r_bin rfl rfl rfl) ?_
  refine O_nil ?_
  refine C_cond (x := true) rfl (fun _ => ?_) (fun h => by cases h)
  refine C_skip ?_
  refine C_seq ?_
  refine C_block ?_
  refine C_seq ?_
  refine C_draw fun b31 H32 hbase33 hA34 => ?_
  have hnx35 : H32.next = H26.next + 7 := hA34.1
  have hb36 := (hA34.2 _).trans hb28
  have hb37 := (hA34.2 _).trans hb29
  have hb38 := (hA34.2 _).trans hW27.2.1
  have hF39 := hA34.fr (fun _ => False)
  have hO40 := hO30.aside hA34
  have hx_hO40 := hO40.next
  have hlt_n1 : n1 < H32.next := by omega
  have hlt_n6 : n6 < H32.next := by omega
  have hlt_n19 : n19 < H32.next := by omega
  refine D_l (v := (.i .i64 0)) rfl rfl rfl (r_mv rfl) ?_
  refine D_l (v := (.p (some (n19, 0)))) rfl rfl rfl (r_iarr' rfl rfl rfl rfl) ?_
  refine D_l (v := (.i .i64 0)) rfl rfl rfl (r_mv rfl) ?_
  refine D_l (v := (.p (some (n6, 0)))) rfl rfl rfl (r_iarr' rfl rfl rfl rfl) ?_
  refine D_r (v := (.i .i64 made)) rfl rfl rfl (r_ld rfl hb38 rfl) ?_
  refine D_r (v := (.i .i64 made)) rfl rfl rfl (r_ld rfl hb37 rfl) ?_
  refine D_l (v := (.b false)) rfl rfl rfl (r_nqq rfl rfl) ?_
  refine D_nil ?_
  refine C_cond (x := false) rfl (fun h => by cases h) (fun _ => ?_)
  refine C_skip ?_
  refine C_region ?_
  refine O_p (.i .i64 0) (r_mv rfl) ?_
  refine O_p (.i .i64 1) (r_bin rfl rfl rfl) ?_
  refine O_p (.i .i64 1) (r_mv rfl) ?_
  refine O_nil ?_
  refine C_loop ?_
  refine C_seq ?_
  refine C_seq ?_
  refine C_region ?_
  refine O_p (.i .i64 1) (r_mv rfl) ?_
  refine O_p (.b true) (r_bin rfl rfl rfl) ?_
  refine O_nil ?_
  refine C_cond (x := true) rfl (fun _ => ?_) (fun h => by cases h)
  refine C_skip ?_
  refine C_seq ?_
  refine C_block ?_
  refine C_seq ?_
  refine C_draw fun b41 H42 hbase43 hA44 => ?_
  have hnx45 : H42.next = H32.next + 7 := hA44.1
  have hb46 := (hA44.2 _).trans hb36
  have hb47 := (hA44.2 _).trans hb37
  have hb48 := (hA44.2 _).trans hb38
  have hF49 := hA44.fr (fun _ => False)
  have hO50 := hO40.aside hA44
  have hx_hO50 := hO50.next
  have hlt_n1 : n1 < H42.next := by omega
  have hlt_n6 : n6 < H42.next := by omega
  have hlt_n19 : n19 < H42.next := by omega
  refine D_l (v := (.i .i64 1)) rfl rfl rfl (r_mv rfl) ?_
  refine D_l (v := (.p (some (n19, 1)))) rfl rfl rfl (r_iarr' rfl rfl rfl rfl) ?_
  refine D_l (v := (.i .i64 1)) rfl rfl rfl (r_mv rfl) ?_
  refine D_l (v := (.p (some (n6, 1)))) rfl rfl rfl (r_iarr' rfl rfl rfl rfl) ?_
  refine D_r (v := (.i .i64 life)) rfl rfl rfl (r_ld rfl hb48 rfl) ?_
  refine D_r (v := (.i .i64 life)) rfl rfl rfl (r_ld rfl hb47 rfl) ?_
  refine D_l (v := (.b false)) rfl rfl rfl (r_nqq rfl rfl) ?_
  refine D_nil ?_
  refine C_cond (x := false) rfl (fun h => by cases h) (fun _ => ?_)
  refine C_skip ?_
  refine C_region ?_
  refine O_p (.i .i64 1) (r_mv rfl) ?_
  refine O_p (.i .i64 2) (r_bin rfl rfl rfl) ?_
  refine O_p (.i .i64 2) (r_mv rfl) ?_
  refine O_nil ?_
  refine C_loop ?_
  refine C_seq ?_
  refine C_seq ?_
  refine C_region ?_
  refine O_p (.i .i64 2) (r_mv rfl) ?_
  refine O_p (.b true) (r_bin rfl rfl rfl) ?_
  refine O_nil ?_
  refine C_cond (x := true) rfl (fun _ => ?_) (fun h => by cases h)
  refine C_skip ?_
  refine C_seq ?_
  refine C_block ?_
  refine C_seq ?_
  refine C_draw fun b51 H52 hbase53 hA54 => ?_
  have hnx55 : H52.next = H42.next + 7 := hA54.1
  have hb56 := (hA54.2 _).trans hb46
  have hb57 := (hA54.2 _).trans hb47
  have hb58 := (hA54.2 _).trans hb48
  have hF59 := hA54.fr (fun _ => False)
  have hO60 := hO50.aside hA54
  have hx_hO60 := hO60.next
  have hlt_n1 : n1 < H52.next := by omega
  have hlt_n6 : n6 < H52.next := by omega
  have hlt_n19 : n19 < H52.next := by omega
  refine D_l (v := (.i .i64 2)) rfl rfl rfl (r_mv rfl) ?_
  refine D_l (v := (.p (some (n19, 2)))) rfl rfl rfl (r_iarr' rfl rfl rfl rfl) ?_
  refine D_l (v := (.i .i64 2)) rfl rfl rfl (r_mv rfl) ?_
  refine D_l (v := (.p (some (n6, 2)))) rfl rfl rfl (r_iarr' rfl rfl rfl rfl) ?_
  refine D_r (v := (.i .i64 tag)) rfl rfl rfl (r_ld rfl hb58 rfl) ?_
  refine D_r (v := (.i .i64 tag)) rfl rfl rfl (r_ld rfl hb57 rfl) ?_
  refine D_l (v := (.b false)) rfl rfl rfl (r_nqq rfl rfl) ?_
  refine D_nil ?_
  refine C_cond (x := false) rfl (fun h => by cases h) (fun _ => ?_)
  refine C_skip ?_
  refine C_region ?_
  refine O_p (.i .i64 2) (r_mv rfl) ?_
  refine O_p (.i .i64 3) (r_bin rfl rfl rfl) ?_
  refine O_p (.i .i64 3) (r_mv rfl) ?_
  refine O_nil ?_
  refine C_loop ?_
  refine C_seq ?_
  refine C_seq ?_
  refine C_region ?_
  refine O_p (.i .i64 3) (r_mv rfl) ?_
  refine O_p (.b true) (r_bin rfl rfl rfl) ?_
  refine O_nil ?_
  refine C_cond (x := true) rfl (fun _ => ?_) (fun h => by cases h)
  refine C_skip ?_
  refine C_seq ?_
  refine C_block ?_
  refine C_seq ?_
  refine C_draw fun b61 H62 hbase63 hA64 => ?_
  have hnx65 : H62.next = H52.next + 7 := hA64.1
  have hb66 := (hA64.2 _).trans hb56
  have hb67 := (hA64.2 _).trans hb57
  have hb68 := (hA64.2 _).trans hb58
  have hF69 := hA64.fr (fun _ => False)
  have hO70 := hO60.aside hA64
  have hx_hO70 := hO70.next
  have hlt_n1 : n1 < H62.next := by omega
  have hlt_n6 : n6 < H62.next := by omega
  have hlt_n19 : n19 < H62.next := by omega
  refine D_l (v := (.i .i64 3)) rfl rfl rfl (r_mv rfl) ?_
  refine D_l (v := (.p (some (n19, 3)))) rfl rfl rfl (r_iarr' rfl rfl rfl rfl) ?_
  refine D_l (v := (.i .i64 3)) rfl rfl rfl (r_mv rfl) ?_
  refine D_l (v := (.p (some (n6, 3)))) rfl rfl rfl (r_iarr' rfl rfl rfl rfl) ?_
  refine D_r (v := (.i .i64 peer)) rfl rfl rfl (r_ld rfl hb68 rfl) ?_
  refine D_r (v := (.i .i64 peer)) rfl rfl rfl (r_ld rfl hb67 rfl) ?_
  refine D_l (v := (.b false)) rfl rfl rfl (r_nqq rfl rfl) ?_
  refine D_nil ?_
  refine C_cond (x := false) rfl (fun h => by cases h) (fun _ => ?_)
  refine C_skip ?_
  refine C_region ?_
  refine O_p (.i .i64 3) (r_mv rfl) ?_
  refine O_p (.i .i64 4) (r_bin rfl rfl rfl) ?_
  refine O_p (.i .i64 4) (r_mv rfl) ?_
  refine O_nil ?_
  refine C_loop ?_
  refine C_seq ?_
  refine C_seq ?_
  refine C_region ?_
  refine O_p (.i .i64 4) (r_mv rfl) ?_
  refine O_p (.b true) (r_bin rfl rfl rfl) ?_
  refine O_nil ?_
  refine C_cond (x := true) rfl (fun _ => ?_) (fun h => by cases h)
  refine C_skip ?_
  refine C_seq ?_
  refine C_block ?_
  refine C_seq ?_
  refine C_draw fun b71 H72 hbase73 hA74 => ?_
  have hnx75 : H72.next = H62.next + 7 := hA74.1
  have hb76 := (hA74.2 _).trans hb66
  have hb77 := (hA74.2 _).trans hb67
  have hb78 := (hA74.2 _).trans hb68
  have hF79 := hA74.fr (fun _ => False)
  have hO80 := hO70.aside hA74
  have hx_hO80 := hO80.next
  have hlt_n1 : n1 < H72.next := by omega
  have hlt_n6 : n6 < H72.next := by omega
  have hlt_n19 : n19 < H72.next := by omega
  refine D_l (v := (.i .i64 4)) rfl rfl rfl (r_mv rfl) ?_
  refine D_l (v := (.p (some (n19, 4)))) rfl rfl rfl (r_iarr' rfl rfl rfl rfl) ?_
  refine D_l (v := (.i .i64 4)) rfl rfl rfl (r_mv rfl) ?_
  refine D_l (v := (.p (some (n6, 4)))) rfl rfl rfl (r_iarr' rfl rfl rfl rfl) ?_
  refine D_r (v := (.i .i64 first)) rfl rfl rfl (r_ld rfl hb78 rfl) ?_
  refine D_r (v := (.i .i64 first)) rfl rfl rfl (r_ld rfl hb77 rfl) ?_
  refine D_l (v := (.b false)) rfl rfl rfl (r_nqq rfl rfl) ?_
  refine D_nil ?_
  refine C_cond (x := false) rfl (fun h => by cases h) (fun _ => ?_)
  refine C_skip ?_
  refine C_region ?_
  refine O_p (.i .i64 4) (r_mv rfl) ?_
  refine O_p (.i .i64 5) (r_bin rfl rfl rfl) ?_
  refine O_p (.i .i64 5) (r_mv rfl) ?_
  refine O_nil ?_
  refine C_loop ?_
  refine C_seq ?_
  refine C_seq ?_
  refine C_region ?_
  refine O_p (.i .i64 5) (r_mv rfl) ?_
  refine O_p (.b true) (r_bin rfl rfl rfl) ?_
  refine O_nil ?_
  refine C_cond (x := true) rfl (fun _ => ?_) (fun h => by cases h)
  refine C_skip ?_
  refine C_seq ?_
  refine C_block ?_
  refine C_seq ?_
  refine C_draw fun b81 H82 hbase83 hA84 => ?_
  have hnx85 : H82.next = H72.next + 7 := hA84.1
  have hb86 := (hA84.2 _).trans hb76
  have hb87 := (hA84.2 _).trans hb77
  have hb88 := (hA84.2 _).trans hb78
  have hF89 := hA84.fr (fun _ => False)
  have hO90 := hO80.aside hA84
  have hx_hO90 := hO90.next
  have hlt_n1 : n1 < H82.next := by omega
  have hlt_n6 : n6 < H82.next := by omega
  have hlt_n19 : n19 < H82.next := by omega
  refine D_l (v := (.i .i64 5)) rfl rfl rfl (r_mv rfl) ?_
  refine D_l (v := (.p (some (n19, 5)))) rfl rfl rfl (r_iarr' rfl rfl rfl rfl) ?_
  refine D_l (v := (.i .i64 5)) rfl rfl rfl (r_mv rfl) ?_
  refine D_l (v := (.p (some (n6, 5)))) rfl rfl rfl (r_iarr' rfl rfl rfl rfl) ?_
  refine D_r (v := (.i .i64 pf)) rfl rfl rfl (r_ld rfl hb88 rfl) ?_
  refine D_r (v := (.i .i64 pf)) rfl rfl rfl (r_ld rfl hb87 rfl) ?_
  refine D_l (v := (.b false)) rfl rfl rfl (r_nqq rfl rfl) ?_
  refine D_nil ?_
  refine C_cond (x := false) rfl (fun h => by cases h) (fun _ => ?_)
  refine C_skip ?_
  refine C_region ?_
  refine O_p (.i .i64 5) (r_mv rfl) ?_
  refine O_p (.i .i64 6) (r_bin rfl rfl rfl) ?_
  refine O_p (.i .i64 6) (r_mv rfl) ?_
  refine O_nil ?_
  refine C_loop ?_
  refine C_seq ?_
  refine C_seq ?_
  refine C_region ?_
  refine O_p (.i .i64 6) (r_mv rfl) ?_
  refine O_p (.b true) (r_bin rfl rfl rfl) ?_
  refine O_nil ?_
  refine C_cond (x := true) rfl (fun _ => ?_) (fun h => by cases h)
  refine C_skip ?_
  refine C_seq ?_
  refine C_block ?_
  refine C_seq ?_
  refine C_draw fun b91 H92 hbase93 hA94 => ?_
  have hnx95 : H92.next = H82.next + 7 := hA94.1
  have hb96 := (hA94.2 _).trans hb86
  have hb97 := (hA94.2 _).trans hb87
  have hb98 := (hA94.2 _).trans hb88
  have hF99 := hA94.fr (fun _ => False)
  have hO100 := hO90.aside hA94
  have hx_hO100 := hO100.next
  have hlt_n1 : n1 < H92.next := by omega
  have hlt_n6 : n6 < H92.next := by omega
  have hlt_n19 : n19 < H92.next := by omega
  refine D_l (v := (.i .i64 6)) rfl rfl rfl (r_mv rfl) ?_
  refine D_l (v := (.p (some (n19, 6)))) rfl rfl rfl (r_iarr' rfl rfl rfl rfl) ?_
  refine D_l (v := (.i .i64 6)) rfl rfl rfl (r_mv rfl) ?_
  refine D_l (v := (.p (some (n6, 6)))) rfl rfl rfl (r_iarr' rfl rfl rfl rfl) ?_
  refine D_r (v := (.i .i64 room)) rfl rfl rfl (r_ld rfl hb98 rfl) ?_
  refine D_r (v := (.i .i64 room)) rfl rfl rfl (r_ld rfl hb97 rfl) ?_
  refine D_l (v := (.b false)) rfl rfl rfl (r_nqq rfl rfl) ?_
  refine D_nil ?_
  refine C_cond (x := false) rfl (fun h => by cases h) (fun _ => ?_)
  refine C_skip ?_
  refine C_region ?_
  refine O_p (.i .i64 6) (r_mv rfl) ?_
  refine O_p (.i .i64 7) (r_bin rfl rfl rfl) ?_
  refine O_p (.i .i64 7) (r_mv rfl) ?_
  refine O_nil ?_
  refine C_loop ?_
  refine C_seq ?_
  refine C_seq ?_
  refine C_region ?_
  refine O_p (.i .i64 7) (r_mv rfl) ?_
  refine O_p (.b true) (r_bin rfl rfl rfl) ?_
  refine O_nil ?_
  refine C_cond (x := true) rfl (fun _ => ?_) (fun h => by cases h)
  refine C_skip ?_
  refine C_seq ?_
  refine C_block ?_
  refine C_seq ?_
  refine C_draw fun b101 H102 hbase103 hA104 => ?_
  have hnx105 : H102.next = H92.next + 7 := hA104.1
  have hb106 := (hA104.2 _).trans hb96
  have hb107 := (hA104.2 _).trans hb97
  have hb108 := (hA104.2 _).trans hb98
  have hF109 := hA104.fr (fun _ => False)
  have hO110 := hO100.aside hA104
  have hx_hO110 := hO110.next
  have hlt_n1 : n1 < H102.next := by omega
  have hlt_n6 : n6 < H102.next := by omega
  have hlt_n19 : n19 < H102.next := by omega
  refine D_l (v := (.i .i64 7)) rfl rfl rfl (r_mv rfl) ?_
  refine D_l (v := (.p (some (n19, 7)))) rfl rfl rfl (r_iarr' rfl rfl rfl rfl) ?_
  refine D_l (v := (.i .i64 7)) rfl rfl rfl (r_mv rfl) ?_
  refine D_l (v := (.p (some (n6, 7)))) rfl rfl rfl (r_iarr' rfl rfl rfl rfl) ?_
  refine D_r (v := (.i .i64 tie0)) rfl rfl rfl (r_ld rfl hb108 rfl) ?_
  refine D_r (v := (.i .i64 tie0)) rfl rfl rfl (r_ld rfl hb107 rfl) ?_
  refine D_l (v := (.b false)) rfl rfl rfl (r_nqq rfl rfl) ?_
  refine D_nil ?_
  refine C_cond (x := false) rfl (fun h => by cases h) (fun _ => ?_)
  refine C_skip ?_
  refine C_region ?_
  refine O_p (.i .i64 7) (r_mv rfl) ?_
  refine O_p (.i .i64 8) (r_bin rfl rfl rfl) ?_
  refine O_p (.i .i64 8) (r_mv rfl) ?_
  refine O_nil ?_
  refine C_loop ?_
  refine C_seq ?_
  refine C_seq ?_
  refine C_region ?_
  refine O_p (.i .i64 8) (r_mv rfl) ?_
  refine O_p (.b true) (r_bin rfl rfl rfl) ?_
  refine O_nil ?_
  refine C_cond (x := true) rfl (fun _ => ?_) (fun h => by cases h)
  refine C_skip ?_
  refine C_seq ?_
  refine C_block ?_
  refine C_seq ?_
  refine C_draw fun b111 H112 hbase113 hA114 => ?_
  have hnx115 : H112.next = H102.next + 7 := hA114.1
  have hb116 := (hA114.2 _).trans hb106
  have hb117 := (hA114.2 _).trans hb107
  have hb118 := (hA114.2 _).trans hb108
  have hF119 := hA114.fr (fun _ => False)
  have hO120 := hO110.aside hA114
  have hx_hO120 := hO120.next
  have hlt_n1 : n1 < H112.next := by omega
  have hlt_n6 : n6 < H112.next := by omega
  have hlt_n19 : n19 < H112.next := by omega
  refine D_l (v := (.i .i64 8)) rfl rfl rfl (r_mv rfl) ?_
  refine D_l (v := (.p (some (n19, 8)))) rfl rfl rfl (r_iarr' rfl rfl rfl rfl) ?_
  refine D_l (v := (.i .i64 8)) rfl rfl rfl (r_mv rfl) ?_
  refine D_l (v := (.p (some (n6, 8)))) rfl rfl rfl (r_iarr' rfl rfl rfl rfl) ?_
  refine D_r (v := (.i .i64 tie1)) rfl rfl rfl (r_ld rfl hb118 rfl) ?_
  refine D_r (v := (.i .i64 tie1)) rfl rfl rfl (r_ld rfl hb117 rfl) ?_
  refine D_l (v := (.b false)) rfl rfl rfl (r_nqq rfl rfl) ?_
  refine D_nil ?_
  refine C_cond (x := false) rfl (fun h => by cases h) (fun _ => ?_)
  refine C_skip ?_
  refine C_region ?_
  refine O_p (.i .i64 8) (r_mv rfl) ?_
  refine O_p (.i .i64 9) (r_bin rfl rfl rfl) ?_
  refine O_p (.i .i64 9) (r_mv rfl) ?_
  refine O_nil ?_
  refine C_loop ?_
  refine C_seq ?_
  refine C_seq ?_
  refine C_region ?_
  refine O_p (.i .i64 9) (r_mv rfl) ?_
  refine O_p (.b true) (r_bin rfl rfl rfl) ?_
  refine O_nil ?_
  refine C_cond (x := true) rfl (fun _ => ?_) (fun h => by cases h)
  refine C_skip ?_
  refine C_seq ?_
  refine C_block ?_
  refine C_seq ?_
  refine C_draw fun b121 H122 hbase123 hA124 => ?_
  have hnx125 : H122.next = H112.next + 7 := hA124.1
  have hb126 := (hA124.2 _).trans hb116
  have hb127 := (hA124.2 _).trans hb117
  have hb128 := (hA124.2 _).trans hb118
  have hF129 := hA124.fr (fun _ => False)
  have hO130 := hO120.aside hA124
  have hx_hO130 := hO130.next
  have hlt_n1 : n1 < H122.next := by omega
  have hlt_n6 : n6 < H122.next := by omega
  have hlt_n19 : n19 < H122.next := by omega
  refine D_l (v := (.i .i64 9)) rfl rfl rfl (r_mv rfl) ?_
  refine D_l (v := (.p (some (n19, 9)))) rfl rfl rfl (r_iarr' rfl rfl rfl rfl) ?_
  refine D_l (v := (.i .i64 9)) rfl rfl rfl (r_mv rfl) ?_
  refine D_l (v := (.p (some (n6, 9)))) rfl rfl rfl (r_iarr' rfl rfl rfl rfl) ?_
  refine D_r (v := (.i .i64 out)) rfl rfl rfl (r_ld rfl hb128 rfl) ?_
  refine D_r (v := (.i .i64 out)) rfl rfl rfl (r_ld rfl hb127 rfl) ?_
  refine D_l (v := (.b false)) rfl rfl rfl (r_nqq rfl rfl) ?_
  refine D_nil ?_
  refine C_cond (x := false) rfl (fun h => by cases h) (fun _ => ?_)
  refine C_skip ?_
  refine C_region ?_
  refine O_p (.i .i64 9) (r_mv rfl) ?_
  refine O_p (.i .i64 10) (r_bin rfl rfl rfl) ?_
  refine O_p (.i .i64 10) (r_mv rfl) ?_
  refine O_nil ?_
  refine C_loop ?_
  refine C_seq ?_
  refine C_seq ?_
  refine C_region ?_
  refine O_p (.i .i64 10) (r_mv rfl) ?_
  refine O_p (.b true) (r_bin rfl rfl rfl) ?_
  refine O_nil ?_
  refine C_cond (x := true) rfl (fun _ => ?_) (fun h => by cases h)
  refine C_skip ?_
  refine C_seq ?_
  refine C_block ?_
  refine C_seq ?_
  refine C_draw fun b131 H132 hbase133 hA134 => ?_
  have hnx135 : H132.next = H122.next + 7 := hA134.1
  have hb136 := (hA134.2 _).trans hb126
  have hb137 := (hA134.2 _).trans hb127
  have hb138 := (hA134.2 _).trans hb128
  have hF139 := hA134.fr (fun _ => False)
  have hO140 := hO130.aside hA134
  have hx_hO140 := hO140.next
  have hlt_n1 : n1 < H132.next := by omega
  have hlt_n6 : n6 < H132.next := by omega
  have hlt_n19 : n19 < H132.next := by omega
  refine D_l (v := (.i .i64 10)) rfl rfl rfl (r_mv rfl) ?_
  refine D_l (v := (.p (some (n19, 10)))) rfl rfl rfl (r_iarr' rfl rfl rfl rfl) ?_
  refine D_l (v := (.i .i64 10)) rfl rfl rfl (r_mv rfl) ?_
  refine D_l (v := (.p (some (n6, 10)))) rfl rfl rfl (r_iarr' rfl rfl rfl rfl) ?_
  refine D_r (v := (.i .i64 inn)) rfl rfl rfl (r_ld rfl hb138 rfl) ?_
  refine D_r (v := (.i .i64 inn)) rfl rfl rfl (r_ld rfl hb137 rfl) ?_
  refine D_l (v := (.b false)) rfl rfl rfl (r_nqq rfl rfl) ?_
  refine D_nil ?_
  refine C_cond (x := false) rfl (fun h => by cases h) (fun _ => ?_)
  refine C_skip ?_
  refine C_region ?_
  refine O_p (.i .i64 10) (r_mv rfl) ?_
  refine O_p (.i .i64 11) (r_bin rfl rfl rfl) ?_
  refine O_p (.i .i64 11) (r_mv rfl) ?_
  refine O_nil ?_
  refine C_loop ?_
  refine C_seq ?_
  refine C_seq ?_
  refine C_region ?_
  refine O_p (.i .i64 11) (r_mv rfl) ?_
  refine O_p (.b false) (r_bin rfl rfl rfl) ?_
  refine O_nil ?_
  refine C_cond (x := false) rfl (fun h => by cases h) (fun _ => ?_)
  refine C_exit ?_
  refine nx_exit ?_
  refine nx_exit ?_
  refine bk_hit ?_
  refine C_seq ?_
  refine C_region ?_
  refine O_p (.b true) (r_mv rfl) ?_
  refine O_nil ?_
  refine C_ret ?_
  exact ⟨.inr rfl, _, resL_one (r_tmp (v := .b true) rfl), rfl, hO140⟩
end Go.Proofs.Yteapgimihapefaa.E
