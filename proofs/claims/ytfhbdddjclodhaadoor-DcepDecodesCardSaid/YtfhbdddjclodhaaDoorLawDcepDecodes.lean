/- DcepDecodes, for every input, without conditions. -/
import Derived.Test.YtfhbdddjclodhaaDoorF
namespace Go.Proofs.YtfhbdddjclodhaaDoor.E
open Go.RowKit (Below)
open Go.Lib
set_option linter.unusedVariables false
set_option linter.unusedSimpArgs false
set_option maxRecDepth 100000 in
theorem run4 (H : AH) (hok : H.Ok) (htb : Tb H) (ba : Option (Nat × Nat)) (bc : Nat) (b : List UInt8) (bhb : Bs H (.sl ba b.length bc 0) b) (bhc : b.length ≤ bc) (bhm0 : bc ≤ maxLen) : Ev tabV spV (.fn (.func 4) [] []) [.sl ba b.length bc 0] H (fun v _ => v = .b true) := by
  refine Ev_C (F := x4) rfl ?_
  have hO0 := Old.refl hok
  have bhm : bc ≤ 9223372036854775807 := bhm0
  refine C_seq ?_
  refine C_region ?_
  refine O_p (.b false) (r_mv rfl) ?_
  refine O_nil ?_
  refine C_seq ?_
  refine C_region ?_
  refine O_call (Ev.mono (awake_ev (htb.kp hok hO0)) fun v1 H2 hq3 => ?_)
  obtain ⟨rfl, hq3⟩ := hq3
  subst H2
  refine O_p (.b true) (r_mv rfl) ?_
  refine O_nil ?_
  refine C_seq ?_
  refine C_seq ?_
  refine C_region ?_
  refine O_p (.sl ba b.length bc 0) (r_mv rfl) ?_
  refine O_p (.i .i64 (((b.length : Nat)) : Int)) (r_len rfl) ?_
  refine O_p (.b (decide (1000 < (((b.length : Nat)) : Int)))) (r_gtr rfl rfl) ?_
  refine O_nil ?_
  refine C_cond (x := (decide (1000 < (((b.length : Nat)) : Int)))) rfl (fun hc4 => ?_) (fun hc4 => ?_)
  ·
    simp only [decide_eq_true_eq, decide_eq_false_iff_not, Bool.not_eq_true', Bool.not_eq_false', Bool.and_eq_true, Bool.or_eq_true, Bool.or_eq_false_iff, Bool.not_not] at hc4
    refine C_seq ?_
    refine C_region ?_
    refine O_p (.b true) (r_mv rfl) ?_
    refine O_p (.b true) (r_mv rfl) ?_
    refine O_nil ?_
    refine C_ret ?_
    refine nx_ret ?_
    exact ⟨.inr rfl, _, resL_one (r_tmp (v := .b true) rfl), rfl⟩
  ·
    simp only [decide_eq_true_eq, decide_eq_false_iff_not, Bool.not_eq_true', Bool.not_eq_false', Bool.and_eq_true, Bool.or_eq_true, Bool.or_eq_false_iff, Bool.not_not] at hc4
    refine C_skip ?_
    refine C_seq ?_
    refine C_region ?_
    refine O_p (.sl ba b.length bc 0) (r_mv rfl) ?_
    refine O_call (Ev.mono (dec_ev hO0.ok (htb.kp hok hO0) (.inl rfl) (bhb.old hok hO0) (by first | omega | (simp only [List.length_take, List.length_drop, List.length_append, List.length_cons, List.length_nil, beN_len] <;> omega)) (by first | omega | (simp only [List.length_take, List.length_drop, List.length_append, List.length_cons, List.length_nil, beN_len] <;> omega)) (by first | omega | (simp only [List.length_take, List.length_drop, List.length_append, List.length_cons, List.length_nil, beN_len] <;> omega))) fun v5 H6 hq7 => ?_)
    obtain ⟨rfl, hK8⟩ := hq7
    have hx_hK8 := hK8.next
    have hO9 := hO0.trans hK8
    have hx_hO9 := hO9.next
    refine O_p (.tup [(.agg [(.i .u8 (dK b)), (.i .u16 (dP b)), (.i .u32 (dL b)), (.s (txt (dT b))), (.s (txt (dO b)))]), (.i .i64 (dErr b))]) (r_mv rfl) ?_
    refine O_p (.agg [(.i .u8 (dK b)), (.i .u16 (dP b)), (.i .u32 (dL b)), (.s (txt (dT b))), (.s (txt (dO b)))]) (r_ext rfl rfl) ?_
    refine O_p (.i .i64 (dErr b)) (r_ext rfl rfl) ?_
    refine O_alloc fun n10 H11 hN12 => ?_
    have hF13 := hN12.fr (fun _ => False)
    have hO14 := hO9.new hN12
    have hx_hO14 := hO14.next
    have hnm_n10 : n10 = H6.next := hN12.1
    have hnx_H11 : H11.next = H6.next + 1 := hN12.2.1
    have hlt_n10 : n10 < H11.next := by omega
    refine O_store (vs := [(.i .u8 (dK b)), (.i .u16 (dP b)), (.i .u32 (dL b)), (.s (txt (dT b))), (.s (txt (dO b)))]) (c' := [(.i .u8 (dK b)), (.i .u16 (dP b)), (.i .u32 (dL b)), (.s (txt (dT b))), (.s (txt (dO b)))]) rfl (by rfl) hN12.2.2.1 rfl (List.cons_ne_nil _ _) (Nat.le_of_ble_eq_true rfl) rfl fun H15 hW16 => ?_
    have hO17 := hO14.wr hW16 (by omega) (by omega)
    have hx_hO17 := hO17.next
    have hnx_H15 : H15.next = H11.next := hW16.1
    have hlt_n10 : n10 < H15.next := by omega
    refine O_p (.i .i64 (dErr b)) (r_mv rfl) ?_
    refine O_nil ?_
    refine C_seq ?_
    refine C_region ?_
    refine O_p (.sl ba b.length bc 0) (r_mv rfl) ?_
    refine O_call (Ev.mono (rdec_ev hO17.ok (.inl rfl) (bhb.old hok hO17) (by first | omega | (simp only [List.length_take, List.length_drop, List.length_append, List.length_cons, List.length_nil, beN_len] <;> omega)) (by first | omega | (simp only [List.length_take, List.length_drop, List.length_append, List.length_cons, List.length_nil, beN_len] <;> omega))) fun v18 H19 hq20 => ?_)
    obtain ⟨rfl, hK21⟩ := hq20
    have hb22 := (hK21.keep _ (by omega)).trans hW16.2.1
    have hx_hK21 := hK21.next
    have hlt_n10 : n10 < H19.next := by omega
    have hO23 := hO17.trans hK21
    have hx_hO23 := hO23.next
    refine O_p (.tup [(.agg [(.i .u8 (dK b)), (.i .u16 (dP b)), (.i .u32 (dL b)), (.s (txt (dT b))), (.s (txt (dO b)))]), (.i .i64 (dErr b))]) (r_mv rfl) ?_
    refine O_p (.agg [(.i .u8 (dK b)), (.i .u16 (dP b)), (.i .u32 (dL b)), (.s (txt (dT b))), (.s (txt (dO b)))]) (r_ext rfl rfl) ?_
    refine O_p (.i .i64 (dErr b)) (r_ext rfl rfl) ?_
    refine O_alloc fun n24 H25 hN26 => ?_
    have hF27 := hN26.fr (fun _ => False)
    have hb28 := (hF27.keep _ (by exact hlt_n10) (fun h => h)).trans hb22
    have hO29 := hO23.new hN26
    have hx_hO29 := hO29.next
    have hnm_n24 : n24 = H19.next := hN26.1
    have hnx_H25 : H25.next = H19.next + 1 := hN26.2.1
    have hlt_n10 : n10 < H25.next := by omega
    have hlt_n24 : n24 < H25.next := by omega
    refine O_store (vs := [(.i .u8 (dK b)), (.i .u16 (dP b)), (.i .u32 (dL b)), (.s (txt (dT b))), (.s (txt (dO b)))]) (c' := [(.i .u8 (dK b)), (.i .u16 (dP b)), (.i .u32 (dL b)), (.s (txt (dT b))), (.s (txt (dO b)))]) rfl (by rfl) hN26.2.2.1 rfl (List.cons_ne_nil _ _) (Nat.le_of_ble_eq_true rfl) rfl fun H30 hW31 => ?_
    have hb32 := (hW31.2.2 _ (by omega)).trans hb28
    have hO33 := hO29.wr hW31 (by omega) (by omega)
    have hx_hO33 := hO33.next
    have hnx_H30 : H30.next = H25.next := hW31.1
    have hlt_n10 : n10 < H30.next := by omega
    have hlt_n24 : n24 < H30.next := by omega
    refine O_p (.i .i64 (dErr b)) (r_mv rfl) ?_
    refine O_nil ?_
    refine C_seq ?_
    refine C_region ?_
    refine O_p (.b true) (r_mv rfl) ?_
    refine O_p (.b true) (r_mv rfl) ?_
    refine O_gs (v := (.i .i64 (dErr b))) rfl (r_mv rfl) ?_
    refine O_gs (v := (.i .i64 (dErr b))) rfl (r_mv rfl) ?_
    refine O_gs (v := (.b true)) rfl (r_eqq rfl rfl) ?_
    refine O_p (.b true) (r_pick_t rfl rfl) ?_
    refine O_p (.b true) (r_mv rfl) ?_
    refine O_gs (v := (.agg [(.i .u8 (dK b)), (.i .u16 (dP b)), (.i .u32 (dL b)), (.s (txt (dT b))), (.s (txt (dO b)))])) rfl (r_ldA rfl hb32 rfl) ?_
    refine O_gs (v := (.agg [(.i .u8 (dK b)), (.i .u16 (dP b)), (.i .u32 (dL b)), (.s (txt (dT b))), (.s (txt (dO b)))])) rfl (r_ldA rfl hW31.2.1 rfl) ?_
    refine O_gcall rfl (Ev.mono (alike_ev hO33.ok (dK b) (dP b) (dL b) (dT b) (dO b)) fun v34 H35 hq36 => ?_)
    obtain ⟨rfl, hK37⟩ := hq36
    have hb38 := (hK37.keep _ (by omega)).trans hb32
    have hb39 := (hK37.keep _ (by omega)).trans hW31.2.1
    have hx_hK37 := hK37.next
    have hlt_n10 : n10 < H35.next := by omega
    have hlt_n24 : n24 < H35.next := by omega
    have hO40 := hO33.trans hK37
    have hx_hO40 := hO40.next
    refine O_p (.b true) (r_pick_t rfl rfl) ?_
    refine O_p (.b true) (r_mv rfl) ?_
    refine O_nil ?_
    refine C_ret ?_
    exact ⟨.inr rfl, _, resL_one (r_tmp (v := .b true) rfl), rfl⟩
set_option maxRecDepth 100000 in
theorem law4 (W : World) (ρ : Rho) (H : AH) (xs : List AV) (args : Array Value) (hR : Rel Tryd.prog W.heap.size W ρ H W) (hro : RO H) (hT : ∀ n b, tabs0.get n = some b → H.get n = some b) (hv : VRL ρ xs args.toList) (ht : TypedVs Tryd.prog H 9 Tryd.f4.params.toList xs) :
    Calls Tryd.prog 4 args W fun e w' => e = .returned (.bool true) ∧ Below W.heap.size W w' := by
  rw [Tryd.params4] at ht
  obtain ⟨a0, xs, rfl, g0, rfl⟩ := ht
  obtain ⟨ba, bn, bc, b, rfl, bhb, rfl, bhc, bhm⟩ := typed_bytes Tryd.underlying27 Tryd.underlying5 (by kernel_rfl) (typedV_slice Tryd.underlying27 g0)
  obtain ⟨k, v, H', hex, rfl⟩ := run4 H hR.aok (Tb.of hT) ba bc b bhb bhc bhm
  exact law_of mixed tabV_ok spV_ok hex hR hv
end Go.Proofs.YtfhbdddjclodhaaDoor.E
namespace Go.Proofs.YtfhbdddjclodhaaDoor.dcepDecodes
open Go.ChangeShapes Go.WideShapes Go.RowKit Go.ChangeAt
set_option linter.unusedVariables false
theorem types : (Tryd.f4.params.toList.all fun t => E.fit Tryd.prog 9 t && (Tryd.prog.readableRec t && decide (t < Tryd.prog.types.size))) = true := by kernel_rfl
set_option maxRecDepth 100000 in
theorem lifted (os : Os) (started : os.Started) (H : Type) (enc : TypeId × Value → H) :
    ReturnsInHanded {} Tryd.checked os 4 .any (fun w args => (Rows.dcepDecodesSpec.pre enc Tryd.prog Tryd.f4 Rows.dcepDecodesRow.domain false w args ∧ laidMetH Tryd.prog E.laid18 w) ∧ sizedMet enc Tryd.prog Tryd.f4 (OpenSpec.ofChange Rows.dcepDecodesSpec) false w args) (Rows.dcepDecodesSpec.post enc Tryd.prog Tryd.f4 false true false false) :=
  E.law_liftedG (C := Tryd.checked) (k := 9) (tb := 4) (X := fun w => laidMetH Tryd.prog E.laid18 w) E.laid (fun _ _ hh h => h.of_heap hh) (fun W h => E.Rel.tabs E.globals2 (E.tabs18 h)) E.tabs0_ro E.own18 started (by kernel_rfl) Tryd.func4
    (ChangeSpec.witness_shaped (enc := enc) (C := Tryd.checked) (os := os) (X := fun w _ => laidMetH Tryd.prog E.laid18 w) false (World.laidAll Tryd.prog os E.laid18) #[.slice none 0 0] 8 (World.laidAll_os _ _ _)
      (World.shaped_of_ZipB (by kernel_rfl) (by kernel_rfl)) (by kernel_rfl) (by kernel_rfl) (by kernel_rfl)
      (by rw [MakeChecks.laidMetH_plain _ _ _ (by kernel_rfl)]; exact laidMet_laidAll _ (by kernel_rfl) (by kernel_rfl)))
    rfl rfl Tryd.underlying4 (fun t ht => by have h := List.all_eq_true.1 types t ht; simp only [Bool.and_eq_true, decide_eq_true_eq] at h; exact h)
    (fun ds hd => by
      rw [Tryd.params4] at hd
      match ds, hd with
      | [d0], _ => rfl) E.law4
theorem over : Rows.dcepDecodesRow.holds Tryd.pinned (OpenSpec.ofChange Rows.dcepDecodesSpec) :=
  OpenClaim.holds_of_wide 4 Tryd.f4 rfl rfl rfl rfl rfl rfl rfl ⟨rfl, rfl, rfl, rfl, rfl⟩ rfl rfl rfl rfl rfl (by kernel_rfl) Tryd.func4 (by kernel_rfl)
    (of_decide_eq_true (by kernel_rfl)) (by unfold Func.isWrapper; first | (rw [if_pos (by decide +kernel)]; kernel_rfl) | (rw [if_neg (by decide +kernel)]; exact ⟨rfl, rfl⟩))
    (fun os started H enc _ => lifted os started H enc)
theorem card : Claim7.holds Tryd.pinned (.plain (OpenSpec.ofChange Rows.dcepDecodesSpec)) Rows.dcepDecodesCard :=
  Claim7.holds_tied_plain_at .later [] [.data, .pinned] true (true, "840fe89f1718999666760e2798cb68f93cfa0fb72f9e95c902c9bbcf5ac830c4") false over (fun _ h => by cases h) (by kernel_rfl) (fun _ h => by cases h) dcepDecodes_row_tie rfl ⟨rfl, rfl⟩ (by kernel_rfl) rfl
    (fun f fn hf hfn => by
      obtain rfl : f = 4 := Option.some.inj ((show Tryd.prog.funcNamed "bollard/bollardlaw18.DcepDecodes" = some 4 by kernel_rfl).symm.trans hf) |>.symm
      obtain rfl : fn = Tryd.f4 := (Option.some.inj (Tryd.func4.symm.trans hfn)).symm
      exact ⟨by kernel_rfl, fun j t ht => by
        rw [Tryd.params4] at ht
        have hm : t ∈ [27] := by simpa using Array.mem_of_getElem? ht
        have hall : ([27].all fun u => !Tryd.prog.wantsStandIn u) = true := by kernel_rfl
        exact (show Tryd.prog.wantsStandIn t = false by simpa using List.all_eq_true.1 hall t hm)⟩)
    (by kernel_rfl)
end Go.Proofs.YtfhbdddjclodhaaDoor.dcepDecodes
namespace Go.Proofs.YtfhbdddjclodhaaDoor
/-- The card, under a short name, for the claim. -/
theorem dcepDecodes_holds : Rows.DcepDecodesCardSaid := dcepDecodes.card
#print axioms dcepDecodes_holds
end Go.Proofs.YtfhbdddjclodhaaDoor
