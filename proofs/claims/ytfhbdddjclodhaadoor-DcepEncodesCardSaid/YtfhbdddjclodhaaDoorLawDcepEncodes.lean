/- DcepEncodes, for every input, without conditions. -/
import Derived.Test.YtfhbdddjclodhaaDoorF
namespace Go.Proofs.YtfhbdddjclodhaaDoor.E
open Go.RowKit (Below)
open Go.Lib
set_option linter.unusedVariables false
set_option linter.unusedSimpArgs false
set_option maxRecDepth 100000 in
theorem run3 (H : AH) (hok : H.Ok) (htb : Tb H) (kind prio limit : Int) (label proto : List UInt8) (hk : 0 ≤ kind ∧ kind < 256) (hp : 0 ≤ prio ∧ prio < 65536) (hl : 0 ≤ limit ∧ limit < 4294967296) (hll : label.length ≤ maxLen) (hpl : proto.length ≤ maxLen) : Ev tabV spV (.fn (.func 3) [] []) [.agg [(.i .u8 kind), (.i .u16 prio), (.i .u32 limit), (.s (txt label)), (.s (txt proto))]] H (fun v _ => v = .b true) := by
  refine Ev_C (F := x3) rfl ?_
  have hO0 := Old.refl hok
  have hll' := hll
  have hpl' := hpl
  have hMx : maxLen ≤ 9223372036854775807 := by decide
  replace hll := Nat.le_trans hll hMx
  replace hpl := Nat.le_trans hpl hMx
  have hel := encR_len kind prio limit label proto
  refine C_seq ?_
  refine C_region ?_
  refine O_box (z := [(.i .u8 kind), (.i .u16 prio), (.i .u32 limit), (.s (txt label)), (.s (txt proto))]) rfl fun n1 H2 hN3 => ?_
  have hF4 := hN3.fr (fun _ => False)
  have hO5 := hO0.new hN3
  have hx_hO5 := hO5.next
  have hnm_n1 : n1 = H.next := hN3.1
  have hnx_H2 : H2.next = H.next + 1 := hN3.2.1
  have hlt_n1 : n1 < H2.next := by omega
  refine O_p (.b false) (r_mv rfl) ?_
  refine O_nil ?_
  refine C_seq ?_
  refine C_region ?_
  refine O_call (Ev.mono (awake_ev (htb.kp hok hO5)) fun v6 H7 hq8 => ?_)
  obtain ⟨rfl, hq8⟩ := hq8
  subst H7
  refine O_p (.b true) (r_mv rfl) ?_
  refine O_nil ?_
  refine C_seq ?_
  refine C_seq ?_
  refine C_region ?_
  refine O_p (.p (some (n1, 3))) (r_fadd' rfl rfl) ?_
  refine O_p (.s (txt label)) (r_ld rfl hN3.2.2.1 rfl) ?_
  refine O_p (.i .i64 ((((label).length : Nat)) : Int)) (r_lent (l := label) rfl) ?_
  refine O_p (.b (decide (1000 < ((((label).length : Nat)) : Int)))) (r_gtr rfl rfl) ?_
  refine O_p (.b (decide (1000 < ((((label).length : Nat)) : Int)))) (r_mv rfl) ?_
  refine O_gx (e := (!(decide (1000 < ((((label).length : Nat)) : Int))))) (v := (.p (some (n1, 4)))) (wf rfl) (fun he => (r_fadd' rfl rfl)) ?_
  refine O_gx (e := (!(decide (1000 < ((((label).length : Nat)) : Int))))) (v := (.s (txt proto))) (wf rfl) (fun he => (r_ld (cond_pos he) hN3.2.2.1 rfl)) ?_
  refine O_gx (e := (!(decide (1000 < ((((label).length : Nat)) : Int))))) (v := (.i .i64 ((((proto).length : Nat)) : Int))) (wf rfl) (fun he => (r_lent (l := proto) (cond_pos he))) ?_
  refine O_gx (e := (!(decide (1000 < ((((label).length : Nat)) : Int))))) (v := (.b (decide (1000 < ((((proto).length : Nat)) : Int))))) (wf rfl) (fun he => (r_gtr (cond_pos he) rfl)) ?_
  refine O_p (.b ((decide (1000 < ((((label).length : Nat)) : Int))) || (decide (1000 < ((((proto).length : Nat)) : Int))))) (r_pick_or rfl rfl rfl rfl) ?_
  refine O_nil ?_
  refine C_cond (x := ((decide (1000 < ((((label).length : Nat)) : Int))) || (decide (1000 < ((((proto).length : Nat)) : Int))))) rfl (fun hc9 => ?_) (fun hc9 => ?_)
  ·
    simp only [decide_eq_true_eq, decide_eq_false_iff_not, Bool.not_eq_true', Bool.not_eq_false', Bool.and_eq_true, Bool.or_eq_true, Bool.or_eq_false_iff, Bool.not_not] at hc9
    refine C_seq ?_
    refine C_region ?_
    refine O_p (.b true) (r_mv rfl) ?_
    refine O_p (.b true) (r_mv rfl) ?_
    refine O_nil ?_
    refine C_ret ?_
    refine nx_ret ?_
    exact ⟨.inr rfl, _, resL_one (r_tmp (v := .b true) rfl), rfl⟩
  ·
    simp only [decide_eq_true_eq, decide_eq_false_iff_not, Bool.not_eq_true', Bool.not_eq_false', Bool.and_eq_true, Bool.or_eq_true, Bool.or_eq_false_iff, Bool.not_not] at hc9
    refine C_skip ?_
    refine C_seq ?_
    refine C_region ?_
    refine O_p (.agg [(.i .u8 kind), (.i .u16 prio), (.i .u32 limit), (.s (txt label)), (.s (txt proto))]) (r_ldA rfl hN3.2.2.1 rfl) ?_
    refine O_call (Ev.mono (enc_ev hO5.ok (htb.kp hok hO5) kind prio limit label proto hk hp hl hll hpl) fun v10 H11 hq12 => ?_)
    obtain ⟨o13, rfl, hM14, hK15⟩ := hq12
    have hb16 := (hK15.keep _ (by omega)).trans hN3.2.2.1
    have hx_hK15 := hK15.next
    have hlt_n1 : n1 < H11.next := by omega
    have hO17 := hO5.trans hK15
    have hx_hO17 := hO17.next
    have hM18 := hM14.down (N := H.next) (by omega)
    have hd19 : ¬ o13.nameOf n1 := fun hq => by have := hM14.new _ hq; omega
    refine O_p (.tup [o13, (.i .i64 (encE kind label proto))]) (r_mv rfl) ?_
    refine O_p o13 (r_ext rfl rfl) ?_
    refine O_p (.i .i64 (encE kind label proto)) (r_ext rfl rfl) ?_
    refine O_p o13 (r_mv rfl) ?_
    refine O_p (.i .i64 (encE kind label proto)) (r_mv rfl) ?_
    refine O_nil ?_
    refine C_seq ?_
    refine C_region ?_
    refine O_p (.agg [(.i .u8 kind), (.i .u16 prio), (.i .u32 limit), (.s (txt label)), (.s (txt proto))]) (r_ldA rfl hb16 rfl) ?_
    refine O_call (Ev.mono (theirs_ev hO17.ok kind prio limit label proto) fun v20 H21 hq22 => ?_)
    obtain ⟨rfl, hK23⟩ := hq22
    have hb24 := (hK23.keep _ (by omega)).trans hb16
    have hx_hK23 := hK23.next
    have hlt_n1 : n1 < H21.next := by omega
    have hM25 := hM18.kp hK23
    have hO26 := hO17.trans hK23
    have hx_hO26 := hO26.next
    refine O_call (Ev.mono (renc_ev hO26.ok kind prio limit label proto hk hp hl) fun v27 H28 hq29 => ?_)
    obtain ⟨o30, rfl, hM31, hK32⟩ := hq29
    have hb33 := (hK32.keep _ (by omega)).trans hb24
    have hx_hK32 := hK32.next
    have hlt_n1 : n1 < H28.next := by omega
    have hM34 := hM25.kp hK32
    have hO35 := hO26.trans hK32
    have hx_hO35 := hO35.next
    have hM36 := hM31.down (N := H.next) (by omega)
    have hd37 : ¬ o30.nameOf n1 := fun hq => by have := hM31.new _ hq; omega
    refine O_p (.tup [o30, (.i .i64 (encE kind label proto))]) (r_mv rfl) ?_
    refine O_p o30 (r_ext rfl rfl) ?_
    refine O_p (.i .i64 (encE kind label proto)) (r_ext rfl rfl) ?_
    refine O_p o30 (r_mv rfl) ?_
    refine O_p (.i .i64 (encE kind label proto)) (r_mv rfl) ?_
    refine O_nil ?_
    refine C_seq ?_
    refine C_region ?_
    refine O_p (.b true) (r_mv rfl) ?_
    refine O_p (.b true) (r_mv rfl) ?_
    refine O_gs (v := (.i .i64 (encE kind label proto))) rfl (r_mv rfl) ?_
    refine O_gs (v := (.i .i64 (encE kind label proto))) rfl (r_mv rfl) ?_
    refine O_gs (v := (.b true)) rfl (r_eqq rfl rfl) ?_
    refine O_p (.b true) (r_pick_t rfl rfl) ?_
    refine O_p (.b true) (r_mv rfl) ?_
    refine O_gs (v := o13) rfl (r_mv rfl) ?_
    refine O_gs (v := o30) rfl (r_mv rfl) ?_
    have hsf42 : Own 1 H28 o13 (bcells (encR kind prio limit label proto)) := hM34.own
    obtain ⟨oa38, og39, rfl, hog40, hob41⟩ := hsf42.bs
    have base43 := Old.refl hO35.ok
    have hsf48 : Own 1 H28 o30 (bcells (encR kind prio limit label proto)) := hM36.own
    obtain ⟨oa44, og45, rfl, hog46, hob47⟩ := hsf48.bs
    have base49 := Old.refl hO35.ok
    refine O_gcall rfl (Ev.mono (same_ev hO35.ok hog40 (hM34.own.asbs) (by first | omega | (simp only [List.length_take, List.length_drop, List.length_append, List.length_cons, List.length_nil, beN_len] <;> omega)) (by first | omega | (simp only [List.length_take, List.length_drop, List.length_append, List.length_cons, List.length_nil, beN_len] <;> omega)) hog46 (hM36.own.asbs) (by first | omega | (simp only [List.length_take, List.length_drop, List.length_append, List.length_cons, List.length_nil, beN_len] <;> omega)) (by first | omega | (simp only [List.length_take, List.length_drop, List.length_append, List.length_cons, List.length_nil, beN_len] <;> omega))) fun v50 H51 hq52 => ?_)
    rw [show decide ((encR kind prio limit label proto) = (encR kind prio limit label proto)) = true from decide_eq_true rfl] at hq52
    obtain ⟨rfl, hq52⟩ := hq52
    subst H51
    refine O_p (.b true) (r_pick_t rfl rfl) ?_
    refine O_p (.b true) (r_mv rfl) ?_
    refine O_nil ?_
    refine C_ret ?_
    exact ⟨.inr rfl, _, resL_one (r_tmp (v := .b true) rfl), rfl⟩
set_option maxRecDepth 100000 in
theorem law3 (W : World) (ρ : Rho) (H : AH) (xs : List AV) (args : Array Value) (hR : Rel Tryd.prog W.heap.size W ρ H W) (hro : RO H) (hT : ∀ n b, tabs0.get n = some b → H.get n = some b) (hv : VRL ρ xs args.toList) (ht : TypedVs Tryd.prog H 9 Tryd.f3.params.toList xs) :
    Calls Tryd.prog 3 args W fun e w' => e = .returned (.bool true) ∧ Below W.heap.size W w' := by
  rw [Tryd.params3] at ht
  obtain ⟨a0, xs, rfl, g0, rfl⟩ := ht
  obtain ⟨l, rfl, g⟩ := typedV_struct Tryd.underlying25 g0
  obtain ⟨hl, hq⟩ := struct_parts (qs := [(5, 0, 1), (22, 1, 1), (23, 2, 1), (9, 3, 1), (9, 4, 1)]) Tryd.underlying25 g (by kernel_rfl)
  rw [show Tryd.prog.cellsOf 25 = 5 by kernel_rfl] at hl
  obtain ⟨x0, x1, x2, x3, x4, rfl⟩ : ∃ a b c d e, l = [a, b, c, d, e] := by
    match l, hl with
    | [a, b, c, d, e], _ => exact ⟨a, b, c, d, e, rfl⟩
  simp only [List.forall_mem_cons, List.drop_zero, List.drop_succ_cons, List.take_succ_cons, List.take_zero] at hq
  obtain ⟨q0, q1, q2, q3, q4, _⟩ := hq
  obtain ⟨kind, e0, w0⟩ := typed_int Tryd.underlying5 q0
  obtain ⟨prio, e1, w1⟩ := typed_int Tryd.underlying22 q1
  obtain ⟨limit, e2, w2⟩ := typed_int Tryd.underlying23 q2
  obtain ⟨ls, e3, w3⟩ := typed_string Tryd.underlying9 q3
  obtain ⟨pr, e4, w4⟩ := typed_string Tryd.underlying9 q4
  cases e0; cases e1; cases e2; cases e3; cases e4
  obtain ⟨label, rfl⟩ := txt_ex ls
  obtain ⟨proto, rfl⟩ := txt_ex pr
  rw [txt_size] at w3 w4
  obtain ⟨k, v, H', hex, rfl⟩ := run3 H hR.aok (Tb.of hT) kind prio limit label proto (wfU8 w0) (wfU16 w1) (wfU32 w2) w3 w4
  exact law_of mixed tabV_ok spV_ok hex hR hv
end Go.Proofs.YtfhbdddjclodhaaDoor.E
namespace Go.Proofs.YtfhbdddjclodhaaDoor.dcepEncodes
open Go.ChangeShapes Go.WideShapes Go.RowKit Go.ChangeAt
set_option linter.unusedVariables false
theorem types : (Tryd.f3.params.toList.all fun t => E.fit Tryd.prog 9 t && (Tryd.prog.readableRec t && decide (t < Tryd.prog.types.size))) = true := by kernel_rfl
set_option maxRecDepth 100000 in
theorem lifted (os : Os) (started : os.Started) (H : Type) (enc : TypeId × Value → H) :
    ReturnsInHanded {} Tryd.checked os 3 .any (fun w args => (Rows.dcepEncodesSpec.pre enc Tryd.prog Tryd.f3 Rows.dcepEncodesRow.domain false w args ∧ laidMetH Tryd.prog E.laid18 w) ∧ sizedMet enc Tryd.prog Tryd.f3 (OpenSpec.ofChange Rows.dcepEncodesSpec) false w args) (Rows.dcepEncodesSpec.post enc Tryd.prog Tryd.f3 false true false false) :=
  E.law_liftedG (C := Tryd.checked) (k := 9) (tb := 4) (X := fun w => laidMetH Tryd.prog E.laid18 w) E.laid (fun _ _ hh h => h.of_heap hh) (fun W h => E.Rel.tabs E.globals2 (E.tabs18 h)) E.tabs0_ro E.own18 started (by kernel_rfl) Tryd.func3
    (ChangeSpec.witness_shaped (enc := enc) (C := Tryd.checked) (os := os) (X := fun w _ => laidMetH Tryd.prog E.laid18 w) false (World.laidAll Tryd.prog os E.laid18) #[.agg #[.int .u8 0, .int .u16 0, .int .u32 0, .string .empty, .string .empty]] 8 (World.laidAll_os _ _ _)
      (World.shaped_of_ZipB (by kernel_rfl) (by kernel_rfl)) (by kernel_rfl) (by kernel_rfl) (by kernel_rfl)
      (by rw [MakeChecks.laidMetH_plain _ _ _ (by kernel_rfl)]; exact laidMet_laidAll _ (by kernel_rfl) (by kernel_rfl)))
    rfl rfl Tryd.underlying4 (fun t ht => by have h := List.all_eq_true.1 types t ht; simp only [Bool.and_eq_true, decide_eq_true_eq] at h; exact h)
    (fun ds hd => by
      rw [Tryd.params3] at hd
      match ds, hd with
      | [d0], _ => rfl) E.law3
theorem over : Rows.dcepEncodesRow.holds Tryd.pinned (OpenSpec.ofChange Rows.dcepEncodesSpec) :=
  OpenClaim.holds_of_wide 3 Tryd.f3 rfl rfl rfl rfl rfl rfl rfl ⟨rfl, rfl, rfl, rfl, rfl⟩ rfl rfl rfl rfl rfl (by kernel_rfl) Tryd.func3 (by kernel_rfl)
    (of_decide_eq_true (by kernel_rfl)) (by unfold Func.isWrapper; first | (rw [if_pos (by decide +kernel)]; kernel_rfl) | (rw [if_neg (by decide +kernel)]; exact ⟨rfl, rfl⟩))
    (fun os started H enc _ => lifted os started H enc)
theorem card : Claim7.holds Tryd.pinned (.plain (OpenSpec.ofChange Rows.dcepEncodesSpec)) Rows.dcepEncodesCard :=
  Claim7.holds_tied_plain_at .later [] [.data, .pinned] true (true, "840fe89f1718999666760e2798cb68f93cfa0fb72f9e95c902c9bbcf5ac830c4") false over (fun _ h => by cases h) (by kernel_rfl) (fun _ h => by cases h) dcepEncodes_row_tie rfl ⟨rfl, rfl⟩ (by kernel_rfl) rfl
    (fun f fn hf hfn => by
      obtain rfl : f = 3 := Option.some.inj ((show Tryd.prog.funcNamed "bollard/bollardlaw18.DcepEncodes" = some 3 by kernel_rfl).symm.trans hf) |>.symm
      obtain rfl : fn = Tryd.f3 := (Option.some.inj (Tryd.func3.symm.trans hfn)).symm
      exact ⟨by kernel_rfl, fun j t ht => by
        rw [Tryd.params3] at ht
        have hm : t ∈ [25] := by simpa using Array.mem_of_getElem? ht
        have hall : ([25].all fun u => !Tryd.prog.wantsStandIn u) = true := by kernel_rfl
        exact (show Tryd.prog.wantsStandIn t = false by simpa using List.all_eq_true.1 hall t hm)⟩)
    (by kernel_rfl)
end Go.Proofs.YtfhbdddjclodhaaDoor.dcepEncodes
namespace Go.Proofs.YtfhbdddjclodhaaDoor
/-- The card, under a short name, for the claim. -/
theorem dcepEncodes_holds : Rows.DcepEncodesCardSaid := dcepEncodes.card
#print axioms dcepEncodes_holds
end Go.Proofs.YtfhbdddjclodhaaDoor
