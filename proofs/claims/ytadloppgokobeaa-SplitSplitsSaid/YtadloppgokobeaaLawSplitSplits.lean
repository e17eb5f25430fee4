/- SplitSplits, for every input, without conditions. -/
import Derived.Test.YtadloppgokobeaaQ
import Derived.Test.YtadloppgokobeaaRows
import Derived.ProofKit
import Derived.OpenShut
namespace Go.Proofs.Ytadloppgokobeaa.E
open Go.RowKit (Below)
set_option linter.unusedVariables false
set_option linter.unusedSimpArgs false
set_option maxRecDepth 100000 in
set_option maxHeartbeats 1000000 in
theorem run3 (H0 : AH) (hok0 : H0.Ok) (ao ap : Int) (au : Bool) (ada : Option (Nat × Nat)) (adc : Nat) (ad : List UInt8) (ahb : Bs H0 (.sl ada ad.length adc 0) ad) (ahc : ad.length ≤ adc) (ahm : adc ≤ maxLen) (tsn ssn most : Int) : Ev tabA spA (.fn (.func 3) [] []) [.agg [.i .u16 ao, .b au, .i .u32 ap, .sl ada ad.length adc 0], .i .u32 tsn, .i .u16 ssn, .i .i64 most] H0 (fun v _ => v = .b true) := by
  have hH0 := allL_hs hok0
  have aB : ∀ H', Hs H' (allL H0) → Bs H' (.sl ada ad.length adc 0) ad := fun H' hh => Bs.ro (R := []) ahb hok0 (by rw [List.append_nil]; exact hh)
  refine Ev_C (F := x3) rfl ?_
  refine C_seq ?_
  refine C_region ?_
  refine O_box (z := [(.i .u16 ao), (.b au), (.i .u32 ap), (.sl ada ad.length adc 0)]) rfl fun n1 H2 hN3 => ?_
  have hH4 := hH0.new hN3
  refine O_p (.b false) (r_mv rfl) ?_
  refine O_nil ?_
  refine C_seq ?_
  refine C_region ?_
  refine O_call (Ev_sp (v := (.b true)) rfl rfl ?_)
  refine O_p (.b true) (r_mv rfl) ?_
  refine O_nil ?_
  refine C_seq ?_
  refine C_seq ?_
  refine C_region ?_
  refine O_p (.p (some (n1, 3))) (r_fadd' rfl rfl) ?_
  refine O_p (.sl ada ad.length adc 0) (r_ld rfl hH4.get0 rfl) ?_
  refine O_p (.i .i64 (((ad.length : Nat)) : Int)) (r_len rfl) ?_
  refine O_p (.b (decide (2000 < (((ad.length : Nat)) : Int)))) (r_gtr rfl rfl) ?_
  refine O_p (.b (decide (2000 < (((ad.length : Nat)) : Int)))) (r_mv rfl) ?_
  refine O_gx (e := (decide (2000 < (((ad.length : Nat)) : Int)))) (v := (.p (some (n1, 3)))) (wt rfl) (fun he => (r_fadd' rfl rfl)) ?_
  refine O_gx (e := (decide (2000 < (((ad.length : Nat)) : Int)))) (v := (.sl ada ad.length adc 0)) (wt rfl) (fun he => (r_ld (cond_pos he) hH4.get0 rfl)) ?_
  refine O_gx (e := (decide (2000 < (((ad.length : Nat)) : Int)))) (v := (.i .i64 (((ad.length : Nat)) : Int))) (wt rfl) (fun he => (r_len (cond_pos he))) ?_
  refine O_gx (e := (decide (2000 < (((ad.length : Nat)) : Int)))) (v := (.b (decide ((((ad.length : Nat)) : Int) ≤ 16384)))) (wt rfl) (fun he => (r_leq (cond_pos he) rfl)) ?_
  refine O_p (.b ((decide (2000 < (((ad.length : Nat)) : Int))) && (decide ((((ad.length : Nat)) : Int) ≤ 16384)))) (r_pick_and rfl rfl rfl rfl) ?_
  refine O_nil ?_
  refine C_cond (x := ((decide (2000 < (((ad.length : Nat)) : Int))) && (decide ((((ad.length : Nat)) : Int) ≤ 16384)))) rfl (fun hc5 => ?_) (fun hc5 => ?_)
  ·
    try simp only [decide_eq_true_eq, decide_eq_false_iff_not, Bool.not_eq_true', Bool.not_eq_false', Bool.and_eq_true, Bool.or_eq_true, Bool.or_eq_false_iff, Bool.not_not, Bool.and_eq_false_iff] at hc5
    refine C_seq ?_
    refine C_region ?_
    refine O_p (.b true) (r_mv rfl) ?_
    refine O_p (.b true) (r_mv rfl) ?_
    refine O_nil ?_
    refine C_ret ?_
    refine nx_ret ?_
    exact ⟨.inr rfl, _, resL_one (r_tmp (v := .b true) rfl), rfl⟩
  ·
    try simp only [decide_eq_true_eq, decide_eq_false_iff_not, Bool.not_eq_true', Bool.not_eq_false', Bool.and_eq_true, Bool.or_eq_true, Bool.or_eq_false_iff, Bool.not_not, Bool.and_eq_false_iff] at hc5
    refine C_skip ?_
    refine C_seq ?_
    refine C_region ?_
    refine O_p (.agg [(.i .u16 ao), (.b au), (.i .u32 ap), (.sl ada ad.length adc 0)]) (r_ldA rfl hH4.get0 rfl) ?_
    refine O_p (.i .u32 tsn) (r_mv rfl) ?_
    refine O_p (.i .u16 ssn) (r_mv rfl) ?_
    refine O_p (.i .i64 most) (r_mv rfl) ?_
    have hH6 := (hH4.top1)
    refine O_call (Ev.mono (split8_ev au ao ap tsn ssn most (.inl rfl) ahc (Nat.le_trans ahm (by decide)) aB hH6) fun v7 H8 hq9 => ?_)
    obtain ⟨D10, w11, rfl, hck12, hH13⟩ := hq9
    refine O_p (.tup [w11, (.i .i64 (splitE ad.length most))]) (r_mv rfl) ?_
    refine O_p w11 (r_ext rfl rfl) ?_
    refine O_p (.i .i64 (splitE ad.length most)) (r_ext rfl rfl) ?_
    refine O_p w11 (r_mv rfl) ?_
    refine O_p (.i .i64 (splitE ad.length most)) (r_mv rfl) ?_
    refine O_nil ?_
    refine C_seq ?_
    refine C_region ?_
    refine O_p (.agg [(.i .u16 ao), (.b au), (.i .u32 ap), (.sl ada ad.length adc 0)]) (r_ldA rfl hH13.get2 rfl) ?_
    refine O_p (.i .u32 tsn) (r_mv rfl) ?_
    refine O_p (.i .u16 ssn) (r_mv rfl) ?_
    refine O_p (.i .i64 most) (r_mv rfl) ?_
    have hH15 := (hH13.top1)
    refine O_call (Ev.mono (split9_ev au ao ap tsn ssn most (.inl rfl) ahc (Nat.le_trans ahm (by decide)) aB hH15) fun v16 H17 hq18 => ?_)
    obtain ⟨D19, w20, rfl, hck21, hH22⟩ := hq18
    refine O_p (.tup [w20, (.i .i64 (splitE ad.length most))]) (r_mv rfl) ?_
    refine O_p w20 (r_ext rfl rfl) ?_
    refine O_p (.i .i64 (splitE ad.length most)) (r_ext rfl rfl) ?_
    refine O_p w20 (r_mv rfl) ?_
    refine O_p (.i .i64 (splitE ad.length most)) (r_mv rfl) ?_
    refine O_nil ?_
    refine C_seq ?_
    refine C_region ?_
    refine O_p (.b true) (r_mv rfl) ?_
    refine O_p (.b true) (r_mv rfl) ?_
    refine O_gk rfl ?_
    refine O_p (.i .i64 (splitE ad.length most)) (r_mv rfl) ?_
    refine O_gk rfl ?_
    refine O_p (.i .i64 (splitE ad.length most)) (r_mv rfl) ?_
    refine O_gk rfl ?_
    refine O_p (.b true) (r_eqq rfl rfl) ?_
    refine O_p (.b true) (r_pick_t rfl rfl) ?_
    refine O_p (.b true) (r_mv rfl) ?_
    refine O_gk rfl ?_
    refine O_p w11 (r_mv rfl) ?_
    refine O_gk rfl ?_
    refine O_p w20 (r_mv rfl) ?_
    refine O_gk rfl ?_
    have hH24 := (((hH22.top1).top1).top2)
    have hH25 := hH24
    have hH26 : Hs H17 ((D10 ++ (D19 ++ (allL H0))) ++ ([(n1, some (.cells ([(.i .u16 ao), (.b au), (.i .u32 ap), (.sl ada ad.length adc 0)]) true))] ++ ([]))) := by have h := hH25; simpa only [List.append_assoc] using h
    refine O_call (Ev.mono (samechunks_ev (hck12.mono fun _ hh => hh.sub1) (hck21.mono fun _ hh => hh.sub) (by have h := splitL_len (fr := au) (o := ao) (p := ap) (tsn := tsn) (ssn := ssn) (most := most) (l := ad); omega) hH26) fun v27 H28 hq29 => ?_)
    obtain ⟨rfl, hH30⟩ := hq29
    refine O_p (.b true) (r_pick_t rfl rfl) ?_
    refine O_p (.b true) (r_mv rfl) ?_
    refine O_nil ?_
    refine C_ret ?_
    exact ⟨.inr rfl, _, resL_one (r_tmp (v := .b true) rfl), rfl⟩
set_option maxRecDepth 100000 in
theorem law3 (W : World) (ρ : Rho) (H : AH) (xs : List AV) (args : Array Value) (hR : Rel Try.prog W.heap.size W ρ H W) (hro : RO H) (hv : VRL ρ xs args.toList) (ht : TypedVs Try.prog H 9 Try.f3.params.toList xs) :
    Calls Try.prog 3 args W fun e w' => e = .returned (.bool true) ∧ Below W.heap.size W w' := by
  rw [Try.params3] at ht
  obtain ⟨a0, xs, rfl, g0, a1, xs, rfl, g1, a2, xs, rfl, g2, a3, xs, rfl, g3, rfl⟩ := ht
  obtain ⟨al, rfl, ag⟩ := typedV_struct Try.underlying26 g0
  obtain ⟨ahl, ahq⟩ := struct_parts (qs := [(22, 0, 1), (4, 1, 1), (23, 2, 1), (24, 3, 1)]) Try.underlying26 ag (by kernel_rfl)
  rw [show Try.prog.cellsOf 26 = 4 by kernel_rfl] at ahl
  obtain ⟨ax0, ax1, ax2, ax3, rfl⟩ : ∃ a b c d, al = [a, b, c, d] := by
    match al, ahl with
    | [a, b, c, d], _ => exact ⟨a, b, c, d, rfl⟩
  simp only [List.forall_mem_cons, List.drop_zero, List.drop_succ_cons, List.take_succ_cons, List.take_zero] at ahq
  obtain ⟨aq0, aq1, aq2, aq3, _⟩ := ahq
  obtain ⟨ao, ae0, aw0⟩ := typed_int Try.underlying22 aq0
  obtain ⟨au, ae1⟩ := typed_bool Try.underlying4 aq1
  obtain ⟨ap, ae2, aw2⟩ := typed_int Try.underlying23 aq2
  cases ae0; cases ae1; cases ae2
  obtain ⟨ada, adn, adc, ad, rfl, ahb, rfl, ahc, ahm⟩ := typed_bytes Try.underlying24 Try.underlying5 (by kernel_rfl) aq3
  obtain ⟨tsn, rfl, wtsn⟩ := typedV_int Try.underlying23 g1
  obtain ⟨ssn, rfl, wssn⟩ := typedV_int Try.underlying22 g2
  obtain ⟨most, rfl, wmost⟩ := typedV_int Try.underlying3 g3
  obtain ⟨k, v, H', hex, rfl⟩ := run3 H hR.aok ao ap au ada adc ad ahb ahc ahm tsn ssn most
  exact law_of mixed tabA_ok spA_ok hex hR hv
end Go.Proofs.Ytadloppgokobeaa.E
namespace Go.Proofs.Ytadloppgokobeaa.splitSplits
open Go.ChangeShapes Go.WideShapes Go.RowKit
set_option linter.unusedVariables false
theorem own : ownKnob Try.prog.godebug = none := by kernel_rfl
theorem types : (Try.f3.params.toList.all fun t => E.fit Try.prog 9 t && (Try.prog.readableRec t && decide (t < Try.prog.types.size))) = true := by kernel_rfl
set_option maxRecDepth 100000 in
theorem lifted (os : Os) (started : os.Started) (H : Type) (enc : TypeId × Value → H) :
    ReturnsInHanded {} Try.checked os 3 .any (Rows.splitSplitsSpec.pre6 enc Try.prog Try.f3 Rows.splitSplitsRow.domain false) (Rows.splitSplitsSpec.post enc Try.prog Try.f3 false true false false) :=
  E.law_lifted (C := Try.checked) (k := 9) (tb := 4) E.globals0 E.laid own started (by kernel_rfl) Try.func3
    (ChangeSpec.witness6 (enc := enc) (C := Try.checked) false ⟨#[], #[.agg #[.int .u16 0, .bool false, .int .u32 0, .slice none 0 0], .int .u32 0, .int .u16 0, .int .i64 0], []⟩ 8 (by kernel_rfl) (by kernel_rfl) (by kernel_rfl) (by kernel_rfl))
    rfl rfl Try.underlying4 (fun t ht => by have h := List.all_eq_true.1 types t ht; simp only [Bool.and_eq_true, decide_eq_true_eq] at h; exact h)
    (fun ds hd => by
      rw [Try.params3] at hd
      match ds, hd with
      | [d0, d1, d2, d3], _ => rfl) E.law3
theorem over : Rows.splitSplitsRow.holds Try.pinned (OpenSpec.ofChange Rows.splitSplitsSpec) :=
  OpenClaim.holds_of_wide 3 Try.f3 rfl rfl rfl rfl rfl rfl rfl ⟨rfl, rfl, rfl, rfl, rfl⟩ rfl rfl rfl rfl rfl (by kernel_rfl) Try.func3 (by kernel_rfl)
    (of_decide_eq_true (by kernel_rfl)) (by unfold Func.isWrapper; first | (rw [if_pos (by decide +kernel)]; kernel_rfl) | (rw [if_neg (by decide +kernel)]; exact ⟨rfl, rfl⟩))
    (fun os started H enc _ => lifted os started H enc)
end Go.Proofs.Ytadloppgokobeaa.splitSplits
namespace Go.Proofs.Ytadloppgokobeaa
/-- The row, under a short name, for the claim. -/
theorem splitSplits_holds : Rows.SplitSplitsSaid := splitSplits.over
#print axioms splitSplits_holds
end Go.Proofs.Ytadloppgokobeaa
