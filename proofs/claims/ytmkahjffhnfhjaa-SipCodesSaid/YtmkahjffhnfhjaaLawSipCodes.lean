/- SipCodes, for every input, without conditions. -/
import Derived.Test.YtmkahjffhnfhjaaB
import Derived.Test.YtmkahjffhnfhjaaRows
import Derived.ProofKit
import Derived.OpenShut
namespace Go.Proofs.Ytmkahjffhnfhjaa.E
open Go.RowKit (Below)
set_option linter.unusedVariables false
set_option linter.unusedSimpArgs false
theorem run4 (H : AH) (hok : H.Ok) (ka : Option (Nat × Nat)) (kcap : Nat) (key : List UInt8) (hk : Bs H (.sl ka key.length kcap 0) key) (hkc : key.length ≤ kcap) (hkm0 : kcap ≤ maxLen) (a : Option (Nat × Nat)) (cap : Nat) (l : List UInt8) (hb : Bs H (.sl a l.length cap 0) l) (hc : l.length ≤ cap) (hm0 : cap ≤ maxLen) : Ev tabA spA (.fn (.func 4) [] []) [.sl ka key.length kcap 0, .sl a l.length cap 0] H (fun v _ => v = .b true) := by
  refine Ev_C (F := x4) rfl ?_
  have hO0 := Old.refl hok
  have hkm : kcap ≤ 9223372036854775807 := hkm0
  have hm : cap ≤ 9223372036854775807 := hm0
  refine C_seq ?_
  refine C_region ?_
  refine O_p (.b false) (r_mv rfl) ?_
  refine O_nil ?_
  refine C_seq ?_
  refine C_region ?_
  refine O_call (Ev_sp (v := (.b true)) rfl rfl ?_)
  refine O_p (.b true) (r_mv rfl) ?_
  refine O_nil ?_
  refine C_seq ?_
  refine C_seq ?_
  refine C_region ?_
  refine O_p (.sl a l.length cap 0) (r_mv rfl) ?_
  refine O_p (.i .i64 (((l.length : Nat)) : Int)) (r_len rfl) ?_
  refine O_p (.b (decide (3000 < (((l.length : Nat)) : Int)))) (r_gtr rfl rfl) ?_
  refine O_p (.b (decide (3000 < (((l.length : Nat)) : Int)))) (r_mv rfl) ?_
  refine O_gx (e := (!(decide (3000 < (((l.length : Nat)) : Int))))) (v := (.sl ka key.length kcap 0)) (wf rfl) (fun he => (r_mv rfl)) ?_
  refine O_gx (e := (!(decide (3000 < (((l.length : Nat)) : Int))))) (v := (.i .i64 (((key.length : Nat)) : Int))) (wf rfl) (fun he => (r_len (cond_pos he))) ?_
  refine O_gx (e := (!(decide (3000 < (((l.length : Nat)) : Int))))) (v := (.b (decide (300 < (((key.length : Nat)) : Int))))) (wf rfl) (fun he => (r_gtr (cond_pos he) rfl)) ?_
  refine O_p (.b ((decide (3000 < (((l.length : Nat)) : Int))) || (decide (300 < (((key.length : Nat)) : Int))))) (r_pick_or rfl rfl rfl rfl) ?_
  refine O_nil ?_
  refine C_cond (x := ((decide (3000 < (((l.length : Nat)) : Int))) || (decide (300 < (((key.length : Nat)) : Int))))) rfl (fun hc1 => ?_) (fun hc1 => ?_)
  ·
    simp only [decide_eq_true_eq, decide_eq_false_iff_not, Bool.not_eq_true', Bool.not_eq_false', Bool.and_eq_true, Bool.or_eq_true, Bool.or_eq_false_iff, Bool.not_not] at hc1
    refine C_seq ?_
    refine C_region ?_
    refine O_p (.b true) (r_mv rfl) ?_
    refine O_p (.b true) (r_mv rfl) ?_
    refine O_nil ?_
    refine C_ret ?_
    refine nx_ret ?_
    exact ⟨.inr rfl, _, resL_one (r_tmp (v := (.b true)) rfl), by simp [resV]⟩
  ·
    simp only [decide_eq_true_eq, decide_eq_false_iff_not, Bool.not_eq_true', Bool.not_eq_false', Bool.and_eq_true, Bool.or_eq_true, Bool.or_eq_false_iff, Bool.not_not] at hc1
    refine C_skip ?_
    refine C_seq ?_
    refine C_region ?_
    refine O_p (.sl ka key.length kcap 0) (r_mv rfl) ?_
    refine O_p (.sl a l.length cap 0) (r_mv rfl) ?_
    refine O_call (Ev.mono (code10 hO0.ok (.inl rfl) (hk.old hok hO0) (by omega) (by omega) (.inl rfl) (hb.old hok hO0) (by first | omega | (simp only [List.length_take, List.length_drop]; omega)) (by first | omega | (simp only [List.length_take, List.length_drop]; omega)) (by first | omega | (simp only [List.length_take, List.length_drop]; omega))) fun v2 H3 hq4 => ?_)
    obtain ⟨rfl, hK5⟩ := hq4
    have hx_hK5 := hK5.next
    have hO6 := hO0.trans hK5
    have hx_hO6 := hO6.next
    refine O_p (.tup [(.i .u64 (if (key).length = 16 then code key l else 0)), (.b (decide ((key).length = 16)))]) (r_mv rfl) ?_
    refine O_p (.i .u64 (if (key).length = 16 then code key l else 0)) (r_ext rfl rfl) ?_
    refine O_p (.b (decide ((key).length = 16))) (r_ext rfl rfl) ?_
    refine O_p (.i .u64 (if (key).length = 16 then code key l else 0)) (r_mv rfl) ?_
    refine O_p (.b (decide ((key).length = 16))) (r_mv rfl) ?_
    refine O_nil ?_
    refine C_seq ?_
    refine C_region ?_
    refine O_p (.sl ka key.length kcap 0) (r_mv rfl) ?_
    refine O_p (.sl a l.length cap 0) (r_mv rfl) ?_
    refine O_call (Ev.mono (code11 hO6.ok (.inl rfl) (hk.old hok hO6) (by omega) (by omega) (.inl rfl) (hb.old hok hO6) (by first | omega | (simp only [List.length_take, List.length_drop]; omega)) (by first | omega | (simp only [List.length_take, List.length_drop]; omega)) (by first | omega | (simp only [List.length_take, List.length_drop]; omega))) fun v7 H8 hq9 => ?_)
    obtain ⟨rfl, hK10⟩ := hq9
    have hx_hK10 := hK10.next
    have hO11 := hO6.trans hK10
    have hx_hO11 := hO11.next
    refine O_p (.tup [(.i .u64 (if (key).length = 16 then code key l else 0)), (.b (decide ((key).length = 16)))]) (r_mv rfl) ?_
    refine O_p (.i .u64 (if (key).length = 16 then code key l else 0)) (r_ext rfl rfl) ?_
    refine O_p (.b (decide ((key).length = 16))) (r_ext rfl rfl) ?_
    refine O_p (.i .u64 (if (key).length = 16 then code key l else 0)) (r_mv rfl) ?_
    refine O_p (.b (decide ((key).length = 16))) (r_mv rfl) ?_
    refine O_nil ?_
    refine C_seq ?_
    refine C_region ?_
    refine O_p (.b true) (r_mv rfl) ?_
    refine O_p (.b true) (r_mv rfl) ?_
    refine O_gs (v := (.i .u64 (if (key).length = 16 then code key l else 0))) rfl (r_mv rfl) ?_
    refine O_gs (v := (.i .u64 (if (key).length = 16 then code key l else 0))) rfl (r_mv rfl) ?_
    refine O_gs (v := (.b (decide ((if (key).length = 16 then code key l else 0) = (if (key).length = 16 then code key l else 0))))) rfl (r_eql rfl rfl) ?_
    refine O_p (.b (decide ((if (key).length = 16 then code key l else 0) = (if (key).length = 16 then code key l else 0)))) (r_pick_t rfl rfl) ?_
    refine O_p (.b (decide ((if (key).length = 16 then code key l else 0) = (if (key).length = 16 then code key l else 0)))) (r_mv rfl) ?_
    refine O_gx (e := (decide ((if (key).length = 16 then code key l else 0) = (if (key).length = 16 then code key l else 0)))) (v := (.b (decide ((key).length = 16)))) (wt rfl) (fun he => (r_mv rfl)) ?_
    refine O_gx (e := (decide ((if (key).length = 16 then code key l else 0) = (if (key).length = 16 then code key l else 0)))) (v := (.b (decide ((key).length = 16)))) (wt rfl) (fun he => (r_mv rfl)) ?_
    refine O_gx (e := (decide ((if (key).length = 16 then code key l else 0) = (if (key).length = 16 then code key l else 0)))) (v := (.b ((decide ((key).length = 16)) == (decide ((key).length = 16))))) (wt rfl) (fun he => (r_beq (cond_pos he) (cond_pos he))) ?_
    refine O_p (.b ((decide ((if (key).length = 16 then code key l else 0) = (if (key).length = 16 then code key l else 0))) && ((decide ((key).length = 16)) == (decide ((key).length = 16))))) (r_pick_and rfl rfl rfl rfl) ?_
    refine O_p (.b ((decide ((if (key).length = 16 then code key l else 0) = (if (key).length = 16 then code key l else 0))) && ((decide ((key).length = 16)) == (decide ((key).length = 16))))) (r_mv rfl) ?_
    refine O_nil ?_
    refine C_ret ?_
    exact ⟨.inr rfl, _, resL_one (r_tmp (v := (.b ((decide ((if (key).length = 16 then code key l else 0) = (if (key).length = 16 then code key l else 0))) && ((decide ((key).length = 16)) == (decide ((key).length = 16)))))) rfl), by simp [resV]⟩
theorem law4 (W : World) (ρ : Rho) (H : AH) (xs : List AV) (args : Array Value) (hR : Rel Try.prog W.heap.size W ρ H W) (hro : RO H) (hv : VRL ρ xs args.toList) (ht : TypedVs Try.prog H 9 Try.f4.params.toList xs) :
    Calls Try.prog 4 args W fun e w' => e = .returned (.bool true) ∧ Below W.heap.size W w' := by
  rw [Try.params4] at ht
  obtain ⟨a0, xs, rfl, h0, a1, xs, rfl, h1, rfl⟩ := ht
  obtain ⟨p0, n0, c0, key, rfl, hb0, rfl, hc0, hm0⟩ := typed_bytes Try.underlying29 Try.underlying5 (by kernel_rfl) (typedV_slice Try.underlying29 h0)
  obtain ⟨p1, n1, c1, l, rfl, hb1, rfl, hc1, hm1⟩ := typed_bytes Try.underlying29 Try.underlying5 (by kernel_rfl) (typedV_slice Try.underlying29 h1)
  obtain ⟨k, v, H', hex, rfl⟩ := run4 H hR.aok p0 c0 key hb0 hc0 hm0 p1 c1 l hb1 hc1 hm1
  exact law_of mixed tabA_ok spA_ok hex hR hv
end Go.Proofs.Ytmkahjffhnfhjaa.E
namespace Go.Proofs.Ytmkahjffhnfhjaa.sipCodes
open Go.ChangeShapes Go.WideShapes Go.RowKit
set_option linter.unusedVariables false
theorem own : ownKnob Try.prog.godebug = none := by kernel_rfl
theorem types : (Try.f4.params.toList.all fun t => E.fit Try.prog 9 t && (Try.prog.readableRec t && decide (t < Try.prog.types.size))) = true := by kernel_rfl
set_option maxRecDepth 100000 in
theorem lifted (os : Os) (started : os.Started) (H : Type) (enc : TypeId × Value → H) :
    ReturnsInHanded {} Try.checked os 4 .any (Rows.sipCodesSpec.pre6 enc Try.prog Try.f4 Rows.sipCodesRow.domain false) (Rows.sipCodesSpec.post enc Try.prog Try.f4 false true false false) :=
  E.law_lifted (C := Try.checked) (k := 9) (tb := 4) E.globals0 E.laid own started (by kernel_rfl) Try.func4
    (ChangeSpec.witness6 (enc := enc) (C := Try.checked) false ⟨#[], #[.slice none 0 0, .slice none 0 0], []⟩ 8 (by kernel_rfl) (by kernel_rfl) (by kernel_rfl) (by kernel_rfl))
    rfl rfl Try.underlying4 (fun t ht => by have h := List.all_eq_true.1 types t ht; simp only [Bool.and_eq_true, decide_eq_true_eq] at h; exact h)
    (fun ds hd => by
      rw [Try.params4] at hd
      match ds, hd with
      | [d0, d1], _ => rfl) E.law4
theorem over : Rows.sipCodesRow.holds Try.pinned (OpenSpec.ofChange Rows.sipCodesSpec) :=
  OpenClaim.holds_of_wide 4 Try.f4 rfl rfl rfl rfl rfl rfl rfl ⟨rfl, rfl, rfl, rfl, rfl⟩ rfl rfl rfl rfl rfl (by kernel_rfl) Try.func4 (by kernel_rfl)
    (of_decide_eq_true (by kernel_rfl)) (by unfold Func.isWrapper; first | (rw [if_pos (by decide +kernel)]; kernel_rfl) | (rw [if_neg (by decide +kernel)]; exact ⟨rfl, rfl⟩))
    (fun os started H enc _ => lifted os started H enc)
end Go.Proofs.Ytmkahjffhnfhjaa.sipCodes
namespace Go.Proofs.Ytmkahjffhnfhjaa
/-- The row, under a short name, for the claim. -/
theorem sipCodes_holds : Rows.SipCodesSaid := sipCodes.over
#print axioms sipCodes_holds
end Go.Proofs.Ytmkahjffhnfhjaa
