/- GapsNone, for every input, without conditions. -/
import Derived.Test.YtjheedfobmlalaaGG2
import Derived.Test.YtjheedfobmlalaaRows
import Derived.ProofKit
import Derived.OpenShut
namespace Go.Proofs.Ytjheedfobmlalaa.E
open Go.RowKit (Below)
set_option linter.unusedVariables false
set_option linter.unusedSimpArgs false
abbrev tabA := tabS
theorem tabA_ok : TabOK Try.prog tabA := tabS_ok
theorem fwdN_ev {H : AH} {R : HL} {n : Int} (hH0 : Hs H R) : Ev tabA spA (.fn (.func 20) [] []) [.p none, .i .u32 n] H (fun r H' => r = .tup [] ∧ Hs H' R) := by
  refine Ev_C (F := x20) rfl ?_
  refine C_seq ?_
  refine C_region ?_
  refine O_box (z := [(.p none)]) rfl fun n1 H2 hN3 => ?_
  have hH4 := hH0.new hN3
  refine O_nil ?_
  refine C_seq ?_
  refine C_seq ?_
  refine C_region ?_
  refine O_p (.p none) (r_ld rfl hH4.get0 rfl) ?_
  refine O_p (.b true) (r_nilq_n rfl) ?_
  refine O_p (.b true) (r_mv rfl) ?_
  refine O_gf rfl ?_
  refine O_gf rfl ?_
  refine O_gf rfl ?_
  refine O_p (.b true) (r_pick_t rfl rfl) ?_
  refine O_nil ?_
  refine C_cond (x := true) rfl (fun _ => ?_) (fun h => by cases h)
  refine C_ret ?_
  refine nx_ret ?_
  have hH5 := (hH4.sub0)
  exact ⟨.inr rfl, [], rfl, rfl, hH5⟩
set_option maxRecDepth 100000 in
theorem run6 (H0 : AH) (hok0 : H0.Ok) (x : Int) : Ev tabA spA (.fn (.func 6) [] []) [.i .u32 x] H0 (fun v _ => v = .b true) := by
  have hH0 : Hs H0 (allL H0 ++ []) := allL_hs hok0
  refine Ev_C (F := x6) rfl ?_
  refine C_seq ?_
  refine C_region ?_
  refine O_p (.b false) (r_mv rfl) ?_
  refine O_nil ?_
  refine C_seq ?_
  refine C_region ?_
  refine O_call (Ev.mono (awake_ev hH0) fun v1 H2 hq3 => ?_)
  obtain ⟨rfl, hH4⟩ := hq3
  refine O_p (.b true) (r_mv rfl) ?_
  refine O_nil ?_
  refine C_seq ?_
  refine C_region ?_
  refine O_p (.p none) (r_mv rfl) ?_
  refine O_nil ?_
  refine C_seq ?_
  refine C_region ?_
  refine O_p (.p none) (r_mv rfl) ?_
  refine O_p (.i .u32 x) (r_mv rfl) ?_
  refine O_call (Ev.mono (fwdN_ev hH4) fun v5 H6 hq7 => ?_)
  obtain ⟨rfl, hH8⟩ := hq7
  refine O_nil ?_
  refine C_seq ?_
  refine C_region ?_
  refine O_p (.b true) (r_mv rfl) ?_
  refine O_p (.b true) (r_mv rfl) ?_
  refine O_gk rfl ?_
  refine O_p (.p none) (r_mv rfl) ?_
  refine O_gk rfl ?_
  refine O_p (.i .u32 x) (r_mv rfl) ?_
  refine O_gk rfl ?_
  refine O_call (Ev.mono (addN_ev hH8).sp fun v9 H10 hq11 => ?_)
  obtain ⟨rfl, hH12⟩ := hq11
  refine O_gk rfl ?_
  refine O_p (.b true) (r_bin rfl rfl rfl) ?_
  refine O_p (.b true) (r_pick_t rfl rfl) ?_
  refine O_p (.b true) (r_mv rfl) ?_
  refine O_gk rfl ?_
  refine O_p (.p none) (r_mv rfl) ?_
  refine O_gk rfl ?_
  refine O_p (.i .u32 x) (r_mv rfl) ?_
  refine O_gk rfl ?_
  refine O_call (Ev.mono (hasN_ev hH12).sp fun v13 H14 hq15 => ?_)
  obtain ⟨rfl, hH16⟩ := hq15
  refine O_gk rfl ?_
  refine O_p (.b true) (r_un rfl rfl) ?_
  refine O_p (.b true) (r_pick_t rfl rfl) ?_
  refine O_p (.b true) (r_mv rfl) ?_
  refine O_gk rfl ?_
  refine O_p (.p none) (r_mv rfl) ?_
  refine O_gk rfl ?_
  refine O_call (Ev.mono (cumN_ev hH16).sp fun v17 H18 hq19 => ?_)
  obtain ⟨rfl, hH20⟩ := hq19
  refine O_gk rfl ?_
  refine O_p (.b true) (r_eqq rfl rfl) ?_
  refine O_p (.b true) (r_pick_t rfl rfl) ?_
  refine O_p (.b true) (r_mv rfl) ?_
  refine O_gk rfl ?_
  refine O_p (.p none) (r_mv rfl) ?_
  refine O_gk rfl ?_
  refine O_call (Ev.mono (blocksN_ev hH20) fun v21 H22 hq23 => ?_)
  obtain ⟨rfl, hH24⟩ := hq23
  refine O_gk rfl ?_
  refine O_p (.i .i64 0) (r_len rfl) ?_
  refine O_gk rfl ?_
  refine O_p (.b true) (r_bin rfl rfl rfl) ?_
  refine O_p (.b true) (r_pick_t rfl rfl) ?_
  refine O_p (.b true) (r_mv rfl) ?_
  refine O_gk rfl ?_
  refine O_p (.p none) (r_mv rfl) ?_
  refine O_gk rfl ?_
  refine O_call (Ev.mono (dupsN_ev hH24).sp fun v25 H26 hq27 => ?_)
  obtain ⟨rfl, hH28⟩ := hq27
  refine O_gk rfl ?_
  refine O_p (.i .i64 0) (r_len rfl) ?_
  refine O_gk rfl ?_
  refine O_p (.b true) (r_bin rfl rfl rfl) ?_
  refine O_p (.b true) (r_pick_t rfl rfl) ?_
  refine O_p (.b true) (r_mv rfl) ?_
  refine O_gk rfl ?_
  refine O_p (.p none) (r_mv rfl) ?_
  refine O_gk rfl ?_
  refine O_call (Ev.mono (lenN_ev hH28).sp fun v29 H30 hq31 => ?_)
  obtain ⟨rfl, hH32⟩ := hq31
  refine O_gk rfl ?_
  refine O_p (.b true) (r_bin rfl rfl rfl) ?_
  refine O_p (.b true) (r_pick_t rfl rfl) ?_
  refine O_p (.b true) (r_mv rfl) ?_
  refine O_nil ?_
  refine C_ret ?_
  exact ⟨.inr rfl, _, resL_one (r_tmp (v := (.b true)) rfl), rfl⟩
set_option maxRecDepth 100000 in
theorem law6 (W : World) (ρ : Rho) (H : AH) (xs : List AV) (args : Array Value) (hR : Rel Try.prog W.heap.size W ρ H W) (hro : RO H) (hv : VRL ρ xs args.toList) (ht : TypedVs Try.prog H 9 Try.f6.params.toList xs) :
    Calls Try.prog 6 args W fun e w' => e = .returned (.bool true) ∧ Below W.heap.size W w' := by
  rw [Try.params6] at ht
  obtain ⟨a0, xs, rfl, g0, rfl⟩ := ht
  obtain ⟨x, rfl, wx⟩ := typedV_int Try.underlying22 g0
  obtain ⟨k, v, H', hex, rfl⟩ := run6 H hR.aok x
  exact law_of mixed tabA_ok spA_ok hex hR hv
end Go.Proofs.Ytjheedfobmlalaa.E
namespace Go.Proofs.Ytjheedfobmlalaa.gapsNone
open Go.ChangeShapes Go.WideShapes Go.RowKit
set_option linter.unusedVariables false
theorem own : ownKnob Try.prog.godebug = none := by kernel_rfl
theorem types : (Try.f6.params.toList.all fun t => E.fit Try.prog 9 t && (Try.prog.readableRec t && decide (t < Try.prog.types.size))) = true := by kernel_rfl
set_option maxRecDepth 100000 in
theorem lifted (os : Os) (started : os.Started) (H : Type) (enc : TypeId × Value → H) :
    ReturnsInHanded {} Try.checked os 6 .any (Rows.gapsNoneSpec.pre6 enc Try.prog Try.f6 Rows.gapsNoneRow.domain false) (Rows.gapsNoneSpec.post enc Try.prog Try.f6 false true false false) :=
  E.law_lifted (C := Try.checked) (k := 9) (tb := 4) E.globals0 E.laid own started (by kernel_rfl) Try.func6
    (ChangeSpec.witness6 (enc := enc) (C := Try.checked) false ⟨#[], #[.int .u32 0], []⟩ 8 (by kernel_rfl) (by kernel_rfl) (by kernel_rfl) (by kernel_rfl))
    rfl rfl Try.underlying4 (fun t ht => by have h := List.all_eq_true.1 types t ht; simp only [Bool.and_eq_true, decide_eq_true_eq] at h; exact h)
    (fun ds hd => by
      rw [Try.params6] at hd
      match ds, hd with
      | [d0], _ => rfl) E.law6
theorem over : Rows.gapsNoneRow.holds Try.pinned (OpenSpec.ofChange Rows.gapsNoneSpec) :=
  OpenClaim.holds_of_wide 6 Try.f6 rfl rfl rfl rfl rfl rfl rfl ⟨rfl, rfl, rfl, rfl, rfl⟩ rfl rfl rfl rfl rfl (by kernel_rfl) Try.func6 (by kernel_rfl)
    (of_decide_eq_true (by kernel_rfl)) (by unfold Func.isWrapper; first | (rw [if_pos (by decide +kernel)]; kernel_rfl) | (rw [if_neg (by decide +kernel)]; exact ⟨rfl, rfl⟩))
    (fun os started H enc _ => lifted os started H enc)
end Go.Proofs.Ytjheedfobmlalaa.gapsNone
namespace Go.Proofs.Ytjheedfobmlalaa
/-- The row, under a short name, for the claim. -/
theorem gapsNone_holds : Rows.GapsNoneSaid := gapsNone.over
#print axioms gapsNone_holds
end Go.Proofs.Ytjheedfobmlalaa
