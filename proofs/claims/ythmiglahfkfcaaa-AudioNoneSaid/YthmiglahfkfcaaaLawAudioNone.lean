/- AudioNone, for every input, without conditions: nearly a closed call. -/
import Derived.Test.YthmiglahfkfcaaaX
import Derived.Test.YthmiglahfkfcaaaE25
import Derived.Test.YthmiglahfkfcaaaRows
import Derived.ProofKit
import Derived.OpenShut
namespace Go.Proofs.Ythmiglahfkfcaaa.E
open Go.RowKit (Below)
set_option linter.unusedVariables false
theorem globals0 : Try.prog.globals.size = 0 := by kernel_rfl
theorem mixed : Try.prog.follows .mixedOrders = true := by kernel_rfl
theorem laid : laidOutB Try.prog = true := by kernel_rfl
def tabA : Nat → Option XFun := fun g => if g = 8 then none else tab g
theorem tabA_ok : TabOK Try.prog tabA := fun g F h => by
  unfold tabA at h
  split at h
  · cases h
  · exact tab_ok g F h
def spA := withSp 8 [] (.b true) noSp
theorem spA_ok : SpOK Try.prog tabA spA := withSp_ok (k := 300) (f := 8) (args := []) (v := .b true) mixed globals0 tab_ok noSp_ok (by kernel_rfl) rfl rfl noSp_ok

theorem none_run (n a c d e : Int) (b : Bool) (p : Option (Nat × Nat)) (len cap : Nat) (bo : Option Blk) :
    Ev tabA spA (.fn (.func 5) [] []) [.i .i64 n, .agg [.b b, .i .u8 a, .i .u16 c, .i .u32 d, .i .u32 e, .sl p len cap 0]] ⟨[(0, bo)], 1⟩ (fun v _ => v = .b true) := by
  refine Ev_fun (F := x5) rfl ?_
  refine WC_seq (WC_region (WO_step rfl (WO_step rfl (WO_nil ?_))))
  refine WC_seq (WC_region (WO_call rfl rfl (Ev_sp rfl rfl (WO_step rfl (WO_nil ?_)))))
  refine WC_seq (WC_seq (WC_region (WO_step rfl (WO_step rfl (WO_step rfl (WO_step rfl (WO_nil ?_)))))))
  refine WC_cond_split (x := decide ((len : Int) > 1500)) rfl (fun _ => ?_) (fun _ => WC_skip ?_)
  · refine WC_seq (WC_region (WO_step rfl (WO_step rfl (WO_nil (WC_ret ?_)))))
    exact ⟨.inr rfl, _, rfl, rfl⟩
  · refine WC_run 300 (P := fun e T' H' => match e, resL T' H' [.t 4] with | .ret, some [.b true] => true | _, _ => false) (by kernel_rfl) fun e T' H' h => ?_
    split at h
    · rename_i h1
      exact ⟨.inr rfl, _, h1, rfl⟩
    · cases h

theorem none_law (W : World) (ρ : Rho) (H : AH) (xs : List AV) (args : Array Value) (hR : Rel Try.prog W.heap.size W ρ H W) (hro : RO H) (hv : VRL ρ xs args.toList) (ht : TypedVs Try.prog H 9 Try.f5.params.toList xs) :
    Calls Try.prog 5 args W fun e w' => e = .returned (.bool true) ∧ Below W.heap.size W w' := by
  rw [Try.params5] at ht
  obtain ⟨a1, xs, rfl, h1, a2, xs, rfl, h2, rfl⟩ := ht
  obtain ⟨n, rfl, _⟩ := typedV_int Try.underlying3 h1
  obtain ⟨l, rfl, h3⟩ := typedV_struct Try.underlying33 h2
  obtain ⟨hl, hq⟩ := struct_parts (qs := [(4, 0, 1), (5, 1, 1), (22, 2, 1), (30, 3, 1), (30, 4, 1), (31, 5, 1)]) Try.underlying33 h3 (by kernel_rfl)
  rw [show Try.prog.cellsOf 33 = 6 by kernel_rfl] at hl
  match l, hl with
  | [x0, x1, x2, x3, x4, x5], _ =>
    simp only [List.forall_mem_cons, List.drop_zero, List.drop_succ_cons, List.take_succ_cons, List.take_zero] at hq
    obtain ⟨q0, q1, q2, q3, q4, q5, _⟩ := hq
    obtain ⟨b, e0, _⟩ := typed_bool Try.underlying4 q0
    obtain ⟨i1, e1, _⟩ := typed_int Try.underlying5 q1
    obtain ⟨i2, e2, _⟩ := typed_int Try.underlying22 q2
    obtain ⟨i3, e3, _⟩ := typed_int Try.underlying30 q3
    obtain ⟨i4, e4, _⟩ := typed_int Try.underlying30 q4
    cases e0; cases e1; cases e2; cases e3; cases e4
    obtain ⟨x, p, len, cap, b0, e5, hx, hfl, _⟩ := pick_ints Try.underlying31 Try.underlying5 (by kernel_rfl) hR q5
    cases e5
    obtain ⟨k, v, H', hex, rfl⟩ := none_run n i1 i2 i3 i4 b p len cap (H.get b0)
    have hv' : VRL (pickR ρ [b0]) [.i .i64 n, .agg [.b b, .i .u8 i1, .i .u16 i2, .i .u32 i3, .i .u32 i4, .sl p len cap 0]] args.toList := by
      rw [VRL_cons_iff] at hv
      obtain ⟨y1, ys, hys, g1, hv⟩ := hv
      rw [VRL_cons_iff] at hv
      obtain ⟨y2, ys, rfl, g2, hv⟩ := hv
      rw [VRL_nil_iff] at hv; subst hv
      rw [hys]
      refine VRL_cons (VR_flat rfl g1) (VRL_cons ?_ VRL_nil)
      obtain ⟨cs, rfl, hc, ho⟩ := VR_agg g2
      simp only [VR]
      refine ⟨cs, rfl, ?_, fun x hx => ?_⟩
      · simp only [VRL_cons_iff, VRL_nil_iff] at hc ⊢
        obtain ⟨z0, zs, hz, c0, z1, zs1, rfl, c1, z2, zs2, rfl, c2, z3, zs3, rfl, c3, z4, zs4, rfl, c4, z5, zs5, rfl, c5, rfl⟩ := hc
        exact ⟨_, _, hz, VR_flat rfl c0, _, _, rfl, VR_flat rfl c1, _, _, rfl, VR_flat rfl c2, _, _, rfl, VR_flat rfl c3, _, _, rfl, VR_flat rfl c4, _, _, rfl, hx _ c5, rfl⟩
      · simp only [List.mem_cons, List.not_mem_nil, or_false] at hx
        rcases hx with rfl | rfl | rfl | rfl | rfl | rfl <;> rfl
    exact law_of mixed tabA_ok spA_ok hex (hR.pick globals0 hro [b0] hfl) hv'
end Go.Proofs.Ythmiglahfkfcaaa.E
namespace Go.Proofs.Ythmiglahfkfcaaa.audioNone
open Go.ChangeShapes Go.WideShapes Go.RowKit
set_option linter.unusedVariables false
theorem own : ownKnob Try.prog.godebug = none := by kernel_rfl
theorem types : (Try.f5.params.toList.all fun t => E.fit Try.prog 9 t && (Try.prog.readableRec t && decide (t < Try.prog.types.size))) = true := by kernel_rfl
set_option maxRecDepth 100000 in
theorem lifted (os : Os) (started : os.Started) (H : Type) (enc : TypeId × Value → H) :
    ReturnsInHanded {} Try.checked os 5 .any (Rows.audioNoneSpec.pre6 enc Try.prog Try.f5 Rows.audioNoneRow.domain false) (Rows.audioNoneSpec.post enc Try.prog Try.f5 false true false false) :=
  E.law_lifted (C := Try.checked) (k := 9) (tb := 4) E.globals0 E.laid own started (by kernel_rfl) Try.func5
    (ChangeSpec.witness6 (enc := enc) (C := Try.checked) false ⟨#[], #[.int .i64 0, .agg #[.bool false, .int .u8 0, .int .u16 0, .int .u32 0, .int .u32 0, .slice none 0 0]], []⟩ 8 (by kernel_rfl) (by kernel_rfl) (by kernel_rfl) (by kernel_rfl))
    rfl rfl Try.underlying4 (fun t ht => by have h := List.all_eq_true.1 types t ht; simp only [Bool.and_eq_true, decide_eq_true_eq] at h; exact h)
    (fun ds hd => by
      rw [Try.params5] at hd
      match ds, hd with
      | [d1, d2], _ => rfl) E.none_law
theorem over : Rows.audioNoneRow.holds Try.pinned (OpenSpec.ofChange Rows.audioNoneSpec) :=
  OpenClaim.holds_of_wide 5 Try.f5 rfl rfl rfl rfl rfl rfl rfl ⟨rfl, rfl, rfl, rfl, rfl⟩ rfl rfl rfl rfl rfl (by kernel_rfl) Try.func5 (by kernel_rfl)
    (of_decide_eq_true (by kernel_rfl)) (by unfold Func.isWrapper; first | (rw [if_pos (by decide +kernel)]; kernel_rfl) | (rw [if_neg (by decide +kernel)]; exact ⟨rfl, rfl⟩))
    (fun os started H enc _ => lifted os started H enc)
end Go.Proofs.Ythmiglahfkfcaaa.audioNone
namespace Go.Proofs.Ythmiglahfkfcaaa
/-- The row, under a short name, for the claim. -/
theorem audioNone_holds : Rows.AudioNoneSaid := audioNone.over
#print axioms audioNone_holds
end Go.Proofs.Ythmiglahfkfcaaa
