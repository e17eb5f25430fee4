/- TopicNone, for every input, without conditions: nearly a closed call. -/
import Derived.Test.YtnkpmidfefilbaaX
import Derived.Test.YtnkpmidfefilbaaE25
import Derived.Test.YtnkpmidfefilbaaRows
import Derived.ProofKit
import Derived.OpenShut
namespace Go.Proofs.Ytnkpmidfefilbaa.E
open Go.RowKit (Below)
set_option linter.unusedVariables false
theorem globals0 : Try.prog.globals.size = 0 := by kernel_rfl
theorem mixed : Try.prog.follows .mixedOrders = true := by kernel_rfl
theorem laid : laidOutB Try.prog = true := by kernel_rfl
def tabA : Nat → Option XFun := fun g => if g = 10 then none else tab g
theorem tabA_ok : TabOK Try.prog tabA := fun g F h => by
  unfold tabA at h
  split at h
  · cases h
  · exact tab_ok g F h
def spA := withSp 10 [] (.b true) noSp
theorem spA_ok : SpOK Try.prog tabA spA := withSp_ok (k := 300) (f := 10) (args := []) (v := .b true) mixed globals0 tab_ok noSp_ok (by kernel_rfl) rfl rfl noSp_ok

set_option maxHeartbeats 4000000 in
theorem none_run (n : Int) (s : ByteArray) (p : Option (Nat × Nat)) (len cap : Nat) (bo : Option Blk) :
    Ev tabA spA (.fn (.func 9) [] []) [.i .i64 n, .s s, .sl p len cap 0] ⟨[(0, bo)], 1⟩ (fun v _ => v = .b true) := by
  refine Ev_fun (F := x9) rfl ?_
  refine WC_seq (WC_region (WO_step rfl (WO_nil ?_)))
  refine WC_seq (WC_region (WO_call rfl rfl (Ev_sp rfl rfl (WO_step rfl (WO_nil ?_)))))
  obtain ⟨x, hx⟩ : ∃ x, decide ((s.size : Int) > 500) = x := ⟨_, rfl⟩
  obtain ⟨y, hy⟩ : ∃ y, decide ((len : Int) > 1000) = y := ⟨_, rfl⟩
  refine WC_seq (WC_seq (WC_region (WO_step rfl (WO_step rfl (WO_step (v := .b x) (by rw [← hx]; rfl) (WO_step rfl ?_))))))
  clear hx
  cases x with
  | true =>
    refine WO_step rfl (WO_step rfl (WO_step rfl (WO_step rfl (WO_nil ?_))))
    refine WC_cond_split (x := true) rfl (fun _ => ?_) (fun h => by cases h)
    refine WC_seq (WC_region (WO_step rfl (WO_step rfl (WO_nil (WC_ret ?_)))))
    exact ⟨.inr rfl, _, rfl, rfl⟩
  | false =>
    refine WO_step rfl (WO_step rfl (WO_step (v := .b y) (by rw [← hy]; rfl) (WO_step rfl (WO_nil ?_))))
    clear hy
    cases y with
    | true =>
      refine WC_cond_split (x := true) rfl (fun _ => ?_) (fun h => by cases h)
      refine WC_seq (WC_region (WO_step rfl (WO_step rfl (WO_nil (WC_ret ?_)))))
      exact ⟨.inr rfl, _, rfl, rfl⟩
    | false =>
      refine WC_cond_split (x := false) rfl (fun h => by cases h) (fun _ => WC_skip ?_)
      refine WC_run 300 (P := fun e T' H' => match e, resL T' H' [.t 6] with | .ret, some [.b true] => true | _, _ => false) (by kernel_rfl) fun e T' H' h => ?_
      split at h
      · rename_i h1
        exact ⟨.inr rfl, _, h1, rfl⟩
      · cases h

theorem none_law (W : World) (ρ : Rho) (H : AH) (xs : List AV) (args : Array Value) (hR : Rel Try.prog W.heap.size W ρ H W) (hro : RO H) (hv : VRL ρ xs args.toList) (ht : TypedVs Try.prog H 9 Try.f9.params.toList xs) :
    Calls Try.prog 9 args W fun e w' => e = .returned (.bool true) ∧ Below W.heap.size W w' := by
  rw [Try.params9] at ht
  obtain ⟨a1, xs, rfl, h1, a2, xs, rfl, h2, a3, xs, rfl, h3, rfl⟩ := ht
  obtain ⟨n, rfl, _⟩ := typedV_int Try.underlying3 h1
  obtain ⟨s, rfl, _⟩ := typedV_string Try.underlying9 h2
  obtain ⟨x, p, len, cap, b0, e5, hx, hfl, _⟩ := pick_ints Try.underlying30 Try.underlying5 (by kernel_rfl) hR (typedV_slice Try.underlying30 h3)
  cases e5
  obtain ⟨k, v, H', hex, rfl⟩ := none_run n s p len cap (H.get b0)
  have hv' : VRL (pickR ρ [b0]) [.i .i64 n, .s s, .sl p len cap 0] args.toList := by
    rw [VRL_cons_iff] at hv
    obtain ⟨y1, ys, hys, g1, hv⟩ := hv
    rw [VRL_cons_iff] at hv
    obtain ⟨y2, ys, rfl, g2, hv⟩ := hv
    rw [VRL_cons_iff] at hv
    obtain ⟨y3, ys, rfl, g3, hv⟩ := hv
    rw [VRL_nil_iff] at hv; subst hv
    rw [hys]
    exact VRL_cons (VR_flat rfl g1) (VRL_cons (VR_flat rfl g2) (VRL_cons (hx _ g3) VRL_nil))
  exact law_of mixed tabA_ok spA_ok hex (hR.pick globals0 hro [b0] hfl) hv'
end Go.Proofs.Ytnkpmidfefilbaa.E
namespace Go.Proofs.Ytnkpmidfefilbaa.topicNone
open Go.ChangeShapes Go.WideShapes Go.RowKit
set_option linter.unusedVariables false
theorem own : ownKnob Try.prog.godebug = none := by kernel_rfl
theorem types : (Try.f9.params.toList.all fun t => E.fit Try.prog 9 t && (Try.prog.readableRec t && decide (t < Try.prog.types.size))) = true := by kernel_rfl
set_option maxRecDepth 100000 in
theorem lifted (os : Os) (started : os.Started) (H : Type) (enc : TypeId × Value → H) :
    ReturnsInHanded {} Try.checked os 9 .any (Rows.topicNoneSpec.pre6 enc Try.prog Try.f9 Rows.topicNoneRow.domain false) (Rows.topicNoneSpec.post enc Try.prog Try.f9 false true false false) :=
  E.law_lifted (C := Try.checked) (k := 9) (tb := 4) E.globals0 E.laid own started (by kernel_rfl) Try.func9
    (ChangeSpec.witness6 (enc := enc) (C := Try.checked) false ⟨#[], #[.int .i64 0, .string .empty, .slice none 0 0], []⟩ 8 (by kernel_rfl) (by kernel_rfl) (by kernel_rfl) (by kernel_rfl))
    rfl rfl Try.underlying4 (fun t ht => by have h := List.all_eq_true.1 types t ht; simp only [Bool.and_eq_true, decide_eq_true_eq] at h; exact h)
    (fun ds hd => by
      rw [Try.params9] at hd
      match ds, hd with
      | [d1, d2, d3], _ => rfl) E.none_law
theorem over : Rows.topicNoneRow.holds Try.pinned (OpenSpec.ofChange Rows.topicNoneSpec) :=
  OpenClaim.holds_of_wide 9 Try.f9 rfl rfl rfl rfl rfl rfl rfl ⟨rfl, rfl, rfl, rfl, rfl⟩ rfl rfl rfl rfl rfl (by kernel_rfl) Try.func9 (by kernel_rfl)
    (of_decide_eq_true (by kernel_rfl)) (by unfold Func.isWrapper; first | (rw [if_pos (by decide +kernel)]; kernel_rfl) | (rw [if_neg (by decide +kernel)]; exact ⟨rfl, rfl⟩))
    (fun os started H enc _ => lifted os started H enc)
end Go.Proofs.Ytnkpmidfefilbaa.topicNone
namespace Go.Proofs.Ytnkpmidfefilbaa
/-- The row, under a short name, for the claim. -/
theorem topicNone_holds : Rows.TopicNoneSaid := topicNone.over
#print axioms topicNone_holds
end Go.Proofs.Ytnkpmidfefilbaa
