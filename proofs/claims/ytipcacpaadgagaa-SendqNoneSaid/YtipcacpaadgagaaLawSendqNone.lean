/- SendqNone, for every input, without conditions: nearly a closed call. -/
import Derived.Test.YtipcacpaadgagaaX
import Derived.Test.YtipcacpaadgagaaE34
import Derived.Test.YtipcacpaadgagaaRows
import Derived.ProofKit
import Derived.OpenShut
namespace Go.Proofs.Ytipcacpaadgagaa.E
open Go.RowKit (Below)
set_option linter.unusedVariables false
set_option linter.unusedSimpArgs false
theorem globals0 : Try.prog.globals.size = 0 := by kernel_rfl
theorem mixed : Try.prog.follows .mixedOrders = true := by kernel_rfl
theorem laid : laidOutB Try.prog = true := by kernel_rfl
theorem Ev_map {tab : Nat → Option XFun} {sp : Nat → List AV → AH → Option (AV × AH)} {f : AV} {args : List AV} {H : AH} {v : AV} (k : Nat) (h : (exec tab sp k f args H).map (·.1) = some v) : Ev tab sp f args H (fun x _ => x = v) := by
  cases h2 : exec tab sp k f args H with
  | none => rw [h2] at h; cases h
  | some r => rw [h2] at h; exact ⟨k, r.1, r.2, h2, by simpa using h⟩
theorem dist21 (a b : Int) : (exec tab noSp 20 (.fn (.func 21) [] []) [.i .u32 a, .i .u32 b] e0).map (·.1) = some (.i .u32 (IntKind.u32.wrap (b - a))) := by kernel_rfl
theorem floor17 : (exec tab noSp 20 (.fn (.func 17) [] []) [.p none] e0).map (·.1) = some (.i .u32 0) := by kernel_rfl
theorem len18 : (exec tab noSp 20 (.fn (.func 18) [] []) [.p none] e0).map (·.1) = some (.i .i64 0) := by kernel_rfl
def f21 : List AV → Option AV
  | [.i .u32 a, .i .u32 b] => some (.i .u32 (IntKind.u32.wrap (b - a)))
  | _ => none
def f17 : List AV → Option AV
  | [.p none] => some (.i .u32 0)
  | _ => none
def f18 : List AV → Option AV
  | [.p none] => some (.i .i64 0)
  | _ => none
theorem f21_ok (xs : List AV) (v : AV) (h : f21 xs = some v) : flatVL xs = true ∧ flatV v = true ∧ Ev tab noSp (.fn (.func 21) [] []) xs e0 (fun x _ => x = v) := by
  unfold f21 at h; split at h
  · simp only [Option.some.injEq] at h; subst h; exact ⟨rfl, rfl, Ev_map 20 (dist21 _ _)⟩
  · cases h
theorem f17_ok (xs : List AV) (v : AV) (h : f17 xs = some v) : flatVL xs = true ∧ flatV v = true ∧ Ev tab noSp (.fn (.func 17) [] []) xs e0 (fun x _ => x = v) := by
  unfold f17 at h; split at h
  · simp only [Option.some.injEq] at h; subst h; exact ⟨rfl, rfl, Ev_map 20 floor17⟩
  · cases h
theorem f18_ok (xs : List AV) (v : AV) (h : f18 xs = some v) : flatVL xs = true ∧ flatV v = true ∧ Ev tab noSp (.fn (.func 18) [] []) xs e0 (fun x _ => x = v) := by
  unfold f18 at h; split at h
  · simp only [Option.some.injEq] at h; subst h; exact ⟨rfl, rfl, Ev_map 20 len18⟩
  · cases h
def spS := withPure 18 f18 (withPure 17 f17 (withPure 21 f21 noSp))
def tabS := without [17, 18, 21] tab
theorem tabS_ok : TabOK Try.prog tabS := without_ok tab_ok
theorem spS_ok {tab' : Nat → Option XFun} : SpOK Try.prog tab' spS := withPure_ok mixed globals0 tab_ok noSp_ok f18_ok (withPure_ok mixed globals0 tab_ok noSp_ok f17_ok (withPure_ok mixed globals0 tab_ok noSp_ok f21_ok noSp_ok))
theorem state24 (c : Int) : Ev tabS spS (.fn (.func 24) [] []) [.p none, .i .u32 c] e0 (fun x _ => x = .tup [.i .i64 0, .b false]) := by
  refine Ev_C (F := x24) rfl ?_
  refine C_seq ?_
  refine C_region ?_
  refine O_p (.i .i64 0) (r_mv rfl) ?_
  refine O_p (.b false) (r_mv rfl) ?_
  refine O_nil ?_
  refine C_seq ?_
  refine C_region ?_
  refine O_p (.p none) (r_mv rfl) ?_
  refine O_call (Ev_sp (v := (.i .u32 0)) rfl rfl ?_)
  refine O_p (.i .u32 c) (r_mv rfl) ?_
  refine O_call (Ev_sp (v := (.i .u32 (IntKind.u32.wrap (c - 0)))) rfl rfl ?_)
  refine O_p (.i .i64 (IntKind.i64.wrap (IntKind.u32.wrap (c - 0)))) (r_cint rfl) ?_
  refine O_p (.i .i64 (IntKind.i64.wrap (IntKind.u32.wrap (c - 0)))) (r_mv rfl) ?_
  refine O_nil ?_
  refine C_seq ?_
  refine C_seq ?_
  refine C_region ?_
  refine O_p (.i .i64 (IntKind.i64.wrap (IntKind.u32.wrap (c - 0)))) (r_mv rfl) ?_
  refine O_p (.b (decide ((IntKind.i64.wrap (IntKind.u32.wrap (c - 0))) < 1))) (r_lss rfl rfl) ?_
  refine O_p (.b (decide ((IntKind.i64.wrap (IntKind.u32.wrap (c - 0))) < 1))) (r_mv rfl) ?_
  refine O_gx (e := (!(decide ((IntKind.i64.wrap (IntKind.u32.wrap (c - 0))) < 1)))) (v := (.i .i64 (IntKind.i64.wrap (IntKind.u32.wrap (c - 0))))) (wf rfl) (fun he => (r_mv rfl)) ?_
  refine O_gx (e := (!(decide ((IntKind.i64.wrap (IntKind.u32.wrap (c - 0))) < 1)))) (v := (.p none)) (wf rfl) (fun he => (r_mv rfl)) ?_
  refine O_gc2 (e := (!(decide ((IntKind.i64.wrap (IntKind.u32.wrap (c - 0))) < 1)))) (v := (.i .i64 0)) (as' := [(.p none)]) (wf rfl) (fun he => by exact (cons_eq (cond_pos he) rfl)) (fun he => Ev_sp (v := .i .i64 0) rfl rfl ⟨rfl, rfl⟩) ?_
  refine O_gx (e := (!(decide ((IntKind.i64.wrap (IntKind.u32.wrap (c - 0))) < 1)))) (v := (.b (decide (0 < (IntKind.i64.wrap (IntKind.u32.wrap (c - 0))))))) (wf rfl) (fun he => (r_gtr (cond_pos he) (cond_pos he))) ?_
  refine O_p (.b ((decide ((IntKind.i64.wrap (IntKind.u32.wrap (c - 0))) < 1)) || (decide (0 < (IntKind.i64.wrap (IntKind.u32.wrap (c - 0))))))) (r_pick_or rfl rfl rfl rfl) ?_
  refine O_nil ?_
  refine C_cond (x := ((decide ((IntKind.i64.wrap (IntKind.u32.wrap (c - 0))) < 1)) || (decide (0 < (IntKind.i64.wrap (IntKind.u32.wrap (c - 0))))))) rfl (fun hc1 => ?_) (fun hc1 => ?_)
  ·
    simp only [decide_eq_true_eq, decide_eq_false_iff_not, Bool.not_eq_true', Bool.not_eq_false', Bool.and_eq_true, Bool.or_eq_true, Bool.or_eq_false_iff, Bool.not_not] at hc1
    refine C_seq ?_
    refine C_region ?_
    refine O_p (.i .i64 0) (r_mv rfl) ?_
    refine O_p (.b false) (r_mv rfl) ?_
    refine O_nil ?_
    refine C_ret ?_
    refine nx_ret ?_
    exact ⟨.inr rfl, _, resL_cons (r_tmp (v := .i .i64 0) rfl) (resL_one (r_tmp (v := .b false) rfl)), rfl⟩
  ·
    simp only [decide_eq_true_eq, decide_eq_false_iff_not, Bool.not_eq_true', Bool.not_eq_false', Bool.and_eq_true, Bool.or_eq_true, Bool.or_eq_false_iff, Bool.not_not] at hc1
    exfalso; omega
def f24 : List AV → Option AV
  | [.p none, .i .u32 c] => some (.tup [.i .i64 0, .b false])
  | _ => none
theorem f24_ok (xs : List AV) (v : AV) (h : f24 xs = some v) : flatVL xs = true ∧ flatV v = true ∧ Ev tabS spS (.fn (.func 24) [] []) xs e0 (fun x _ => x = v) := by
  unfold f24 at h; split at h
  · simp only [Option.some.injEq] at h; subst h; exact ⟨rfl, rfl, state24 _⟩
  · cases h
def tabA : Nat → Option XFun := fun g => if g = 10 ∨ g = 24 then none else tab g
theorem tabA_ok : TabOK Try.prog tabA := fun g F h => by
  unfold tabA at h
  split at h
  · cases h
  · exact tab_ok g F h
def spA := withPure 24 f24 (withSp 10 [] (.b true) noSp)
theorem spA_ok : SpOK Try.prog tabA spA := withPure_ok mixed globals0 tabS_ok spS_ok f24_ok (withSp_ok (k := 300) (f := 10) (args := []) (v := .b true) mixed globals0 tab_ok noSp_ok (by kernel_rfl) rfl rfl noSp_ok)
theorem Rel.pick0 {P : Program} {B : Nat} {w0 W : World} {ρ : Rho} {H : AH} (hg : P.globals.size = 0) (hR : Rel P B w0 ρ H W) (b : Nat) : Rel P B w0 (pickR ρ [b]) ⟨[], 1⟩ W := by
  refine ⟨hR.hB, hR.below, fun n h => ?_, fun g h => by omega, fun n b' h => by simp [AH.get, AH.getL] at h, fun n k o s h => ?_, fun n b' m c k o s k' o' s' h1 => by simp [AH.get, AH.getL] at h1⟩
  · unfold pickR
    rw [List.getElem?_eq_none (by simp only [List.length_cons, List.length_nil]; exact h)]; rfl
  · unfold pickR at h
    obtain ⟨m, h1, h2⟩ := Option.bind_eq_some_iff.1 h
    exact hR.lt _ _ _ _ h2
theorem pick_any {P : Program} {ρ : Rho} {H : AH} {k : Nat} {t e : TypeId} {l : List AV} (hu : P.underlying t = some (.slice e)) (h : Typed P H (k + 1) t l) :
    ∃ x p len cap b0, l = [x] ∧ ∀ v, VR ρ x v → VR (pickR ρ [b0]) (.sl p len cap 0) v := by
  unfold Typed at h
  rw [hu] at h
  simp only at h
  rcases h with rfl | rfl | ⟨b, len, cap, c, rfl, h1, h2, h3, h4, h5, h6⟩
  · exact ⟨_, none, 0, 0, 0, rfl, fun v hv => by simpa only [VR] using hv⟩
  · exact ⟨_, some (0, 0), 0, 0, 0, rfl, fun v hv => by unfold VR at hv ⊢; exact hv⟩
  · exact ⟨_, some (0, 0), len, cap, b, rfl, fun v hv => by unfold VR at hv ⊢; exact hv⟩
set_option maxHeartbeats 4000000 in
theorem none_run (n c : Int) (p : Option (Nat × Nat)) (len cap : Nat) :
    Ev tabA spA (.fn (.func 9) [] []) [.sl p len cap 0, .i .i64 n, .i .u32 c] ⟨[], 1⟩ (fun v _ => v = .b true) := by
  refine Ev_fun (F := x9) rfl ?_
  refine WC_seq (WC_region (WO_step rfl (WO_nil ?_)))
  refine WC_seq (WC_region (WO_call rfl rfl (Ev_sp rfl rfl (WO_step rfl (WO_nil ?_)))))
  refine WC_seq (WC_seq (WC_region (WO_step rfl (WO_step rfl (WO_step rfl (WO_nil ?_))))))
  refine WC_cond_split (x := decide ((len : Int) > 50)) rfl (fun _ => ?_) (fun _ => WC_skip ?_)
  · refine WC_seq (WC_region (WO_step rfl (WO_step rfl (WO_nil (WC_ret ?_)))))
    exact ⟨.inr rfl, _, rfl, rfl⟩
  · refine WC_run 300 (P := fun e T' H' => match e, resL T' H' [.t 6] with | .ret, some [.b true] => true | _, _ => false) (by kernel_rfl) fun e T' H' h => ?_
    split at h
    · rename_i h1
      exact ⟨.inr rfl, _, h1, rfl⟩
    · cases h
set_option maxRecDepth 100000 in
theorem none_law (W : World) (ρ : Rho) (H : AH) (xs : List AV) (args : Array Value) (hR : Rel Try.prog W.heap.size W ρ H W) (hro : RO H) (hv : VRL ρ xs args.toList) (ht : TypedVs Try.prog H 9 Try.f9.params.toList xs) :
    Calls Try.prog 9 args W fun e w' => e = .returned (.bool true) ∧ Below W.heap.size W w' := by
  rw [Try.params9] at ht
  obtain ⟨a1, xs, rfl, h1, a2, xs, rfl, h2, a3, xs, rfl, h3, rfl⟩ := ht
  obtain ⟨n, rfl, _⟩ := typedV_int Try.underlying3 h2
  obtain ⟨c, rfl, _⟩ := typedV_int Try.underlying22 h3
  obtain ⟨x, p, len, cap, b0, e5, hx⟩ := pick_any (ρ := ρ) Try.underlying37 (typedV_slice Try.underlying37 h1)
  cases e5
  obtain ⟨k, v, H', hex, rfl⟩ := none_run n c p len cap
  have hv' : VRL (pickR ρ [b0]) [.sl p len cap 0, .i .i64 n, .i .u32 c] args.toList := by
    rw [VRL_cons_iff] at hv
    obtain ⟨y1, ys, hys, g1, hv⟩ := hv
    rw [VRL_cons_iff] at hv
    obtain ⟨y2, ys, rfl, g2, hv⟩ := hv
    rw [VRL_cons_iff] at hv
    obtain ⟨y3, ys, rfl, g3, hv⟩ := hv
    rw [VRL_nil_iff] at hv; subst hv
    rw [hys]
    exact VRL_cons (hx _ g1) (VRL_cons (VR_flat rfl g2) (VRL_cons (VR_flat rfl g3) VRL_nil))
  exact law_of mixed tabA_ok spA_ok hex (hR.pick0 globals0 b0) hv'
end Go.Proofs.Ytipcacpaadgagaa.E
namespace Go.Proofs.Ytipcacpaadgagaa.sendqNone
open Go.ChangeShapes Go.WideShapes Go.RowKit
set_option linter.unusedVariables false
theorem own : ownKnob Try.prog.godebug = none := by kernel_rfl
theorem types : (Try.f9.params.toList.all fun t => E.fit Try.prog 9 t && (Try.prog.readableRec t && decide (t < Try.prog.types.size))) = true := by kernel_rfl
set_option maxRecDepth 100000 in
theorem lifted (os : Os) (started : os.Started) (H : Type) (enc : TypeId × Value → H) :
    ReturnsInHanded {} Try.checked os 9 .any (Rows.sendqNoneSpec.pre6 enc Try.prog Try.f9 Rows.sendqNoneRow.domain false) (Rows.sendqNoneSpec.post enc Try.prog Try.f9 false true false false) :=
  E.law_lifted (C := Try.checked) (k := 9) (tb := 4) E.globals0 E.laid own started (by kernel_rfl) Try.func9
    (ChangeSpec.witness6 (enc := enc) (C := Try.checked) false ⟨#[], #[.slice none 0 0, .int .i64 0, .int .u32 0], []⟩ 8 (by kernel_rfl) (by kernel_rfl) (by kernel_rfl) (by kernel_rfl))
    rfl rfl Try.underlying4 (fun t ht => by have h := List.all_eq_true.1 types t ht; simp only [Bool.and_eq_true, decide_eq_true_eq] at h; exact h)
    (fun ds hd => by
      rw [Try.params9] at hd
      match ds, hd with
      | [d0, d1, d2], _ => rfl) E.none_law
theorem over : Rows.sendqNoneRow.holds Try.pinned (OpenSpec.ofChange Rows.sendqNoneSpec) :=
  OpenClaim.holds_of_wide 9 Try.f9 rfl rfl rfl rfl rfl rfl rfl ⟨rfl, rfl, rfl, rfl, rfl⟩ rfl rfl rfl rfl rfl (by kernel_rfl) Try.func9 (by kernel_rfl)
    (of_decide_eq_true (by kernel_rfl)) (by unfold Func.isWrapper; first | (rw [if_pos (by decide +kernel)]; kernel_rfl) | (rw [if_neg (by decide +kernel)]; exact ⟨rfl, rfl⟩))
    (fun os started H enc _ => lifted os started H enc)
end Go.Proofs.Ytipcacpaadgagaa.sendqNone
namespace Go.Proofs.Ytipcacpaadgagaa
/-- The row, under a short name, for the claim. -/
theorem sendqNone_holds : Rows.SendqNoneSaid := sendqNone.over
#print axioms sendqNone_holds
end Go.Proofs.Ytipcacpaadgagaa
