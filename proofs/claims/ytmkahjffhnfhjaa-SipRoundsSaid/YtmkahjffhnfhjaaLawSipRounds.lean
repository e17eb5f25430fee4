/- SipRounds, for every input, without conditions. -/
import Derived.Test.YtmkahjffhnfhjaaS
import Derived.Test.YtmkahjffhnfhjaaE29
import Derived.Test.YtmkahjffhnfhjaaRows
import Derived.ProofKit
import Derived.OpenShut
namespace Go.Proofs.Ytmkahjffhnfhjaa.E
open Go.RowKit (Below)
set_option linter.unusedVariables false
set_option linter.unusedSimpArgs false
theorem run3 (H : AH) (hok : H.Ok) (a : Int) (wa : (Lit.int .u64 a).wf = true) (b : Int) (wb : (Lit.int .u64 b).wf = true) (c : Int) (wc : (Lit.int .u64 c).wf = true) (d : Int) (wd : (Lit.int .u64 d).wf = true) : Ev tabA spA (.fn (.func 3) [] []) [.i .u64 a, .i .u64 b, .i .u64 c, .i .u64 d] H (fun v _ => v = .b true) := by
  refine Ev_C (F := x3) rfl ?_
  refine C_seq ?_
  refine C_region ?_
  refine O_p (.b false) (r_mv rfl) ?_
  refine O_nil ?_
  refine C_seq ?_
  refine C_region ?_
  refine O_call (Ev_sp (v := (.b true)) rfl rfl ?_)
  refine O_p (.b true) (r_mv rfl) ?_
  refine O_nil ?_
  refine C_seq ?_
  refine C_region ?_
  refine O_p (.i .u64 a) (r_mv rfl) ?_
  refine O_p (.i .u64 b) (r_mv rfl) ?_
  refine O_p (.i .u64 c) (r_mv rfl) ?_
  refine O_p (.i .u64 d) (r_mv rfl) ?_
  refine O_p (.agg [(.i .u64 a), (.i .u64 b), (.i .u64 c), (.i .u64 d)]) (r_build rfl) ?_
  refine O_call (Ev_sp (v := (.agg [(.i .u64 (rnd a b c d).1), (.i .u64 (rnd a b c d).2.1), (.i .u64 (rnd a b c d).2.2.1), (.i .u64 (rnd a b c d).2.2.2)])) rfl rfl ?_)
  refine O_alloc fun n1 H2 hN3 => ?_
  have hF4 := hN3.fr (fun _ => False)
  have hnm_n1 : n1 = H.next := hN3.1
  have hnx_H2 : H2.next = H.next + 1 := hN3.2.1
  have hlt_n1 : n1 < H2.next := by omega
  refine O_store (vs := [(.i .u64 (rnd a b c d).1), (.i .u64 (rnd a b c d).2.1), (.i .u64 (rnd a b c d).2.2.1), (.i .u64 (rnd a b c d).2.2.2)]) (c' := [(.i .u64 (rnd a b c d).1), (.i .u64 (rnd a b c d).2.1), (.i .u64 (rnd a b c d).2.2.1), (.i .u64 (rnd a b c d).2.2.2)]) rfl (by rfl) hN3.2.2.1 rfl (List.cons_ne_nil _ _) (Nat.le_of_ble_eq_true rfl) rfl fun H5 hW6 => ?_
  have hnx_H5 : H5.next = H2.next := hW6.1
  have hlt_n1 : n1 < H5.next := by omega
  refine O_nil ?_
  refine C_seq ?_
  refine C_region ?_
  refine O_p (.i .u64 a) (r_mv rfl) ?_
  refine O_p (.i .u64 b) (r_mv rfl) ?_
  refine O_p (.i .u64 c) (r_mv rfl) ?_
  refine O_p (.i .u64 d) (r_mv rfl) ?_
  refine O_call (Ev_sp (v := (.tup [(.i .u64 (rnd a b c d).1), (.i .u64 (rnd a b c d).2.1), (.i .u64 (rnd a b c d).2.2.1), (.i .u64 (rnd a b c d).2.2.2)])) rfl rfl ?_)
  refine O_p (.tup [(.i .u64 (rnd a b c d).1), (.i .u64 (rnd a b c d).2.1), (.i .u64 (rnd a b c d).2.2.1), (.i .u64 (rnd a b c d).2.2.2)]) (r_mv rfl) ?_
  refine O_p (.i .u64 (rnd a b c d).1) (r_ext rfl rfl) ?_
  refine O_p (.i .u64 (rnd a b c d).2.1) (r_ext rfl rfl) ?_
  refine O_p (.i .u64 (rnd a b c d).2.2.1) (r_ext rfl rfl) ?_
  refine O_p (.i .u64 (rnd a b c d).2.2.2) (r_ext rfl rfl) ?_
  refine O_p (.i .u64 (rnd a b c d).1) (r_mv rfl) ?_
  refine O_p (.i .u64 (rnd a b c d).2.1) (r_mv rfl) ?_
  refine O_p (.i .u64 (rnd a b c d).2.2.1) (r_mv rfl) ?_
  refine O_p (.i .u64 (rnd a b c d).2.2.2) (r_mv rfl) ?_
  refine O_nil ?_
  refine C_seq ?_
  refine C_region ?_
  refine O_p (.b true) (r_mv rfl) ?_
  refine O_p (.b true) (r_mv rfl) ?_
  refine O_gs (v := (.p (some (n1, 0)))) rfl (r_iarr' rfl rfl rfl rfl) ?_
  refine O_gs (v := (.i .u64 (rnd a b c d).1)) rfl (r_ld rfl hW6.2.1 rfl) ?_
  refine O_gs (v := (.i .u64 (rnd a b c d).1)) rfl (r_mv rfl) ?_
  refine O_gs (v := (.b (decide ((rnd a b c d).1 = (rnd a b c d).1)))) rfl (r_eql rfl rfl) ?_
  refine O_p (.b (decide ((rnd a b c d).1 = (rnd a b c d).1))) (r_pick_t rfl rfl) ?_
  refine O_p (.b (decide ((rnd a b c d).1 = (rnd a b c d).1))) (r_mv rfl) ?_
  refine O_gx (e := (decide ((rnd a b c d).1 = (rnd a b c d).1))) (v := (.p (some (n1, 1)))) (wt rfl) (fun he => (r_iarr' rfl rfl rfl rfl)) ?_
  refine O_gx (e := (decide ((rnd a b c d).1 = (rnd a b c d).1))) (v := (.i .u64 (rnd a b c d).2.1)) (wt rfl) (fun he => (r_ld (cond_pos he) hW6.2.1 rfl)) ?_
  refine O_gx (e := (decide ((rnd a b c d).1 = (rnd a b c d).1))) (v := (.i .u64 (rnd a b c d).2.1)) (wt rfl) (fun he => (r_mv rfl)) ?_
  refine O_gx (e := (decide ((rnd a b c d).1 = (rnd a b c d).1))) (v := (.b (decide ((rnd a b c d).2.1 = (rnd a b c d).2.1)))) (wt rfl) (fun he => (r_eql (cond_pos he) (cond_pos he))) ?_
  refine O_p (.b ((decide ((rnd a b c d).1 = (rnd a b c d).1)) && (decide ((rnd a b c d).2.1 = (rnd a b c d).2.1)))) (r_pick_and rfl rfl rfl rfl) ?_
  refine O_p (.b ((decide ((rnd a b c d).1 = (rnd a b c d).1)) && (decide ((rnd a b c d).2.1 = (rnd a b c d).2.1)))) (r_mv rfl) ?_
  refine O_gx (e := ((decide ((rnd a b c d).1 = (rnd a b c d).1)) && (decide ((rnd a b c d).2.1 = (rnd a b c d).2.1)))) (v := (.p (some (n1, 2)))) (wt rfl) (fun he => (r_iarr' rfl rfl rfl rfl)) ?_
  refine O_gx (e := ((decide ((rnd a b c d).1 = (rnd a b c d).1)) && (decide ((rnd a b c d).2.1 = (rnd a b c d).2.1)))) (v := (.i .u64 (rnd a b c d).2.2.1)) (wt rfl) (fun he => (r_ld (cond_pos he) hW6.2.1 rfl)) ?_
  refine O_gx (e := ((decide ((rnd a b c d).1 = (rnd a b c d).1)) && (decide ((rnd a b c d).2.1 = (rnd a b c d).2.1)))) (v := (.i .u64 (rnd a b c d).2.2.1)) (wt rfl) (fun he => (r_mv rfl)) ?_
  refine O_gx (e := ((decide ((rnd a b c d).1 = (rnd a b c d).1)) && (decide ((rnd a b c d).2.1 = (rnd a b c d).2.1)))) (v := (.b (decide ((rnd a b c d).2.2.1 = (rnd a b c d).2.2.1)))) (wt rfl) (fun he => (r_eql (cond_pos he) (cond_pos he))) ?_
  refine O_p (.b (((decide ((rnd a b c d).1 = (rnd a b c d).1)) && (decide ((rnd a b c d).2.1 = (rnd a b c d).2.1))) && (decide ((rnd a b c d).2.2.1 = (rnd a b c d).2.2.1)))) (r_pick_and rfl rfl rfl rfl) ?_
  refine O_p (.b (((decide ((rnd a b c d).1 = (rnd a b c d).1)) && (decide ((rnd a b c d).2.1 = (rnd a b c d).2.1))) && (decide ((rnd a b c d).2.2.1 = (rnd a b c d).2.2.1)))) (r_mv rfl) ?_
  refine O_gx (e := (((decide ((rnd a b c d).1 = (rnd a b c d).1)) && (decide ((rnd a b c d).2.1 = (rnd a b c d).2.1))) && (decide ((rnd a b c d).2.2.1 = (rnd a b c d).2.2.1)))) (v := (.p (some (n1, 3)))) (wt rfl) (fun he => (r_iarr' rfl rfl rfl rfl)) ?_
  refine O_gx (e := (((decide ((rnd a b c d).1 = (rnd a b c d).1)) && (decide ((rnd a b c d).2.1 = (rnd a b c d).2.1))) && (decide ((rnd a b c d).2.2.1 = (rnd a b c d).2.2.1)))) (v := (.i .u64 (rnd a b c d).2.2.2)) (wt rfl) (fun he => (r_ld (cond_pos he) hW6.2.1 rfl)) ?_
  refine O_gx (e := (((decide ((rnd a b c d).1 = (rnd a b c d).1)) && (decide ((rnd a b c d).2.1 = (rnd a b c d).2.1))) && (decide ((rnd a b c d).2.2.1 = (rnd a b c d).2.2.1)))) (v := (.i .u64 (rnd a b c d).2.2.2)) (wt rfl) (fun he => (r_mv rfl)) ?_
  refine O_gx (e := (((decide ((rnd a b c d).1 = (rnd a b c d).1)) && (decide ((rnd a b c d).2.1 = (rnd a b c d).2.1))) && (decide ((rnd a b c d).2.2.1 = (rnd a b c d).2.2.1)))) (v := (.b (decide ((rnd a b c d).2.2.2 = (rnd a b c d).2.2.2)))) (wt rfl) (fun he => (r_eql (cond_pos he) (cond_pos he))) ?_
  refine O_p (.b ((((decide ((rnd a b c d).1 = (rnd a b c d).1)) && (decide ((rnd a b c d).2.1 = (rnd a b c d).2.1))) && (decide ((rnd a b c d).2.2.1 = (rnd a b c d).2.2.1))) && (decide ((rnd a b c d).2.2.2 = (rnd a b c d).2.2.2)))) (r_pick_and rfl rfl rfl rfl) ?_
  refine O_p (.b ((((decide ((rnd a b c d).1 = (rnd a b c d).1)) && (decide ((rnd a b c d).2.1 = (rnd a b c d).2.1))) && (decide ((rnd a b c d).2.2.1 = (rnd a b c d).2.2.1))) && (decide ((rnd a b c d).2.2.2 = (rnd a b c d).2.2.2)))) (r_mv rfl) ?_
  refine O_nil ?_
  refine C_ret ?_
  exact ⟨.inr rfl, _, resL_one (r_tmp (v := (.b ((((decide ((rnd a b c d).1 = (rnd a b c d).1)) && (decide ((rnd a b c d).2.1 = (rnd a b c d).2.1))) && (decide ((rnd a b c d).2.2.1 = (rnd a b c d).2.2.1))) && (decide ((rnd a b c d).2.2.2 = (rnd a b c d).2.2.2))))) rfl), by simp [resV]⟩
theorem law3 (W : World) (ρ : Rho) (H : AH) (xs : List AV) (args : Array Value) (hR : Rel Try.prog W.heap.size W ρ H W) (hro : RO H) (hv : VRL ρ xs args.toList) (ht : TypedVs Try.prog H 9 Try.f3.params.toList xs) :
    Calls Try.prog 3 args W fun e w' => e = .returned (.bool true) ∧ Below W.heap.size W w' := by
  rw [Try.params3] at ht
  obtain ⟨a0, xs, rfl, h0, a1, xs, rfl, h1, a2, xs, rfl, h2, a3, xs, rfl, h3, rfl⟩ := ht
  obtain ⟨a, rfl, w0⟩ := typedV_int Try.underlying22 h0
  obtain ⟨b, rfl, w1⟩ := typedV_int Try.underlying22 h1
  obtain ⟨c, rfl, w2⟩ := typedV_int Try.underlying22 h2
  obtain ⟨d, rfl, w3⟩ := typedV_int Try.underlying22 h3
  obtain ⟨k, v, H', hex, rfl⟩ := run3 H hR.aok a w0 b w1 c w2 d w3
  exact law_of mixed tabA_ok spA_ok hex hR hv
end Go.Proofs.Ytmkahjffhnfhjaa.E
namespace Go.Proofs.Ytmkahjffhnfhjaa.sipRounds
open Go.ChangeShapes Go.WideShapes Go.RowKit
set_option linter.unusedVariables false
theorem own : ownKnob Try.prog.godebug = none := by kernel_rfl
theorem types : (Try.f3.params.toList.all fun t => E.fit Try.prog 9 t && (Try.prog.readableRec t && decide (t < Try.prog.types.size))) = true := by kernel_rfl
set_option maxRecDepth 100000 in
theorem lifted (os : Os) (started : os.Started) (H : Type) (enc : TypeId × Value → H) :
    ReturnsInHanded {} Try.checked os 3 .any (Rows.sipRoundsSpec.pre6 enc Try.prog Try.f3 Rows.sipRoundsRow.domain false) (Rows.sipRoundsSpec.post enc Try.prog Try.f3 false true false false) :=
  E.law_lifted (C := Try.checked) (k := 9) (tb := 4) E.globals0 E.laid own started (by kernel_rfl) Try.func3
    (ChangeSpec.witness6 (enc := enc) (C := Try.checked) false ⟨#[], #[.int .u64 0, .int .u64 0, .int .u64 0, .int .u64 0], []⟩ 8 (by kernel_rfl) (by kernel_rfl) (by kernel_rfl) (by kernel_rfl))
    rfl rfl Try.underlying4 (fun t ht => by have h := List.all_eq_true.1 types t ht; simp only [Bool.and_eq_true, decide_eq_true_eq] at h; exact h)
    (fun ds hd => by
      rw [Try.params3] at hd
      match ds, hd with
      | [d0, d1, d2, d3], _ => rfl) E.law3
theorem over : Rows.sipRoundsRow.holds Try.pinned (OpenSpec.ofChange Rows.sipRoundsSpec) :=
  OpenClaim.holds_of_wide 3 Try.f3 rfl rfl rfl rfl rfl rfl rfl ⟨rfl, rfl, rfl, rfl, rfl⟩ rfl rfl rfl rfl rfl (by kernel_rfl) Try.func3 (by kernel_rfl)
    (of_decide_eq_true (by kernel_rfl)) (by unfold Func.isWrapper; first | (rw [if_pos (by decide +kernel)]; kernel_rfl) | (rw [if_neg (by decide +kernel)]; exact ⟨rfl, rfl⟩))
    (fun os started H enc _ => lifted os started H enc)
end Go.Proofs.Ytmkahjffhnfhjaa.sipRounds
namespace Go.Proofs.Ytmkahjffhnfhjaa
/-- The row, under a short name, for the claim. -/
theorem sipRounds_holds : Rows.SipRoundsSaid := sipRounds.over
#print axioms sipRounds_holds
end Go.Proofs.Ytmkahjffhnfhjaa
