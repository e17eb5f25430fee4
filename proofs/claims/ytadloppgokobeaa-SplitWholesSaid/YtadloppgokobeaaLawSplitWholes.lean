/- SplitWholes, for every input, without conditions. -/
import Derived.Test.YtadloppgokobeaaQ
import Derived.Test.YtadloppgokobeaaL
import Derived.Test.YtadloppgokobeaaRows
import Derived.ProofKit
import Derived.OpenShut
namespace Go.Proofs.Ytadloppgokobeaa.E
open Go.RowKit (Below)
set_option linter.unusedVariables false
set_option linter.unusedSimpArgs false
set_option maxRecDepth 100000 in
set_option maxHeartbeats 1000000 in
theorem run4 (H0 : AH) (hok0 : H0.Ok) (v : AV) (rows : List (List AV)) (hrv : ∀ H', Hs H' (allL H0) → Rw 12 H' v rows) (hfew : ∀ (i : Nat) (r : List AV), rows[i]? = some r → FewRow (allL H0) r) (hck : ∀ (i : Nat) (r : List AV), rows[i]? = some r → ∃ x, dlen r = x.d.length ∧ (x.d.length ≤ 1073741824 → CkRow false (allL H0) r x)) (xa xb : Ck) (a0 a1 a2 a3 a4 a5 b0 b1 b2 b3 b4 b5 : AV) (hxaf : 0 ≤ xa.f ∧ xa.f < 256) (hxbf : 0 ≤ xb.f ∧ xb.f < 256) (hxaa : 0 ≤ xa.a ∧ xa.a < 4294967296) (hfa : FewRow (allL H0) [(.i .u8 xa.k), (.i .u8 xa.f), (.i .u32 xa.a), a0, (.i .u16 xa.o), (.i .u16 xa.i), (.i .u32 xa.p), a1, a2, a3, a4, a5]) (hfb : FewRow (allL H0) [(.i .u8 xb.k), (.i .u8 xb.f), (.i .u32 xb.a), b0, (.i .u16 xb.o), (.i .u16 xb.i), (.i .u32 xb.p), b1, b2, b3, b4, b5]) : Ev tabA spA (.fn (.func 4) [] []) [v, .agg [(.i .u8 xa.k), (.i .u8 xa.f), (.i .u32 xa.a), a0, (.i .u16 xa.o), (.i .u16 xa.i), (.i .u32 xa.p), a1, a2, a3, a4, a5], .agg [(.i .u8 xb.k), (.i .u8 xb.f), (.i .u32 xb.a), b0, (.i .u16 xb.o), (.i .u16 xb.i), (.i .u32 xb.p), b1, b2, b3, b4, b5]] H0 (fun v _ => v = .b true) := by
  have hH0 := allL_hs hok0
  refine Ev_C (F := x4) rfl ?_
  refine C_seq ?_
  refine C_region ?_
  refine O_box (z := [(.i .u8 xa.k), (.i .u8 xa.f), (.i .u32 xa.a), a0, (.i .u16 xa.o), (.i .u16 xa.i), (.i .u32 xa.p), a1, a2, a3, a4, a5]) rfl fun n1 H2 hN3 => ?_
  have hH4 := hH0.new hN3
  refine O_box (z := [(.i .u8 xb.k), (.i .u8 xb.f), (.i .u32 xb.a), b0, (.i .u16 xb.o), (.i .u16 xb.i), (.i .u32 xb.p), b1, b2, b3, b4, b5]) rfl fun n5 H6 hN7 => ?_
  have hH8 := hH4.new hN7
  refine O_p (.b false) (r_mv rfl) ?_
  refine O_nil ?_
  refine C_seq ?_
  refine C_region ?_
  refine O_call (Ev_sp (v := (.b true)) rfl rfl ?_)
  refine O_p (.b true) (r_mv rfl) ?_
  refine O_nil ?_
  refine C_seq ?_
  refine C_seq ?_
  refine C_region ?_
  refine O_p v (r_mv rfl) ?_
  have hH15 := (hH8.top2)
  refine O_call (Ev.mono (few_ev hrv hfew hH15) fun v9 H10 hq11 => ?_)
  obtain ⟨b12, rfl, hb13, hH14⟩ := hq11
  cases b12
  ·
    refine O_p (.b true) (r_un rfl rfl) ?_
    refine O_p (.b true) (r_mv rfl) ?_
    refine O_gf rfl ?_
    refine O_gf rfl ?_
    refine O_gf rfl ?_
    refine O_p (.b true) (r_pick_t rfl rfl) ?_
    refine O_p (.b true) (r_mv rfl) ?_
    refine O_gf rfl ?_
    refine O_gf rfl ?_
    refine O_gf rfl ?_
    refine O_p (.b true) (r_pick_t rfl rfl) ?_
    refine O_nil ?_
    refine C_cond (x := true) rfl (fun _ => ?_) (fun h => by cases h)
    refine C_seq ?_
    refine C_region ?_
    refine O_p (.b true) (r_mv rfl) ?_
    refine O_p (.b true) (r_mv rfl) ?_
    refine O_nil ?_
    refine C_ret ?_
    refine nx_ret ?_
    exact ⟨.inr rfl, _, resL_one (r_tmp (v := .b true) rfl), rfl⟩
  ·
    refine O_p (.b false) (r_un rfl rfl) ?_
    refine O_p (.b false) (r_mv rfl) ?_
    refine O_gk rfl ?_
    refine O_p (.agg [(.i .u8 xa.k), (.i .u8 xa.f), (.i .u32 xa.a), a0, (.i .u16 xa.o), (.i .u16 xa.i), (.i .u32 xa.p), a1, a2, a3, a4, a5]) (r_ldA rfl hH14.get2 rfl) ?_
    refine O_gk rfl ?_
    refine O_call (Ev.mono (few_ev1 (r := [(.i .u8 xa.k), (.i .u8 xa.f), (.i .u32 xa.a), a0, (.i .u16 xa.o), (.i .u16 xa.i), (.i .u32 xa.p), a1, a2, a3, a4, a5]) hfa hH14) fun v16 H17 hq18 => ?_)
    obtain ⟨b19, rfl, hb20, hH21⟩ := hq18
    cases b19
    ·
      refine O_gk rfl ?_
      refine O_p (.b true) (r_un rfl rfl) ?_
      refine O_p (.b true) (r_pick_f rfl rfl) ?_
      refine O_p (.b true) (r_mv rfl) ?_
      refine O_gf rfl ?_
      refine O_gf rfl ?_
      refine O_gf rfl ?_
      refine O_p (.b true) (r_pick_t rfl rfl) ?_
      refine O_nil ?_
      refine C_cond (x := true) rfl (fun _ => ?_) (fun h => by cases h)
      refine C_seq ?_
      refine C_region ?_
      refine O_p (.b true) (r_mv rfl) ?_
      refine O_p (.b true) (r_mv rfl) ?_
      refine O_nil ?_
      refine C_ret ?_
      refine nx_ret ?_
      exact ⟨.inr rfl, _, resL_one (r_tmp (v := .b true) rfl), rfl⟩
    ·
      refine O_gk rfl ?_
      refine O_p (.b false) (r_un rfl rfl) ?_
      refine O_p (.b false) (r_pick_f rfl rfl) ?_
      refine O_p (.b false) (r_mv rfl) ?_
      refine O_gk rfl ?_
      refine O_p (.agg [(.i .u8 xb.k), (.i .u8 xb.f), (.i .u32 xb.a), b0, (.i .u16 xb.o), (.i .u16 xb.i), (.i .u32 xb.p), b1, b2, b3, b4, b5]) (r_ldA rfl hH21.get1 rfl) ?_
      refine O_gk rfl ?_
      refine O_call (Ev.mono (few_ev1 (r := [(.i .u8 xb.k), (.i .u8 xb.f), (.i .u32 xb.a), b0, (.i .u16 xb.o), (.i .u16 xb.i), (.i .u32 xb.p), b1, b2, b3, b4, b5]) hfb hH21) fun v22 H23 hq24 => ?_)
      obtain ⟨b25, rfl, hb26, hH27⟩ := hq24
      cases b25
      ·
        refine O_gk rfl ?_
        refine O_p (.b true) (r_un rfl rfl) ?_
        refine O_p (.b true) (r_pick_f rfl rfl) ?_
        refine O_nil ?_
        refine C_cond (x := true) rfl (fun _ => ?_) (fun h => by cases h)
        refine C_seq ?_
        refine C_region ?_
        refine O_p (.b true) (r_mv rfl) ?_
        refine O_p (.b true) (r_mv rfl) ?_
        refine O_nil ?_
        refine C_ret ?_
        refine nx_ret ?_
        exact ⟨.inr rfl, _, resL_one (r_tmp (v := .b true) rfl), rfl⟩
      ·
        refine O_gk rfl ?_
        refine O_p (.b false) (r_un rfl rfl) ?_
        refine O_p (.b false) (r_pick_f rfl rfl) ?_
        refine O_nil ?_
        refine C_cond (x := false) rfl (fun h => by cases h) (fun _ => ?_)
        refine C_skip ?_
        refine C_seq ?_
        refine C_region ?_
        refine O_p v (r_mv rfl) ?_
        obtain ⟨hn80, hdl⟩ := hb13 rfl
        obtain ⟨cs, hcr, hcd⟩ := CksR.ex (P := fun x => x.d.length ≤ 2000) fun i r hr => by
          obtain ⟨x, hx1, hx2⟩ := hck i r hr
          have := hdl i r hr
          exact ⟨x, hx2 (by omega), by omega⟩
        have hrl := hcr.1
        have hsum : (cs.map Ck.d).flatten.length ≤ 1073741824 := by have h1 := ck_bound hcd; omega
        have hcks : Cks false (allL H0) v cs := ⟨rows, hrv, hcr⟩
        refine O_call (Ev.mono (whole_ev hcks (by omega) hsum hH27) fun v28 H29 hq30 => ?_)
        obtain ⟨o31, c32, rfl, hSq33, hH34⟩ := hq30
        refine O_p (.tup [(.agg [(.i .u16 (msgS cs).o), (.b (msgS cs).u), (.i .u32 (msgS cs).p), o31]), (.b (isM cs))]) (r_mv rfl) ?_
        refine O_p (.agg [(.i .u16 (msgS cs).o), (.b (msgS cs).u), (.i .u32 (msgS cs).p), o31]) (r_ext rfl rfl) ?_
        refine O_p (.b (isM cs)) (r_ext rfl rfl) ?_
        refine O_alloc fun n35 H36 hN37 => ?_
        have hH38 := hH34.new hN37
        refine O_store (vs := [(.i .u16 (msgS cs).o), (.b (msgS cs).u), (.i .u32 (msgS cs).p), o31]) (c' := [(.i .u16 (msgS cs).o), (.b (msgS cs).u), (.i .u32 (msgS cs).p), o31]) rfl (by rfl) hH38.get0 rfl (List.cons_ne_nil _ _) (Nat.le_of_ble_eq_true rfl) rfl fun H39 hW40 => ?_
        have hH41 := hH38.wr0 hW40
        refine O_p (.b (isM cs)) (r_mv rfl) ?_
        refine O_nil ?_
        refine C_seq ?_
        refine C_region ?_
        refine O_p v (r_mv rfl) ?_
        have hH42 := (hH41.top2)
        refine O_call (Ev.mono (rwhole_ev hcks (by omega) hsum hH42) fun v43 H44 hq45 => ?_)
        obtain ⟨o46, c47, rfl, hSq48, hH49⟩ := hq45
        refine O_p (.tup [(.agg [(.i .u16 (msgS cs).o), (.b (msgS cs).u), (.i .u32 (msgS cs).p), o46]), (.b (isM cs))]) (r_mv rfl) ?_
        refine O_p (.agg [(.i .u16 (msgS cs).o), (.b (msgS cs).u), (.i .u32 (msgS cs).p), o46]) (r_ext rfl rfl) ?_
        refine O_p (.b (isM cs)) (r_ext rfl rfl) ?_
        refine O_alloc fun n50 H51 hN52 => ?_
        have hH53 := hH49.new hN52
        refine O_store (vs := [(.i .u16 (msgS cs).o), (.b (msgS cs).u), (.i .u32 (msgS cs).p), o46]) (c' := [(.i .u16 (msgS cs).o), (.b (msgS cs).u), (.i .u32 (msgS cs).p), o46]) rfl (by rfl) hH53.get0 rfl (List.cons_ne_nil _ _) (Nat.le_of_ble_eq_true rfl) rfl fun H54 hW55 => ?_
        have hH56 := hH53.wr0 hW55
        refine O_p (.b (isM cs)) (r_mv rfl) ?_
        refine O_nil ?_
        refine C_seq ?_
        refine C_draw fun b57 H58 hbase59 hA60 => ?_
        have hH61 := hH56.keep (by have := hA60.1; omega) (fun q _ => hA60.2 q) ((hH56.old).aside hA60).ok
        refine D_l (v := (.b true)) rfl rfl rfl (r_mv rfl) ?_
        refine D_l (v := (.b true)) rfl rfl rfl (r_mv rfl) ?_
        refine D_gk rfl ?_
        refine D_l (v := (.b (isM cs))) rfl rfl rfl (r_mv rfl) ?_
        refine D_gk rfl ?_
        refine D_l (v := (.b (isM cs))) rfl rfl rfl (r_mv rfl) ?_
        refine D_gk rfl ?_
        refine D_l (v := (.b true)) rfl rfl rfl (r_beqq rfl rfl) ?_
        refine D_l (v := (.b true)) rfl rfl rfl (r_pick_t rfl rfl) ?_
        refine D_l (v := (.b true)) rfl rfl rfl (r_mv rfl) ?_
        refine D_gk rfl ?_
        refine D_r (v := (.agg [(.i .u16 (msgS cs).o), (.b (msgS cs).u), (.i .u32 (msgS cs).p), o31])) rfl rfl rfl (r_ldA rfl hH61.get3 rfl) ?_
        refine D_gk rfl ?_
        refine D_r (v := (.agg [(.i .u16 (msgS cs).o), (.b (msgS cs).u), (.i .u32 (msgS cs).p), o46])) rfl rfl rfl (r_ldA rfl hH61.get0 rfl) ?_
        refine D_gk rfl ?_
        have hH62 := ((hH61.top1).top4)
        have hH63 := Hs.unassoc hH62
        refine D_call (Ev.mono (same13_ev (x := msgS cs) (y := msgS cs) (fun _ hh => Sq.bs hSq33 hh) (fun _ hh => Sq.bs (R := []) hSq48 (by rw [List.append_nil]; exact hh.sub)) hH63) fun v64 H65 hq66 => ?_)
        rw [sameM_refl] at hq66
        obtain ⟨rfl, hH67⟩ := hq66
        refine And.intro (And.intro (Or.inl rfl) (And.intro (Or.inl rfl) True.intro)) ?_
        refine D_l (v := (.b true)) rfl rfl rfl (r_pick_t rfl rfl) ?_
        refine D_l (v := (.b true)) rfl rfl rfl (r_mv rfl) ?_
        refine D_gk rfl ?_
        refine D_r (v := (.agg [(.i .u8 xa.k), (.i .u8 xa.f), (.i .u32 xa.a), a0, (.i .u16 xa.o), (.i .u16 xa.i), (.i .u32 xa.p), a1, a2, a3, a4, a5])) rfl rfl rfl (r_ldA rfl hH67.assoc.get6 rfl) ?_
        refine D_gk rfl ?_
        refine D_r (v := (.agg [(.i .u8 xb.k), (.i .u8 xb.f), (.i .u32 xb.a), b0, (.i .u16 xb.o), (.i .u16 xb.i), (.i .u32 xb.p), b1, b2, b3, b4, b5])) rfl rfl rfl (r_ldA rfl hH67.assoc.get5 rfl) ?_
        refine D_gk rfl ?_
        refine D_r (v := (.agg [(.i .u8 xa.k), (.i .u8 xa.f), (.i .u32 xa.a), a0, (.i .u16 xa.o), (.i .u16 xa.i), (.i .u32 xa.p), a1, a2, a3, a4, a5])) rfl rfl rfl (r_ldA rfl hH67.assoc.get6 rfl) ?_
        refine D_gk rfl ?_
        refine D_r (v := (.agg [(.i .u8 xb.k), (.i .u8 xb.f), (.i .u32 xb.a), b0, (.i .u16 xb.o), (.i .u16 xb.i), (.i .u32 xb.p), b1, b2, b3, b4, b5])) rfl rfl rfl (r_ldA rfl hH67.assoc.get5 rfl) ?_
        refine D_gk rfl ?_
        refine D_call (Ev.mono (follows_ev xa xb _ _ _ _ _ _ _ _ _ _ _ _ hxaf hxbf hxaa hH67.assoc) fun v68 H69 hq70 => ?_)
        obtain ⟨rfl, hH71⟩ := hq70
        refine And.intro (And.intro (Or.inr (look_run rfl rfl (r_ldA rfl hH71.get5 rfl))) (And.intro (Or.inr (look_run rfl rfl (r_ldA rfl hH71.get6 rfl))) (And.intro (Or.inl rfl) (And.intro (Or.inl rfl) True.intro)))) ?_
        refine D_gk rfl ?_
        refine D_call (Ev.mono (rfollows_ev xa xb _ _ _ _ _ _ _ _ _ _ _ _ hxaf hxbf hxaa hH71) fun v72 H73 hq74 => ?_)
        obtain ⟨rfl, hH75⟩ := hq74
        refine And.intro (And.intro (Or.inl rfl) (And.intro (Or.inl rfl) True.intro)) ?_
        refine D_gk rfl ?_
        refine D_l (v := (.b true)) rfl rfl rfl (r_beqq rfl rfl) ?_
        refine D_l (v := (.b true)) rfl rfl rfl (r_pick_t rfl rfl) ?_
        refine D_l (v := (.b true)) rfl rfl rfl (r_mv rfl) ?_
        refine D_nil ?_
        refine C_ret ?_
        exact ⟨.inr rfl, _, resL_one (r_tmp (v := .b true) rfl), rfl⟩
set_option maxRecDepth 100000 in
theorem run4T (H : AH) (hok : H.Ok) {v a b : AV} (h : Typed Try.prog H 9 28 [v]) (ha : TypedV Try.prog H 9 39 a) (hb : TypedV Try.prog H 9 39 b) : Ev tabA spA (.fn (.func 4) [] []) [v, a, b] H (fun v _ => v = .b true) := by
  obtain ⟨p, n, c, rfl, hnc, _, hr⟩ := typed_recs (z := 12) Try.underlying28 (by kernel_rfl) h
  obtain ⟨rows, hrw, _, hrt⟩ := Rw.given hnc hr
  obtain ⟨la, rfl, ga⟩ := typedV_struct Try.underlying39 ha
  obtain ⟨lb, rfl, gb⟩ := typedV_struct Try.underlying39 hb
  obtain ⟨xa, a0, a1, a2, a3, a4, a5, ea, f1, f2, _, f3, _⟩ := chunkT hok (k := 3) ga
  obtain ⟨xb, b0, b1, b2, b3, b4, b5, eb, k1, _, _, k3, _⟩ := chunkT hok (k := 3) gb
  subst ea; subst eb
  refine run4 H hok _ rows (fun H' hh => hrw.ro (R := []) hok (by rw [List.append_nil]; exact hh)) (fun i r hi => ?_) (fun i r hi => ?_) xa xb _ _ _ _ _ _ _ _ _ _ _ _ f1 k1 f2 f3 k3
  · obtain ⟨x, _, _, _, _, _, _, _, _, _, _, f, _⟩ := chunkT hok (k := 2) (hrt i r hi)
    exact f
  · obtain ⟨x, _, _, _, _, _, _, _, _, _, d, _, f⟩ := chunkT hok (k := 2) (hrt i r hi)
    exact ⟨x, d, f⟩
set_option maxRecDepth 100000 in
theorem law4 (W : World) (ρ : Rho) (H : AH) (xs : List AV) (args : Array Value) (hR : Rel Try.prog W.heap.size W ρ H W) (hro : RO H) (hv : VRL ρ xs args.toList) (ht : TypedVs Try.prog H 9 Try.f4.params.toList xs) :
    Calls Try.prog 4 args W fun e w' => e = .returned (.bool true) ∧ Below W.heap.size W w' := by
  rw [Try.params4] at ht
  obtain ⟨a0, xs, rfl, g0, a1, xs, rfl, g1, a2, xs, rfl, g2, rfl⟩ := ht
  obtain ⟨k, v, H', hex, rfl⟩ := run4T H hR.aok (typedV_slice Try.underlying28 g0) g1 g2
  exact law_of mixed tabA_ok spA_ok hex hR hv
end Go.Proofs.Ytadloppgokobeaa.E
namespace Go.Proofs.Ytadloppgokobeaa.splitWholes
open Go.ChangeShapes Go.WideShapes Go.RowKit
set_option linter.unusedVariables false
theorem own : ownKnob Try.prog.godebug = none := by kernel_rfl
theorem types : (Try.f4.params.toList.all fun t => E.fit Try.prog 9 t && (Try.prog.readableRec t && decide (t < Try.prog.types.size))) = true := by kernel_rfl
set_option maxRecDepth 100000 in
theorem lifted (os : Os) (started : os.Started) (H : Type) (enc : TypeId × Value → H) :
    ReturnsInHanded {} Try.checked os 4 .any (Rows.splitWholesSpec.pre6 enc Try.prog Try.f4 Rows.splitWholesRow.domain false) (Rows.splitWholesSpec.post enc Try.prog Try.f4 false true false false) :=
  E.law_lifted (C := Try.checked) (k := 9) (tb := 4) E.globals0 E.laid own started (by kernel_rfl) Try.func4
    (ChangeSpec.witness6 (enc := enc) (C := Try.checked) false ⟨#[], #[.slice none 0 0, .agg #[.int .u8 0, .int .u8 0, .int .u32 0, .int .u32 0, .int .u16 0, .int .u16 0, .int .u32 0, .slice none 0 0, .slice none 0 0, .slice none 0 0, .slice none 0 0, .slice none 0 0], .agg #[.int .u8 0, .int .u8 0, .int .u32 0, .int .u32 0, .int .u16 0, .int .u16 0, .int .u32 0, .slice none 0 0, .slice none 0 0, .slice none 0 0, .slice none 0 0, .slice none 0 0]], []⟩ 8 (by kernel_rfl) (by kernel_rfl) (by kernel_rfl) (by kernel_rfl))
    rfl rfl Try.underlying4 (fun t ht => by have h := List.all_eq_true.1 types t ht; simp only [Bool.and_eq_true, decide_eq_true_eq] at h; exact h)
    (fun ds hd => by
      rw [Try.params4] at hd
      match ds, hd with
      | [d0, d1, d2], _ => rfl) E.law4
theorem over : Rows.splitWholesRow.holds Try.pinned (OpenSpec.ofChange Rows.splitWholesSpec) :=
  OpenClaim.holds_of_wide 4 Try.f4 rfl rfl rfl rfl rfl rfl rfl ⟨rfl, rfl, rfl, rfl, rfl⟩ rfl rfl rfl rfl rfl (by kernel_rfl) Try.func4 (by kernel_rfl)
    (of_decide_eq_true (by kernel_rfl)) (by unfold Func.isWrapper; first | (rw [if_pos (by decide +kernel)]; kernel_rfl) | (rw [if_neg (by decide +kernel)]; exact ⟨rfl, rfl⟩))
    (fun os started H enc _ => lifted os started H enc)
end Go.Proofs.Ytadloppgokobeaa.splitWholes
namespace Go.Proofs.Ytadloppgokobeaa
/-- The row, under a short name, for the claim. -/
theorem splitWholes_holds : Rows.SplitWholesSaid := splitWholes.over
#print axioms splitWholes_holds
end Go.Proofs.Ytadloppgokobeaa
