/- GapsOnce, for every input, without conditions. -/
import Derived.Test.YtjheedfobmlalaaL
import Derived.Test.YtjheedfobmlalaaRows
import Derived.ProofKit
import Derived.OpenShut
namespace Go.Proofs.Ytjheedfobmlalaa.E
open Go.RowKit (Below)
set_option linter.unusedVariables false
set_option linter.unusedSimpArgs false
set_option maxRecDepth 100000 in
set_option maxHeartbeats 4000000 in
theorem run4 (H0 : AH) (hok0 : H0.Ok) (a0 : Int) (v : AV) (ol : List (Int × Int)) (n : Int) (hv : ∀ H', Hs H' (allL H0) → Rw 2 H' v (ol.map opRow)) : Ev tabA spA (.fn (.func 4) [] []) [.i .u32 a0, v, .i .u32 n] H0 (fun v _ => v = .b true) := by
  have hH0 : Hs H0 (allL H0 ++ []) := allL_hs hok0
  refine Ev_C (F := x4) rfl ?_
  refine C_seq ?_
  refine C_region ?_
  refine O_p (.b false) (r_mv rfl) ?_
  refine O_nil ?_
  refine C_seq ?_
  refine C_region ?_
  refine O_call (Ev.mono (awake_ev hH0) fun v1 H2 hq3 => ?_)
  obtain ⟨rfl, hH4⟩ := hq3
  refine O_p (.b true) (r_mv rfl) ?_
  refine O_nil ?_
  refine C_seq ?_
  refine C_seq ?_
  refine C_region ?_
  refine O_p v (r_mv rfl) ?_
  refine O_p (.i .i64 (((ol.length : Nat)) : Int)) (r_lenOf (v := v) (n := ol.length) rfl ((hv _ hH4.top0.fst).lenOf (List.length_map ..)) (hv _ hH4.top0.fst).isSl) ?_
  refine O_p (.b (decide (100 < (((ol.length : Nat)) : Int)))) (r_gtr rfl rfl) ?_
  refine O_nil ?_
  refine C_cond (x := (decide (100 < (((ol.length : Nat)) : Int)))) rfl (fun hc5 => ?_) (fun hc5 => ?_)
  ·
    try simp only [decide_eq_true_eq, decide_eq_false_iff_not, Bool.not_eq_true', Bool.not_eq_false', Bool.and_eq_true, Bool.or_eq_true, Bool.or_eq_false_iff, Bool.not_not, Bool.and_eq_false_iff] at hc5
    refine C_seq ?_
    refine C_region ?_
    refine O_p (.b true) (r_mv rfl) ?_
    refine O_p (.b true) (r_mv rfl) ?_
    refine O_nil ?_
    refine C_ret ?_
    refine nx_ret ?_
    exact ⟨.inr rfl, _, resL_one (r_tmp (v := .b true) rfl), rfl⟩
  ·
    try simp only [decide_eq_true_eq, decide_eq_false_iff_not, Bool.not_eq_true', Bool.not_eq_false', Bool.and_eq_true, Bool.or_eq_true, Bool.or_eq_false_iff, Bool.not_not, Bool.and_eq_false_iff] at hc5
    have hlen : ol.length ≤ 100 := by omega
    refine C_skip ?_
    refine C_seq ?_
    refine C_region ?_
    refine O_p (.i .u32 a0) (r_mv rfl) ?_
    refine O_call (Ev.mono (new_ev hH4).sp fun v6 H7 hq8 => ?_)
    obtain ⟨ga, S0, rfl, hG0, hHn⟩ := hq8
    refine O_p (.p (some (ga, 0))) (r_mv rfl) ?_
    refine O_nil ?_
    refine C_seq ?_
    refine C_seq ?_
    refine C_region ?_
    refine O_p (.i .i64 0) (r_mv rfl) ?_
    refine O_nil ?_
    refine C_block ?_
    have hH9 := ((hHn.top1).top1)
    refine C_while (fun m10 T11 H12 => ∃ s : Gp, ∃ S : HL, ∃ i : Nat, m10 = ol.length - i ∧ i ≤ ol.length ∧ GpH s ga S ∧ s.d.length ≤ 64 ∧ s.l.length ≤ i ∧ Hs H12 (S ++ ((allL H0) ++ ([]))) ∧ T11.get 0 = (.i .u32 a0) ∧ T11.get 1 = v ∧ T11.get 2 = (.i .u32 n) ∧ T11.get 7 = (.b true) ∧ T11.get 8 = (.p (some (ga, 0))) ∧ T11.get 9 = (.i .i64 (((i : Nat)) : Int))) (fun m10 T11 H12 hI13 => ?_) ol.length _ _ ⟨(⟨IntKind.u32.wrap (a0 - 1), [], []⟩ : Gp), S0, 0, rfl, Nat.zero_le _, hG0, (Nat.zero_le 64), Nat.le_refl _, hH9, rfl, rfl, rfl, rfl, rfl, rfl⟩
    obtain ⟨s, S, i, hm14, hp15, hp16, hp17, hp18, hH25, hT19, hT20, hT21, hT22, hT23, hT24⟩ := hI13
    refine C_seq ?_
    refine C_seq ?_
    refine C_region ?_
    refine O_p (.i .i64 (((i : Nat)) : Int)) (r_mv hT24) ?_
    refine O_p v (r_mv hT20) ?_
    refine O_p (.i .i64 (((ol.length : Nat)) : Int)) (r_lenOf (v := v) (n := ol.length) rfl ((hv _ hH25.top1.fst).lenOf (List.length_map ..)) (hv _ hH25.top1.fst).isSl) ?_
    refine O_p (.b (decide ((((i : Nat)) : Int) < (((ol.length : Nat)) : Int)))) (r_lss rfl rfl) ?_
    refine O_nil ?_
    refine C_cond (x := (decide ((((i : Nat)) : Int) < (((ol.length : Nat)) : Int)))) rfl (fun hc26 => ?_) (fun hc26 => ?_)
    ·
      try simp only [decide_eq_true_eq, decide_eq_false_iff_not, Bool.not_eq_true', Bool.not_eq_false', Bool.and_eq_true, Bool.or_eq_true, Bool.or_eq_false_iff, Bool.not_not, Bool.and_eq_false_iff] at hc26
      refine C_skip ?_
      refine C_seq ?_
      refine C_block ?_
      refine C_region ?_
      have hil : i < ol.length := by omega
      obtain ⟨o, hoi⟩ : ∃ y, ol[i]? = some y := ⟨_, List.getElem?_eq_getElem hil⟩
      refine O_p (.p (some (ga, 0))) (r_mv hT23) ?_
      refine O_p (.i .u32 a0) (r_mv hT19) ?_
      refine O_p v (r_mv hT20) ?_
      refine O_p (.i .i64 (((i : Nat)) : Int)) (r_mv hT24) ?_
      refine O_q (by exact Rw.row (hv _ hH25.top1.fst) rfl (i := i) rfl (r := [(.i .i64 o.1), (.i .u32 o.2)]) (op_row hoi)) fun v28 hv27 => ?_
      obtain ⟨rb29, ro30, rfl, hr31⟩ := hv27
      refine O_p (.p (some (rb29, (ro30 + 1)))) (r_fadd' rfl rfl) ?_
      refine O_p (.i .u32 o.2) (r_ldR (q := 1) rfl (hr31 _ (hv _ hH25.top1.fst)) rfl) ?_
      refine O_p (.i .u32 (IntKind.u32.wrap (a0 + o.2))) (r_bin rfl rfl rfl) ?_
      refine O_call (Ev.mono (add_ev (n := (IntKind.u32.wrap (a0 + o.2))) hp16 hH25 hp17).sp fun v32 H33 hq34 => ?_)
      obtain ⟨rfl, S35, hG36, hH37⟩ := hq34
      refine O_nil ?_
      refine C_region ?_
      refine O_p (.i .i64 (((i : Nat)) : Int)) (r_mv hT24) ?_
      refine O_p (.i .i64 ((((i : Nat)) : Int) + 1)) (by exact (r_addi rfl rfl (wrap_i64 (by omega) (by omega)))) ?_
      refine O_p (.i .i64 ((((i : Nat)) : Int) + 1)) (r_mv rfl) ?_
      refine O_nil ?_
      have hH38 := ((hH37.top1).top1)
      exact ⟨ol.length - (i + 1), by omega, (Gp.add s (IntKind.u32.wrap (a0 + o.2))), S35, (i + 1), rfl, by omega, hG36, (Gp.add_d s (IntKind.u32.wrap (a0 + o.2)) hp17), by have := Gp.add_len s (IntKind.u32.wrap (a0 + o.2)); omega, hH38, hT19, hT20, hT21, hT22, hT23, rfl⟩
    ·
      try simp only [decide_eq_true_eq, decide_eq_false_iff_not, Bool.not_eq_true', Bool.not_eq_false', Bool.and_eq_true, Bool.or_eq_true, Bool.or_eq_false_iff, Bool.not_not, Bool.and_eq_false_iff] at hc26
      refine C_exit ?_
      refine nx_exit ?_
      refine nx_exit ?_
      refine bk_hit ?_
      refine C_seq ?_
      refine C_region ?_
      refine O_p (.p (some (ga, 0))) (r_mv hT23) ?_
      refine O_p (.i .u32 n) (r_mv hT21) ?_
      refine O_call (Ev.mono (has_ev (n := n) hp16 hH25).sp fun v39 H40 hq41 => ?_)
      obtain ⟨rfl, hH42⟩ := hq41
      refine O_p (.b (Gp.has s n)) (r_mv rfl) ?_
      refine O_nil ?_
      refine C_seq ?_
      refine C_region ?_
      refine O_p (.p (some (ga, 0))) (r_mv hT23) ?_
      refine O_call (Ev.mono (cum_ev hp16 hH42).sp fun v43 H44 hq45 => ?_)
      obtain ⟨rfl, hH46⟩ := hq45
      refine O_p (.i .u32 s.c) (r_mv rfl) ?_
      refine O_nil ?_
      refine C_seq ?_
      refine C_region ?_
      refine O_p (.p (some (ga, 0))) (r_mv hT23) ?_
      refine O_call (Ev.mono (len_ev hp16 hH46).sp fun v47 H48 hq49 => ?_)
      obtain ⟨rfl, hH50⟩ := hq49
      refine O_p (.i .i64 (((s.l.length : Nat)) : Int)) (r_mv rfl) ?_
      refine O_nil ?_
      refine C_seq ?_
      refine C_region ?_
      refine O_p (.p (some (ga, 0))) (r_mv hT23) ?_
      refine O_p (.i .u32 n) (r_mv hT21) ?_
      refine O_call (Ev.mono (add_ev (n := n) hp16 hH50 hp17).sp fun v51 H52 hq53 => ?_)
      obtain ⟨rfl, S54, hG55, hH56⟩ := hq53
      refine O_p (.i .i64 (Gp.told s n)) (r_mv rfl) ?_
      refine O_nil ?_
      refine C_seq ?_
      refine C_region ?_
      refine O_p (.p (some (ga, 0))) (r_mv hT23) ?_
      refine O_p (.i .u32 n) (r_mv hT21) ?_
      refine O_call (Ev.mono (add_ev (n := n) hG55 hH56 (Gp.add_d s n hp17)).sp fun v57 H58 hq59 => ?_)
      obtain ⟨rfl, S60, hG61, hH62⟩ := hq59
      refine O_p (.i .i64 (Gp.told (Gp.add s n) n)) (r_mv rfl) ?_
      refine O_nil ?_
      refine C_seq ?_
      refine C_seq ?_
      by_cases hhas : Gp.has s n = true
      ·
        obtain ⟨ht1, hh1⟩ := Gp.told_has hhas
        obtain ⟨ht2, hh2⟩ := Gp.told_has hh1
        refine C_region ?_
        refine O_p (.i .i64 1) (r_mv (congrArg (AV.i IntKind.i64) ht1)) ?_
        refine O_p (.b false) (r_bin rfl rfl rfl) ?_
        refine O_nil ?_
        refine C_cond (x := false) rfl (fun h => by cases h) (fun _ => ?_)
        refine C_skip ?_
        refine C_seq ?_
        refine C_region ?_
        refine O_p (.b true) (r_mv hT22) ?_
        refine O_p (.b true) (r_mv rfl) ?_
        refine O_gk rfl ?_
        refine O_p (.i .i64 1) (r_mv (congrArg (AV.i IntKind.i64) ht1)) ?_
        refine O_gk rfl ?_
        refine O_p (.b true) (r_bin rfl rfl rfl) ?_
        refine O_gk rfl ?_
        refine O_p (.b true) (r_mv (congrArg AV.b hhas)) ?_
        refine O_gk rfl ?_
        refine O_p (.b true) (r_beqq rfl rfl) ?_
        refine O_p (.b true) (r_pick_t rfl rfl) ?_
        refine O_p (.b true) (r_mv rfl) ?_
        refine O_gk rfl ?_
        refine O_p (.i .i64 1) (r_mv (congrArg (AV.i IntKind.i64) ht2)) ?_
        refine O_gk rfl ?_
        refine O_p (.b true) (r_bin rfl rfl rfl) ?_
        refine O_p (.b true) (r_pick_t rfl rfl) ?_
        refine O_p (.b true) (r_mv rfl) ?_
        refine O_gk rfl ?_
        refine O_p (.p (some (ga, 0))) (r_mv hT23) ?_
        refine O_gk rfl ?_
        refine O_p (.i .u32 n) (r_mv hT21) ?_
        refine O_gk rfl ?_
        refine O_call (Ev.mono (has_ev (n := n) hG61 hH62).sp fun v63 H64 hq65 => ?_)
        obtain ⟨rfl, hH66⟩ := hq65
        rw [hh2]
        refine O_p (.b true) (r_pick_t rfl rfl) ?_
        refine O_p (.b true) (r_mv rfl) ?_
        refine O_nil ?_
        refine C_ret ?_
        exact ⟨.inr rfl, _, resL_one (r_tmp (v := .b true) rfl), rfl⟩
      ·
        have hhf : Gp.has s n = false := by simpa using hhas
        by_cases hfar : 1024 < dst s.c n
        ·
          obtain ⟨ht1, ha1⟩ := Gp.told_far hhf hfar
          have ht2 : Gp.told (Gp.add s n) n = 2 := by rw [ha1]; exact ht1
          rw [ha1, ha1] at hG61
          refine C_region ?_
          refine O_p (.i .i64 2) (r_mv (congrArg (AV.i IntKind.i64) ht1)) ?_
          refine O_p (.b true) (r_bin rfl rfl rfl) ?_
          refine O_nil ?_
          refine C_cond (x := true) rfl (fun _ => ?_) (fun h => by cases h)
          refine C_seq ?_
          refine C_region ?_
          refine O_p (.b true) (r_mv hT22) ?_
          refine O_p (.b true) (r_mv rfl) ?_
          refine O_gk rfl ?_
          refine O_p (.i .i64 2) (r_mv (congrArg (AV.i IntKind.i64) ht2)) ?_
          refine O_gk rfl ?_
          refine O_p (.b true) (r_bin rfl rfl rfl) ?_
          refine O_p (.b true) (r_pick_t rfl rfl) ?_
          refine O_p (.b true) (r_mv rfl) ?_
          refine O_gk rfl ?_
          refine O_p (.b false) (r_mv (congrArg AV.b hhf)) ?_
          refine O_gk rfl ?_
          refine O_p (.b true) (r_un rfl rfl) ?_
          refine O_p (.b true) (r_pick_t rfl rfl) ?_
          refine O_p (.b true) (r_mv rfl) ?_
          refine O_gk rfl ?_
          refine O_p (.p (some (ga, 0))) (r_mv hT23) ?_
          refine O_gk rfl ?_
          refine O_p (.i .u32 n) (r_mv hT21) ?_
          refine O_gk rfl ?_
          refine O_call (Ev.mono (has_ev (n := n) hG61 hH62).sp fun v67 H68 hq69 => ?_)
          obtain ⟨rfl, hH70⟩ := hq69
          rw [hhf]
          refine O_gk rfl ?_
          refine O_p (.b true) (r_un rfl rfl) ?_
          refine O_p (.b true) (r_pick_t rfl rfl) ?_
          refine O_p (.b true) (r_mv rfl) ?_
          refine O_gk rfl ?_
          refine O_p (.p (some (ga, 0))) (r_mv hT23) ?_
          refine O_gk rfl ?_
          refine O_call (Ev.mono (cum_ev hG61 hH70).sp fun v71 H72 hq73 => ?_)
          obtain ⟨rfl, hH74⟩ := hq73
          refine O_gk rfl ?_
          refine O_p (.i .u32 s.c) (r_mv rfl) ?_
          refine O_gk rfl ?_
          refine O_p (.b true) (r_eqq rfl rfl) ?_
          refine O_p (.b true) (r_pick_t rfl rfl) ?_
          refine O_p (.b true) (r_mv rfl) ?_
          refine O_gk rfl ?_
          refine O_p (.p (some (ga, 0))) (r_mv hT23) ?_
          refine O_gk rfl ?_
          refine O_call (Ev.mono (len_ev hG61 hH74).sp fun v75 H76 hq77 => ?_)
          obtain ⟨rfl, hH78⟩ := hq77
          refine O_gk rfl ?_
          refine O_p (.i .i64 (((s.l.length : Nat)) : Int)) (r_mv rfl) ?_
          refine O_gk rfl ?_
          refine O_p (.b true) (r_eqq rfl rfl) ?_
          refine O_p (.b true) (r_pick_t rfl rfl) ?_
          refine O_p (.b true) (r_mv rfl) ?_
          refine O_gk rfl ?_
          refine O_p (.i .u32 s.c) (r_mv rfl) ?_
          refine O_gk rfl ?_
          refine O_p (.i .u32 n) (r_mv hT21) ?_
          refine O_gk rfl ?_
          refine O_call (Ev.mono (dist_ev (x := s.c) (y := n) hH78).sp fun v79 H80 hq81 => ?_)
          obtain ⟨rfl, hH82⟩ := hq81
          refine O_gk rfl ?_
          refine O_p (.b true) (by exact (by rw [r_gtr rfl rfl, decide_eq_true hfar])) ?_
          refine O_p (.b true) (r_pick_t rfl rfl) ?_
          refine O_p (.b true) (r_mv rfl) ?_
          refine O_nil ?_
          refine C_ret ?_
          refine nx_ret ?_
          exact ⟨.inr rfl, _, resL_one (r_tmp (v := .b true) rfl), rfl⟩
        ·
          obtain ⟨ht1, hh1⟩ := Gp.told_new hhf hfar (by omega)
          obtain ⟨ht2, hh2⟩ := Gp.told_has hh1
          refine C_region ?_
          refine O_p (.i .i64 0) (r_mv (congrArg (AV.i IntKind.i64) ht1)) ?_
          refine O_p (.b false) (r_bin rfl rfl rfl) ?_
          refine O_nil ?_
          refine C_cond (x := false) rfl (fun h => by cases h) (fun _ => ?_)
          refine C_skip ?_
          refine C_seq ?_
          refine C_region ?_
          refine O_p (.b true) (r_mv hT22) ?_
          refine O_p (.b true) (r_mv rfl) ?_
          refine O_gk rfl ?_
          refine O_p (.i .i64 0) (r_mv (congrArg (AV.i IntKind.i64) ht1)) ?_
          refine O_gk rfl ?_
          refine O_p (.b false) (r_bin rfl rfl rfl) ?_
          refine O_gk rfl ?_
          refine O_p (.b false) (r_mv (congrArg AV.b hhf)) ?_
          refine O_gk rfl ?_
          refine O_p (.b true) (r_beqq rfl rfl) ?_
          refine O_p (.b true) (r_pick_t rfl rfl) ?_
          refine O_p (.b true) (r_mv rfl) ?_
          refine O_gk rfl ?_
          refine O_p (.i .i64 1) (r_mv (congrArg (AV.i IntKind.i64) ht2)) ?_
          refine O_gk rfl ?_
          refine O_p (.b true) (r_bin rfl rfl rfl) ?_
          refine O_p (.b true) (r_pick_t rfl rfl) ?_
          refine O_p (.b true) (r_mv rfl) ?_
          refine O_gk rfl ?_
          refine O_p (.p (some (ga, 0))) (r_mv hT23) ?_
          refine O_gk rfl ?_
          refine O_p (.i .u32 n) (r_mv hT21) ?_
          refine O_gk rfl ?_
          refine O_call (Ev.mono (has_ev (n := n) hG61 hH62).sp fun v83 H84 hq85 => ?_)
          obtain ⟨rfl, hH86⟩ := hq85
          rw [hh2]
          refine O_p (.b true) (r_pick_t rfl rfl) ?_
          refine O_p (.b true) (r_mv rfl) ?_
          refine O_nil ?_
          refine C_ret ?_
          exact ⟨.inr rfl, _, resL_one (r_tmp (v := .b true) rfl), rfl⟩
set_option maxRecDepth 100000 in
theorem law4 (W : World) (ρ : Rho) (H : AH) (xs : List AV) (args : Array Value) (hR : Rel Try.prog W.heap.size W ρ H W) (hro : RO H) (hv : VRL ρ xs args.toList) (ht : TypedVs Try.prog H 9 Try.f4.params.toList xs) :
    Calls Try.prog 4 args W fun e w' => e = .returned (.bool true) ∧ Below W.heap.size W w' := by
  rw [Try.params4] at ht
  obtain ⟨a0, xs, rfl, g0, a1, xs, rfl, g1, a2, xs, rfl, g2, rfl⟩ := ht
  obtain ⟨a0, rfl, wa0⟩ := typedV_int Try.underlying22 g0
  obtain ⟨ol, hol⟩ := opsT hR.aok (typedV_slice Try.underlying36 g1)
  obtain ⟨n, rfl, wn⟩ := typedV_int Try.underlying22 g2
  obtain ⟨k, v, H', hex, rfl⟩ := run4 H hR.aok a0 _ ol n hol
  exact law_of mixed tabA_ok spA_ok hex hR hv
end Go.Proofs.Ytjheedfobmlalaa.E
namespace Go.Proofs.Ytjheedfobmlalaa.gapsOnce
open Go.ChangeShapes Go.WideShapes Go.RowKit
set_option linter.unusedVariables false
theorem own : ownKnob Try.prog.godebug = none := by kernel_rfl
theorem types : (Try.f4.params.toList.all fun t => E.fit Try.prog 9 t && (Try.prog.readableRec t && decide (t < Try.prog.types.size))) = true := by kernel_rfl
set_option maxRecDepth 100000 in
theorem lifted (os : Os) (started : os.Started) (H : Type) (enc : TypeId × Value → H) :
    ReturnsInHanded {} Try.checked os 4 .any (Rows.gapsOnceSpec.pre6 enc Try.prog Try.f4 Rows.gapsOnceRow.domain false) (Rows.gapsOnceSpec.post enc Try.prog Try.f4 false true false false) :=
  E.law_lifted (C := Try.checked) (k := 9) (tb := 4) E.globals0 E.laid own started (by kernel_rfl) Try.func4
    (ChangeSpec.witness6 (enc := enc) (C := Try.checked) false ⟨#[], #[.int .u32 0, .slice none 0 0, .int .u32 0], []⟩ 8 (by kernel_rfl) (by kernel_rfl) (by kernel_rfl) (by kernel_rfl))
    rfl rfl Try.underlying4 (fun t ht => by have h := List.all_eq_true.1 types t ht; simp only [Bool.and_eq_true, decide_eq_true_eq] at h; exact h)
    (fun ds hd => by
      rw [Try.params4] at hd
      match ds, hd with
      | [d0, d1, d2], _ => rfl) E.law4
theorem over : Rows.gapsOnceRow.holds Try.pinned (OpenSpec.ofChange Rows.gapsOnceSpec) :=
  OpenClaim.holds_of_wide 4 Try.f4 rfl rfl rfl rfl rfl rfl rfl ⟨rfl, rfl, rfl, rfl, rfl⟩ rfl rfl rfl rfl rfl (by kernel_rfl) Try.func4 (by kernel_rfl)
    (of_decide_eq_true (by kernel_rfl)) (by unfold Func.isWrapper; first | (rw [if_pos (by decide +kernel)]; kernel_rfl) | (rw [if_neg (by decide +kernel)]; exact ⟨rfl, rfl⟩))
    (fun os started H enc _ => lifted os started H enc)
end Go.Proofs.Ytjheedfobmlalaa.gapsOnce
namespace Go.Proofs.Ytjheedfobmlalaa
/-- The row, under a short name, for the claim. -/
theorem gapsOnce_holds : Rows.GapsOnceSaid := gapsOnce.over
#print axioms gapsOnce_holds
end Go.Proofs.Ytjheedfobmlalaa
