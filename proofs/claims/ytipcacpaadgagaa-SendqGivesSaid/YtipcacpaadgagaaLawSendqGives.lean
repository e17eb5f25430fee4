/- SendqGives, for every input, without conditions. -/
import Derived.Test.YtipcacpaadgagaaQQ3
import Derived.Test.YtipcacpaadgagaaRows
import Derived.ProofKit
import Derived.OpenShut
namespace Go.Proofs.Ytipcacpaadgagaa.E
open Go.RowKit (Below)
set_option linter.unusedVariables false
set_option linter.unusedSimpArgs false
set_option maxRecDepth 100000 in
set_option maxHeartbeats 2000000 in
theorem run7t (H0 : AH) (hok0 : H0.Ok) (a0 n0 so si u0 : Int) (w_a0 : (Lit.int .u32 a0).wf = true) : Ev tabA spA (.fn (.func 7) [] []) [.i .u32 a0, .i .i64 n0, .i .u16 so, .i .u16 si, .b true, .i .i64 u0] H0 (fun v _ => v = .b true) := by
  have hH0 : Hs H0 [] := ⟨List.Pairwise.nil, fun q hq => (by cases hq), hok0⟩
  refine Ev_C (F := x7) rfl ?_
  have ha0 : 0 ≤ a0 ∧ a0 < 4294967296 := wf_u32 w_a0
  refine C_seq ?_
  refine C_region ?_
  refine O_p (.b false) (r_mv rfl) ?_
  refine O_nil ?_
  refine C_seq ?_
  refine C_region ?_
  refine O_call (Ev_sp (v := (.b true)) rfl rfl ?_)
  refine O_p (.b true) (r_mv rfl) ?_
  refine O_nil ?_
  refine C_seq ?_
  refine C_region ?_
  refine O_p (.i .i64 n0) (r_mv rfl) ?_
  obtain ⟨q1, hq1, hlq1⟩ := and_nat n0 15 (by decide)
  refine O_p (.i .i64 (((q1 : Nat)) : Int)) (by exact (by rw [← hq1]; exact r_bin rfl rfl rfl)) ?_
  refine O_p (.i .i64 (1 + (((q1 : Nat)) : Int))) (by exact (r_addi rfl rfl (wrap_i64 (by omega) (by omega)))) ?_
  refine O_p (.i .i64 (1 + (((q1 : Nat)) : Int))) (r_mv rfl) ?_
  refine O_nil ?_
  refine C_seq ?_
  refine C_region ?_
  refine O_p (.i .i64 u0) (r_mv rfl) ?_
  obtain ⟨q2, hq2, hlq2⟩ := and_nat u0 65535 (by decide)
  refine O_p (.i .i64 (((q2 : Nat)) : Int)) (by exact (by rw [← hq2]; exact r_bin rfl rfl rfl)) ?_
  refine O_p (.i .i64 (((q2 : Nat)) : Int)) (r_mv rfl) ?_
  refine O_nil ?_
  refine C_seq ?_
  refine C_region ?_
  refine O_p (.i .u32 a0) (r_mv rfl) ?_
  refine O_call (Ev.mono (new_ev (a := a0) hH0) fun v3 H4 hq5 => ?_)
  obtain ⟨F6, rfl, hH7⟩ := hq5
  have hH8 : Hs _ (([(F6, some (.cells [.sl none 0 0 0, .i .u32 a0] true))] ++ []) ++ (([] : HL) ++ _)) := hH7
  have hQ0 := qp_new0 (F := F6) a0
  refine O_p (.p (some (F6, 0))) (r_mv rfl) ?_
  refine O_nil ?_
  refine C_seq ?_
  refine C_region ?_
  refine O_p (.sl none 0 0 0) (r_mv rfl) ?_
  refine O_nil ?_
  refine C_seq ?_
  refine C_seq ?_
  refine C_region ?_
  refine O_p (.i .i64 0) (r_mv rfl) ?_
  refine O_nil ?_
  refine C_block ?_
  have hH9 := ((hH8.top1).top1)
  have hH10 := hH9.addnil
  have hH11 := hH10.addnil
  refine C_while (fun m12 T13 H14 => ∃ ov : AV, ∃ oc : List AV, ∃ rows : List (List AV), ∃ Bd : HL, ∃ j : Nat, m12 = (1 + q1) - j ∧ j ≤ (1 + q1) ∧ Sq 12 ov oc rows.flatten ∧ CxsR Bd rows (List.replicate j ((⟨0, 4, 0, so, si, 0, .sl none 0 0 0, .sl none 0 0 0, .sl none 0 0 0, .sl none 0 0 0, [7]⟩ : Cx), 0)) ∧ Hs H14 ((qseg ov oc) ++ (Bd ++ (([(F6, some (.cells [.sl none 0 0 0, .i .u32 a0] true))] ++ []) ++ (([] : HL) ++ ([]))))) ∧ T13.get 0 = (.i .u32 a0) ∧ T13.get 2 = (.i .u16 so) ∧ T13.get 3 = (.i .u16 si) ∧ T13.get 4 = (.b true) ∧ T13.get 13 = (.b true) ∧ T13.get 14 = (.i .i64 (1 + (((q1 : Nat)) : Int))) ∧ T13.get 15 = (.i .i64 (((q2 : Nat)) : Int)) ∧ T13.get 16 = (.p (some (F6, 0))) ∧ T13.get 17 = ov ∧ T13.get 18 = (.i .i64 (((j : Nat)) : Int))) (fun m12 T13 H14 hI15 => ?_) (1 + q1) _ _ ⟨(.sl none 0 0 0), [], [], [], 0, rfl, Nat.zero_le _, Sq.nil, CxsR.nil, hH11, rfl, rfl, rfl, rfl, rfl, rfl, rfl, rfl, rfl, rfl⟩
  obtain ⟨ov, oc, rows, Bd, j, hm16, hp17, hp18, hp19, hH30, hT20, hT21, hT22, hT23, hT24, hT25, hT26, hT27, hT28, hT29⟩ := hI15
  refine C_seq ?_
  refine C_seq ?_
  refine C_region ?_
  refine O_p (.i .i64 (((j : Nat)) : Int)) (r_mv hT29) ?_
  refine O_p (.i .i64 (1 + (((q1 : Nat)) : Int))) (r_mv hT25) ?_
  refine O_p (.b (decide ((((j : Nat)) : Int) < (1 + (((q1 : Nat)) : Int))))) (r_lss rfl rfl) ?_
  refine O_nil ?_
  refine C_cond (x := (decide ((((j : Nat)) : Int) < (1 + (((q1 : Nat)) : Int))))) rfl (fun hc31 => ?_) (fun hc31 => ?_)
  ·
    try simp only [decide_eq_true_eq, decide_eq_false_iff_not, Bool.not_eq_true', Bool.not_eq_false', Bool.and_eq_true, Bool.or_eq_true, Bool.or_eq_false_iff, Bool.not_not, Bool.and_eq_false_iff] at hc31
    refine C_skip ?_
    refine C_seq ?_
    refine C_block ?_
    refine C_seq ?_
    refine C_region ?_
    refine O_p (.i .u16 so) (r_mv hT21) ?_
    refine O_p (.i .u16 si) (r_mv hT22) ?_
    refine O_bslice (c := [(.i .u8 7)]) rfl fun n32 H33 hN34 => ?_
    have hH35 := hH30.new hN34
    refine O_p (.agg [(.i .u8 0), (.i .u8 0), (.i .u32 0), (.i .u32 0), (.i .u16 so), (.i .u16 si), (.i .u32 0), (.sl none 0 0 0), (.sl none 0 0 0), (.sl none 0 0 0), (.sl none 0 0 0), (.sl (some (n32, 0)) 1 1 0)]) (r_build rfl) ?_
    refine O_alloc fun n36 H37 hN38 => ?_
    have hH39 := hH35.new hN38
    refine O_store (vs := [(.i .u8 0), (.i .u8 0), (.i .u32 0), (.i .u32 0), (.i .u16 so), (.i .u16 si), (.i .u32 0), (.sl none 0 0 0), (.sl none 0 0 0), (.sl none 0 0 0), (.sl none 0 0 0), (.sl (some (n32, 0)) 1 1 0)]) (c' := [(.i .u8 0), (.i .u8 0), (.i .u32 0), (.i .u32 0), (.i .u16 so), (.i .u16 si), (.i .u32 0), (.sl none 0 0 0), (.sl none 0 0 0), (.sl none 0 0 0), (.sl none 0 0 0), (.sl (some (n32, 0)) 1 1 0)]) rfl (by rfl) hH39.get0 rfl (List.cons_ne_nil _ _) (Nat.le_of_ble_eq_true rfl) rfl fun H40 hW41 => ?_
    have hH42 := hH39.wr0 hW41
    refine O_nil ?_
    refine C_seq ?_
    refine C_seq ?_
    refine C_region ?_
    refine O_p (.b true) (r_mv hT23) ?_
    refine O_nil ?_
    refine C_cond (x := true) rfl (fun _ => ?_) (fun h => by cases h)
    refine C_region ?_
    refine O_p (.p (some (n36, 1))) (r_fadd' rfl rfl) ?_
    refine O_store (vs := [(.i .u8 4)]) (c' := [(.i .u8 0), (.i .u8 4), (.i .u32 0), (.i .u32 0), (.i .u16 so), (.i .u16 si), (.i .u32 0), (.sl none 0 0 0), (.sl none 0 0 0), (.sl none 0 0 0), (.sl none 0 0 0), (.sl (some (n32, 0)) 1 1 0)]) rfl (by rfl) hH42.get0 rfl (List.cons_ne_nil _ _) (Nat.le_of_ble_eq_true rfl) rfl fun H43 hW44 => ?_
    have hH45 := hH42.wr0 hW44
    refine O_nil ?_
    refine C_region ?_
    refine O_p ov (r_mv hT28) ?_
    refine O_p (.agg [(.i .u8 0), (.i .u8 4), (.i .u32 0), (.i .u32 0), (.i .u16 so), (.i .u16 si), (.i .u32 0), (.sl none 0 0 0), (.sl none 0 0 0), (.sl none 0 0 0), (.sl none 0 0 0), (.sl (some (n32, 0)) 1 1 0)]) (r_ldA rfl hH45.get0 rfl) ?_
    refine O_bslice (c := [(.i .u8 0), (.i .u8 4), (.i .u32 0), (.i .u32 0), (.i .u16 so), (.i .u16 si), (.i .u32 0), (.sl none 0 0 0), (.sl none 0 0 0), (.sl none 0 0 0), (.sl none 0 0 0), (.sl (some (n32, 0)) 1 1 0)]) rfl fun n46 H47 hN48 => ?_
    have hH49 := hH45.new hN48
    refine O_qh (by exact r_appq (n := j) (k := 1) (new := [(.i .u8 0), (.i .u8 4), (.i .u32 0), (.i .u32 0), (.i .u16 so), (.i .u16 si), (.i .u32 0), (.sl none 0 0 0), (.sl none 0 0 0), (.sl none 0 0 0), (.sl none 0 0 0), (.sl (some (n32, 0)) 1 1 0)]) hH49.top3 hp18 rfl rfl rfl (src_blk hH49.get0 (by rfl)) rfl (by decide) (by decide) ((flat_len hp19.lens).trans (by rw [hp19.1, List.length_replicate])) (by first | omega | (simp only [List.length_take, List.length_drop, List.length_append, List.length_cons, List.length_nil, beN_len] <;> omega))) fun o50 H51 hA53 => ?_
    obtain ⟨c52, hA53, hH54⟩ := hA53
    refine O_p o50 (r_mv rfl) ?_
    refine O_nil ?_
    refine C_region ?_
    refine O_p (.i .i64 (((j : Nat)) : Int)) (r_mv hT29) ?_
    refine O_p (.i .i64 ((((j : Nat)) : Int) + 1)) (by exact (r_addi rfl rfl (wrap_i64 (by omega) (by omega)))) ?_
    refine O_p (.i .i64 ((((j : Nat)) : Int) + 1)) (r_mv rfl) ?_
    refine O_nil ?_
    have hH55 := ((hH54.sub1).sub1)
    have hH56 := (((((hH55.top4).top4).top3).top4).top4)
    have hH57 := ((hH56.top2).top2)
    have hH58 := Hs.unassoc hH57
    have hH59 := (hH58.top1)
    exact ⟨(1 + q1) - (j + 1), by omega, o50, c52, (rows ++ [cxRow (⟨0, 4, 0, so, si, 0, .sl none 0 0 0, .sl none 0 0 0, .sl none 0 0 0, .sl none 0 0 0, [7]⟩ : Cx) 0 (.sl (some (n32, 0)) 1 1 0)]), (Bd ++ [(n32, some (.cells (bcells [7]) true))]), (j + 1), rfl, by omega, by rw [List.flatten_append]; exact hA53, by rw [List.replicate_succ']; exact (hp19.mono fun _ hh => hh.fst).snoc (x := ((⟨0, 4, 0, so, si, 0, .sl none 0 0 0, .sl none 0 0 0, .sl none 0 0 0, .sl none 0 0 0, [7]⟩ : Cx), 0)) gD, hH59, hT20, hT21, hT22, hT23, hT24, hT25, hT26, hT27, rfl, rfl⟩
  ·
    try simp only [decide_eq_true_eq, decide_eq_false_iff_not, Bool.not_eq_true', Bool.not_eq_false', Bool.and_eq_true, Bool.or_eq_true, Bool.or_eq_false_iff, Bool.not_not, Bool.and_eq_false_iff] at hc31
    refine C_exit ?_
    refine nx_exit ?_
    refine nx_exit ?_
    refine bk_hit ?_
    refine C_seq ?_
    refine C_region ?_
    refine O_p (.p (some (F6, 0))) (r_mv hT27) ?_
    refine O_p ov (r_mv hT28) ?_
    refine O_p (.i .i64 (((q2 : Nat)) : Int)) (r_mv hT26) ?_
    have hjK : j = (1 + q1) := by omega
    have hCk := hp19
    rw [hjK] at hCk
    have hH60 := ((hH30.top1).top1)
    have hH61 := Hs.unassoc hH60
    have hH62 := ((hH61.top2).top2)
    refine O_call (Ev.mono (qp_push (un := ((q2 : Nat) : Int)) (tr := -1) (rows := rows) (cs := List.replicate (1 + q1) ((⟨0, 4, 0, so, si, 0, .sl none 0 0 0, .sl none 0 0 0, .sl none 0 0 0, .sl none 0 0 0, [7]⟩ : Cx), 0)) hQ0 (fun H' hh => Sq.rd (R := Bd) hp18 hh hCk.lens (by decide)) (hCk.mono fun H' hh => hh.sub) (fun c hc => by rw [List.eq_of_mem_replicate hc]; rfl) (by rw [List.length_replicate]; omega) (by rw [List.length_replicate]; show 0 + _ ≤ _; omega) (fun c hc => by rw [List.eq_of_mem_replicate hc]; show 1 ≤ 1000000; decide) ha0 hH62) fun v63 H64 hq65 => ?_)
    obtain ⟨L1, D1, m1, rfl, hQ1r, _, hH1⟩ := hq65
    rw [List.length_replicate] at hQ1r
    have hQ1 : Qp F6 (gE (⟨0, 4, 0, so, si, 0, .sl none 0 0 0, .sl none 0 0 0, .sl none 0 0 0, .sl none 0 0 0, [7]⟩ : Cx) a0 (1 + q1)) (List.replicate (1 + q1) m1) [⟨m1, ((q2 : Nat) : Int), -1, false⟩] (w32 (a0 + (((1 + q1) : Nat) : Int))) D1 L1 := hQ1r
    refine O_p (.i .i64 0) (r_mv rfl) ?_
    refine O_nil ?_
    refine C_seq ?_
    refine C_region ?_
    refine O_p (.p (some (F6, 0))) (r_mv hT27) ?_
    refine O_call (Ev.mono (piece_ev (n := 5) (by have := Nat.le_refl 3; omega) hH1) fun v66 H67 hq68 => ?_)
    obtain ⟨db69, rfl, hH70⟩ := hq68
    refine O_bslice (c := [(.i .u8 0), (.i .u8 3), (.i .u32 0), (.i .u32 0), (.i .u16 0), (.i .u16 0), (.i .u32 0), (.sl none 0 0 0), (.sl none 0 0 0), (.sl none 0 0 0), (.sl none 0 0 0), (.sl (some (db69, 0)) 5 5 0)]) rfl fun n71 H72 hN73 => ?_
    have hH74 := hH70.new hN73
    have hH75 := ((hH74.top1).top1)
    have hH76 := Hs.unassoc hH75
    have hH77 := ((hH76.top2).top2)
    refine O_call (Ev.mono (qp_push1 (n := 5) (un := -1) (tr := -1) hQ1 ⟨by decide, by decide⟩ (by rw [gE_len]; omega) (w32_r _) hH77) fun v78 H79 hq80 => ?_)
    obtain ⟨L2, D2, m2, rfl, hQ2r, hH2⟩ := hq80
    obtain ⟨z, hz⟩ : ∃ z, z = (⟨zc 5, w32 (w32 (a0 + (((1 + q1) : Nat) : Int))), 0, 0, 0, 0⟩ : Ea) := ⟨_, rfl⟩
    rw [← hz] at hQ2r
    have hQ2 : Qp F6 (gE (⟨0, 4, 0, so, si, 0, .sl none 0 0 0, .sl none 0 0 0, .sl none 0 0 0, .sl none 0 0 0, [7]⟩ : Cx) a0 (1 + q1) ++ [z]) (List.replicate (1 + q1) m1 ++ [m2]) (gP ((q2 : Nat) : Int) m1 m2 false) _ D2 L2 := hQ2r
    have hm : m1 ≠ m2 := by obtain ⟨L9, _, h9⟩ := hQ2.qr; exact po_apart (p := ⟨m1, _, _, _⟩) (q := ⟨m2, _, _, _⟩) ((h9 _ _).1 hH2).sub
    have hzs : z.st = 0 := by rw [hz]
    have hzd : z.c.d.length ≤ 1000 := by rw [hz]; show 5 ≤ 1000; decide
    refine O_p (.i .i64 0) (r_mv rfl) ?_
    refine O_nil ?_
    refine C_seq ?_
    refine C_region ?_
    refine O_p (.p (some (F6, 0))) (r_mv hT27) ?_
    refine O_p (.i .i64 (((q2 : Nat)) : Int)) (r_mv hT26) ?_
    refine O_call (Ev.mono (qp_expire (now := (((q2 : Nat)) : Int)) hQ2 (by rw [List.length_append, gE_len]; show _ + 1 ≤ _; omega) hH2) fun v81 H82 hq83 => ?_)
    obtain ⟨mp0, plx, nnx, L3, rfl, hmp0, hfo0, _, hQ3, hH3⟩ := hq83
    rw [gZ, ge_early hm (by omega)] at hfo0
    obtain ⟨rfl, rfl⟩ := Prod.mk.inj hfo0
    rw [gZ, ge_same hm] at hQ3
    refine O_p (.i .i64 0) (r_mv rfl) ?_
    refine O_nil ?_
    refine C_seq ?_
    refine C_region ?_
    refine O_p (.p (some (F6, 0))) (r_mv hT27) ?_
    refine O_p (.i .i64 (((q2 : Nat)) : Int)) (r_mv hT26) ?_
    refine O_p (.i .i64 ((((q2 : Nat)) : Int) + 1)) (by exact (r_addi rfl rfl (wrap_i64 (by omega) (by omega)))) ?_
    refine O_call (Ev.mono (qp_expire (now := ((((q2 : Nat)) : Int) + 1)) hQ3 (by rw [List.length_append, gE_len]; show _ + 1 ≤ _; omega) hH3) fun v84 H85 hq86 => ?_)
    obtain ⟨mp1, plx, nnx, L4, rfl, hmp1, hfo1, _, hQ4, hH4⟩ := hq86
    have hin9 : m1 ∈ mp1 := by obtain ⟨e9, h9, _⟩ := gE_at (c := (⟨0, 4, 0, so, si, 0, .sl none 0 0 0, .sl none 0 0 0, .sl none 0 0 0, .sl none 0 0 0, [7]⟩ : Cx)) (a := a0) (k := (1 + q1)) (j := 0) (by omega); have h8 := List.mem_of_getElem? h9; exact (hmp1 m1).2 ⟨(e9, m1), by rw [gZ]; exact List.mem_append_left _ (List.mem_map.2 ⟨e9, h8, rfl⟩), by rw [(gE_all e9 h8).2.1]; decide, rfl⟩
    rw [gZ, ge_late hm (by omega) (by omega) hin9] at hfo1
    obtain ⟨rfl, rfl⟩ := Prod.mk.inj hfo1
    rw [gZ, ge_given hm] at hQ4
    refine O_p (.i .i64 1) (r_mv rfl) ?_
    refine O_nil ?_
    refine C_seq ?_
    refine C_region ?_
    refine O_p (.p (some (F6, 0))) (r_mv hT27) ?_
    obtain ⟨nxz, hnxz⟩ : ∃ y, y = w32 (w32 (a0 + (((1 + q1) : Nat) : Int)) + 1) := ⟨_, rfl⟩
    rw [← hnxz] at hQ4
    refine O_call (Ev.mono (qp_forward hQ4 (by rw [List.length_append, gG_len]; show _ + 1 ≤ _; omega) hH4) fun v87 H88 hq89 => ?_)
    obtain ⟨ov2, oc2, rfl, hS2, hHf⟩ := hq89
    rw [gF_take hzs (by omega), gF_free (c := (⟨0, 4, 0, so, si, 0, .sl none 0 0 0, .sl none 0 0 0, .sl none 0 0 0, .sl none 0 0 0, [7]⟩ : Cx)) frB4] at hS2
    have hdx : decide (0 < fwX (gG (⟨0, 4, 0, so, si, 0, .sl none 0 0 0, .sl none 0 0 0, .sl none 0 0 0, .sl none 0 0 0, [7]⟩ : Cx) a0 (1 + q1) ++ [z])) = true := decide_eq_true (by rw [gF_x hzs (by omega)]; omega)
    refine O_p (.tup [(.i .u32 (fwM (gG (⟨0, 4, 0, so, si, 0, .sl none 0 0 0, .sl none 0 0 0, .sl none 0 0 0, .sl none 0 0 0, [7]⟩ : Cx) a0 (1 + q1) ++ [z]) nxz)), ov2, (.b (decide (0 < fwX (gG (⟨0, 4, 0, so, si, 0, .sl none 0 0 0, .sl none 0 0 0, .sl none 0 0 0, .sl none 0 0 0, [7]⟩ : Cx) a0 (1 + q1) ++ [z]))))]) (r_mv rfl) ?_
    refine O_p (.i .u32 (fwM (gG (⟨0, 4, 0, so, si, 0, .sl none 0 0 0, .sl none 0 0 0, .sl none 0 0 0, .sl none 0 0 0, [7]⟩ : Cx) a0 (1 + q1) ++ [z]) nxz)) (r_ext rfl rfl) ?_
    refine O_p ov2 (r_ext rfl rfl) ?_
    refine O_p (.b (decide (0 < fwX (gG (⟨0, 4, 0, so, si, 0, .sl none 0 0 0, .sl none 0 0 0, .sl none 0 0 0, .sl none 0 0 0, [7]⟩ : Cx) a0 (1 + q1) ++ [z])))) (r_ext rfl rfl) ?_
    refine O_p (.i .u32 (fwM (gG (⟨0, 4, 0, so, si, 0, .sl none 0 0 0, .sl none 0 0 0, .sl none 0 0 0, .sl none 0 0 0, [7]⟩ : Cx) a0 (1 + q1) ++ [z]) nxz)) (r_mv rfl) ?_
    refine O_p ov2 (r_mv rfl) ?_
    refine O_p (.b (decide (0 < fwX (gG (⟨0, 4, 0, so, si, 0, .sl none 0 0 0, .sl none 0 0 0, .sl none 0 0 0, .sl none 0 0 0, [7]⟩ : Cx) a0 (1 + q1) ++ [z])))) (r_mv rfl) ?_
    refine O_nil ?_
    refine C_seq ?_
    refine C_region ?_
    refine O_p (.p (some (F6, 0))) (r_mv hT27) ?_
    refine O_p (.i .i64 (((q2 : Nat)) : Int)) (r_mv hT26) ?_
    refine O_p (.i .i64 ((((q2 : Nat)) : Int) + 2)) (by exact (r_addi rfl rfl (wrap_i64 (by omega) (by omega)))) ?_
    have hH90 := ((hHf.top2).top2)
    have hgs := gG_sz (c := (⟨0, 4, 0, so, si, 0, .sl none 0 0 0, .sl none 0 0 0, .sl none 0 0 0, .sl none 0 0 0, [7]⟩ : Cx)) (a := a0) (k := (1 + q1)) (z := z) (by show 1 ≤ 1000; decide) hzd (by rw [hz])
    have hH91 := ((hH90.top1).top1)
    refine O_call (Ev.mono (qp_take (now := ((((q2 : Nat)) : Int) + 2)) (room := 1000) hQ4 (by rw [List.length_append, gG_len]; show _ + 1 ≤ _; omega) (fun e he => (hgs e he).1) (fun e he => (hgs e he).2) (by decide) hH91) fun v92 H93 hq94 => ?_)
    obtain ⟨L6, D6, ov, oc, rows2, rfl, hQ6, hSo, hCo, _, hH6⟩ := hq94
    rw [gF_told hzs (by omega)] at hCo
    refine O_p v92 (r_mv rfl) ?_
    refine O_nil ?_
    refine C_seq ?_
    refine C_seq ?_
    refine C_region ?_
    refine O_p (.i .i64 0) (r_mv rfl) ?_
    refine O_p (.b false) (by exact (by rw [r_neq rfl rfl, decide_eq_true rfl]; rfl)) ?_
    refine O_p (.b false) (r_mv rfl) ?_
    refine O_gk rfl ?_
    refine O_p (.i .i64 0) (r_mv rfl) ?_
    refine O_gk rfl ?_
    refine O_p (.b false) (by exact (by rw [r_neq rfl rfl, decide_eq_true rfl]; rfl)) ?_
    refine O_p (.b false) (r_pick_f rfl rfl) ?_
    refine O_p (.b false) (r_mv rfl) ?_
    refine O_gk rfl ?_
    refine O_p (.i .i64 0) (r_mv rfl) ?_
    refine O_gk rfl ?_
    refine O_p (.b false) (by exact (by rw [r_neq rfl rfl, decide_eq_true rfl]; rfl)) ?_
    refine O_p (.b false) (r_pick_f rfl rfl) ?_
    refine O_p (.b false) (r_mv rfl) ?_
    refine O_gk rfl ?_
    refine O_p (.i .i64 1) (r_mv rfl) ?_
    refine O_gk rfl ?_
    refine O_p (.b false) (by exact (by rw [r_neq rfl rfl, decide_eq_true rfl]; rfl)) ?_
    refine O_p (.b false) (r_pick_f rfl rfl) ?_
    refine O_p (.b false) (r_mv rfl) ?_
    refine O_gk rfl ?_
    refine O_p (.b (decide (0 < fwX (gG (⟨0, 4, 0, so, si, 0, .sl none 0 0 0, .sl none 0 0 0, .sl none 0 0 0, .sl none 0 0 0, [7]⟩ : Cx) a0 (1 + q1) ++ [z])))) (r_mv rfl) ?_
    refine O_gk rfl ?_
    refine O_p (.b false) (by exact (by rw [show AV.b false = AV.b (!(decide (0 < fwX (gG (⟨0, 4, 0, so, si, 0, .sl none 0 0 0, .sl none 0 0 0, .sl none 0 0 0, .sl none 0 0 0, [7]⟩ : Cx) a0 (1 + q1) ++ [z])))) by rw [hdx]; rfl]; exact r_not rfl)) ?_
    refine O_p (.b false) (r_pick_f rfl rfl) ?_
    refine O_p (.b false) (r_mv rfl) ?_
    refine O_gk rfl ?_
    refine O_p (.i .u32 (fwM (gG (⟨0, 4, 0, so, si, 0, .sl none 0 0 0, .sl none 0 0 0, .sl none 0 0 0, .sl none 0 0 0, [7]⟩ : Cx) a0 (1 + q1) ++ [z]) nxz)) (r_mv rfl) ?_
    refine O_gk rfl ?_
    refine O_p (.i .u32 a0) (r_mv hT20) ?_
    refine O_gk rfl ?_
    refine O_p (.i .i64 (1 + (((q1 : Nat)) : Int))) (r_mv hT25) ?_
    refine O_gk rfl ?_
    refine O_p (.i .u32 (IntKind.u32.wrap (1 + (((q1 : Nat)) : Int)))) (r_cint rfl) ?_
    refine O_gk rfl ?_
    refine O_p (.i .u32 (IntKind.u32.wrap (a0 + (IntKind.u32.wrap (1 + (((q1 : Nat)) : Int)))))) (r_bin rfl rfl rfl) ?_
    refine O_gk rfl ?_
    refine O_p (.i .u32 (IntKind.u32.wrap ((IntKind.u32.wrap (a0 + (IntKind.u32.wrap (1 + (((q1 : Nat)) : Int))))) - 1))) (r_bin rfl rfl rfl) ?_
    refine O_gk rfl ?_
    refine O_p (.b false) (by exact (by rw [r_neq rfl rfl, decide_eq_true (show (fwM (gG (⟨0, 4, 0, so, si, 0, .sl none 0 0 0, .sl none 0 0 0, .sl none 0 0 0, .sl none 0 0 0, [7]⟩ : Cx) a0 (1 + q1) ++ [z]) nxz) = (IntKind.u32.wrap ((IntKind.u32.wrap (a0 + (IntKind.u32.wrap (1 + (((q1 : Nat)) : Int))))) - 1)) from (gF_m hzs (by omega)).trans (gives_num (by omega)))]; rfl)) ?_
    refine O_p (.b false) (r_pick_f rfl rfl) ?_
    refine O_p (.b false) (r_mv rfl) ?_
    refine O_gk rfl ?_
    refine O_p v92 (r_mv rfl) ?_
    refine O_gk rfl ?_
    refine O_p (.i .i64 1) (by exact (by exact r_lenOf rfl (hSo.lenOf ((flat_len hCo.lens).trans (by rw [hCo.1]; rfl)) (by decide)) hSo.isSl)) ?_
    refine O_gk rfl ?_
    refine O_p (.b false) (by exact (by rw [r_neq rfl rfl, decide_eq_true rfl]; rfl)) ?_
    refine O_p (.b false) (r_pick_f rfl rfl) ?_
    refine O_p (.b false) (r_mv rfl) ?_
    refine O_gk rfl ?_
    refine O_p v92 (r_mv rfl) ?_
    obtain ⟨x, dv, hxj, hri, hoc⟩ := hCo.get (i := 0) Nat.one_pos
    unfold cxRow at hri
    have hxa : x.2 = w32 (a0 + (((1 + q1) : Nat) : Int)) := by have h9 := Option.some.inj hxj; rw [← h9, hz]; exact w32_w _
    refine O_gk rfl ?_
    refine O_q (by exact Sq.cell hSo hCo.lens hH6.top0 rfl (i := 0) rfl (r := [(.i .u8 x.1.k), (.i .u8 x.1.f), (.i .u32 x.2), (.i .u32 x.1.b), (.i .u16 x.1.o), (.i .u16 x.1.i), (.i .u32 x.1.p), x.1.x1, x.1.x2, x.1.x3, x.1.x4, dv]) hri (by decide)) fun v96 hv95 => ?_
    obtain ⟨rb97, ro98, rfl, hrg99, hrt100, hrb101, hput102, hqs103⟩ := hv95
    refine O_gk rfl ?_
    refine O_p (.p (some (rb97, (ro98 + 2)))) (r_fadd' rfl rfl) ?_
    refine O_gk rfl ?_
    refine O_p (.i .u32 x.2) (r_ldR (q := 2) rfl ⟨_, _, hrg99, hrt100⟩ rfl) ?_
    refine O_gk rfl ?_
    refine O_p (.i .u32 a0) (r_mv hT20) ?_
    refine O_gk rfl ?_
    refine O_p (.i .i64 (1 + (((q1 : Nat)) : Int))) (r_mv hT25) ?_
    refine O_gk rfl ?_
    refine O_p (.i .u32 (IntKind.u32.wrap (1 + (((q1 : Nat)) : Int)))) (r_cint rfl) ?_
    refine O_gk rfl ?_
    refine O_p (.i .u32 (IntKind.u32.wrap (a0 + (IntKind.u32.wrap (1 + (((q1 : Nat)) : Int)))))) (r_bin rfl rfl rfl) ?_
    refine O_gk rfl ?_
    refine O_p (.b false) (by exact (by rw [r_neq rfl rfl, decide_eq_true (show x.2 = (IntKind.u32.wrap (a0 + (IntKind.u32.wrap (1 + (((q1 : Nat)) : Int))))) from hxa.trans w32_addr.symm)]; rfl)) ?_
    refine O_p (.b false) (r_pick_f rfl rfl) ?_
    refine O_nil ?_
    refine C_cond (x := false) rfl (fun h => by cases h) (fun _ => ?_)
    refine C_skip ?_
    refine C_seq ?_
    refine C_seq ?_
    refine C_region ?_
    refine O_p (.b true) (r_mv hT23) ?_
    refine O_nil ?_
    refine C_cond (x := true) rfl (fun _ => ?_) (fun h => by cases h)
    refine C_seq ?_
    refine C_region ?_
    refine O_p (.b true) (r_mv hT24) ?_
    refine O_p (.b true) (r_mv rfl) ?_
    refine O_gk rfl ?_
    refine O_p ov2 (r_mv rfl) ?_
    refine O_gk rfl ?_
    refine O_p (.i .i64 0) (by exact (by exact r_lenOf rfl (hS2.lenOf rfl (by decide)) hS2.isSl)) ?_
    refine O_gk rfl ?_
    refine O_p (.b true) (by exact (by rw [r_eql rfl rfl, decide_eq_true rfl])) ?_
    refine O_p (.b true) (r_pick_t rfl rfl) ?_
    refine O_p (.b true) (r_mv rfl) ?_
    refine O_nil ?_
    refine C_ret ?_
    refine nx_ret ?_
    exact ⟨.inr rfl, _, resL_one (r_tmp (v := .b true) rfl), rfl⟩
set_option maxRecDepth 100000 in
set_option maxHeartbeats 2000000 in
theorem run7f (H0 : AH) (hok0 : H0.Ok) (a0 n0 so si u0 : Int) (w_a0 : (Lit.int .u32 a0).wf = true) : Ev tabA spA (.fn (.func 7) [] []) [.i .u32 a0, .i .i64 n0, .i .u16 so, .i .u16 si, .b false, .i .i64 u0] H0 (fun v _ => v = .b true) := by
  have hH0 : Hs H0 [] := ⟨List.Pairwise.nil, fun q hq => (by cases hq), hok0⟩
  refine Ev_C (F := x7) rfl ?_
  have ha0 : 0 ≤ a0 ∧ a0 < 4294967296 := wf_u32 w_a0
  refine C_seq ?_
  refine C_region ?_
  refine O_p (.b false) (r_mv rfl) ?_
  refine O_nil ?_
  refine C_seq ?_
  refine C_region ?_
  refine O_call (Ev_sp (v := (.b true)) rfl rfl ?_)
  refine O_p (.b true) (r_mv rfl) ?_
  refine O_nil ?_
  refine C_seq ?_
  refine C_region ?_
  refine O_p (.i .i64 n0) (r_mv rfl) ?_
  obtain ⟨q1, hq1, hlq1⟩ := and_nat n0 15 (by decide)
  refine O_p (.i .i64 (((q1 : Nat)) : Int)) (by exact (by rw [← hq1]; exact r_bin rfl rfl rfl)) ?_
  refine O_p (.i .i64 (1 + (((q1 : Nat)) : Int))) (by exact (r_addi rfl rfl (wrap_i64 (by omega) (by omega)))) ?_
  refine O_p (.i .i64 (1 + (((q1 : Nat)) : Int))) (r_mv rfl) ?_
  refine O_nil ?_
  refine C_seq ?_
  refine C_region ?_
  refine O_p (.i .i64 u0) (r_mv rfl) ?_
  obtain ⟨q2, hq2, hlq2⟩ := and_nat u0 65535 (by decide)
  refine O_p (.i .i64 (((q2 : Nat)) : Int)) (by exact (by rw [← hq2]; exact r_bin rfl rfl rfl)) ?_
  refine O_p (.i .i64 (((q2 : Nat)) : Int)) (r_mv rfl) ?_
  refine O_nil ?_
  refine C_seq ?_
  refine C_region ?_
  refine O_p (.i .u32 a0) (r_mv rfl) ?_
  refine O_call (Ev.mono (new_ev (a := a0) hH0) fun v3 H4 hq5 => ?_)
  obtain ⟨F6, rfl, hH7⟩ := hq5
  have hH8 : Hs _ (([(F6, some (.cells [.sl none 0 0 0, .i .u32 a0] true))] ++ []) ++ (([] : HL) ++ _)) := hH7
  have hQ0 := qp_new0 (F := F6) a0
  refine O_p (.p (some (F6, 0))) (r_mv rfl) ?_
  refine O_nil ?_
  refine C_seq ?_
  refine C_region ?_
  refine O_p (.sl none 0 0 0) (r_mv rfl) ?_
  refine O_nil ?_
  refine C_seq ?_
  refine C_seq ?_
  refine C_region ?_
  refine O_p (.i .i64 0) (r_mv rfl) ?_
  refine O_nil ?_
  refine C_block ?_
  have hH9 := ((hH8.top1).top1)
  have hH10 := hH9.addnil
  have hH11 := hH10.addnil
  refine C_while (fun m12 T13 H14 => ∃ ov : AV, ∃ oc : List AV, ∃ rows : List (List AV), ∃ Bd : HL, ∃ j : Nat, m12 = (1 + q1) - j ∧ j ≤ (1 + q1) ∧ Sq 12 ov oc rows.flatten ∧ CxsR Bd rows (List.replicate j ((⟨0, 0, 0, so, si, 0, .sl none 0 0 0, .sl none 0 0 0, .sl none 0 0 0, .sl none 0 0 0, [7]⟩ : Cx), 0)) ∧ Hs H14 ((qseg ov oc) ++ (Bd ++ (([(F6, some (.cells [.sl none 0 0 0, .i .u32 a0] true))] ++ []) ++ (([] : HL) ++ ([]))))) ∧ T13.get 0 = (.i .u32 a0) ∧ T13.get 2 = (.i .u16 so) ∧ T13.get 3 = (.i .u16 si) ∧ T13.get 4 = (.b false) ∧ T13.get 13 = (.b true) ∧ T13.get 14 = (.i .i64 (1 + (((q1 : Nat)) : Int))) ∧ T13.get 15 = (.i .i64 (((q2 : Nat)) : Int)) ∧ T13.get 16 = (.p (some (F6, 0))) ∧ T13.get 17 = ov ∧ T13.get 18 = (.i .i64 (((j : Nat)) : Int))) (fun m12 T13 H14 hI15 => ?_) (1 + q1) _ _ ⟨(.sl none 0 0 0), [], [], [], 0, rfl, Nat.zero_le _, Sq.nil, CxsR.nil, hH11, rfl, rfl, rfl, rfl, rfl, rfl, rfl, rfl, rfl, rfl⟩
  obtain ⟨ov, oc, rows, Bd, j, hm16, hp17, hp18, hp19, hH30, hT20, hT21, hT22, hT23, hT24, hT25, hT26, hT27, hT28, hT29⟩ := hI15
  refine C_seq ?_
  refine C_seq ?_
  refine C_region ?_
  refine O_p (.i .i64 (((j : Nat)) : Int)) (r_mv hT29) ?_
  refine O_p (.i .i64 (1 + (((q1 : Nat)) : Int))) (r_mv hT25) ?_
  refine O_p (.b (decide ((((j : Nat)) : Int) < (1 + (((q1 : Nat)) : Int))))) (r_lss rfl rfl) ?_
  refine O_nil ?_
  refine C_cond (x := (decide ((((j : Nat)) : Int) < (1 + (((q1 : Nat)) : Int))))) rfl (fun hc31 => ?_) (fun hc31 => ?_)
  ·
    try simp only [decide_eq_true_eq, decide_eq_false_iff_not, Bool.not_eq_true', Bool.not_eq_false', Bool.and_eq_true, Bool.or_eq_true, Bool.or_eq_false_iff, Bool.not_not, Bool.and_eq_false_iff] at hc31
    refine C_skip ?_
    refine C_seq ?_
    refine C_block ?_
    refine C_seq ?_
    refine C_region ?_
    refine O_p (.i .u16 so) (r_mv hT21) ?_
    refine O_p (.i .u16 si) (r_mv hT22) ?_
    refine O_bslice (c := [(.i .u8 7)]) rfl fun n32 H33 hN34 => ?_
    have hH35 := hH30.new hN34
    refine O_p (.agg [(.i .u8 0), (.i .u8 0), (.i .u32 0), (.i .u32 0), (.i .u16 so), (.i .u16 si), (.i .u32 0), (.sl none 0 0 0), (.sl none 0 0 0), (.sl none 0 0 0), (.sl none 0 0 0), (.sl (some (n32, 0)) 1 1 0)]) (r_build rfl) ?_
    refine O_alloc fun n36 H37 hN38 => ?_
    have hH39 := hH35.new hN38
    refine O_store (vs := [(.i .u8 0), (.i .u8 0), (.i .u32 0), (.i .u32 0), (.i .u16 so), (.i .u16 si), (.i .u32 0), (.sl none 0 0 0), (.sl none 0 0 0), (.sl none 0 0 0), (.sl none 0 0 0), (.sl (some (n32, 0)) 1 1 0)]) (c' := [(.i .u8 0), (.i .u8 0), (.i .u32 0), (.i .u32 0), (.i .u16 so), (.i .u16 si), (.i .u32 0), (.sl none 0 0 0), (.sl none 0 0 0), (.sl none 0 0 0), (.sl none 0 0 0), (.sl (some (n32, 0)) 1 1 0)]) rfl (by rfl) hH39.get0 rfl (List.cons_ne_nil _ _) (Nat.le_of_ble_eq_true rfl) rfl fun H40 hW41 => ?_
    have hH42 := hH39.wr0 hW41
    refine O_nil ?_
    refine C_seq ?_
    refine C_seq ?_
    refine C_region ?_
    refine O_p (.b false) (r_mv hT23) ?_
    refine O_nil ?_
    refine C_cond (x := false) rfl (fun h => by cases h) (fun _ => ?_)
    refine C_skip ?_
    refine C_region ?_
    refine O_p ov (r_mv hT28) ?_
    refine O_p (.agg [(.i .u8 0), (.i .u8 0), (.i .u32 0), (.i .u32 0), (.i .u16 so), (.i .u16 si), (.i .u32 0), (.sl none 0 0 0), (.sl none 0 0 0), (.sl none 0 0 0), (.sl none 0 0 0), (.sl (some (n32, 0)) 1 1 0)]) (r_ldA rfl hH42.get0 rfl) ?_
    refine O_bslice (c := [(.i .u8 0), (.i .u8 0), (.i .u32 0), (.i .u32 0), (.i .u16 so), (.i .u16 si), (.i .u32 0), (.sl none 0 0 0), (.sl none 0 0 0), (.sl none 0 0 0), (.sl none 0 0 0), (.sl (some (n32, 0)) 1 1 0)]) rfl fun n43 H44 hN45 => ?_
    have hH46 := hH42.new hN45
    refine O_qh (by exact r_appq (n := j) (k := 1) (new := [(.i .u8 0), (.i .u8 0), (.i .u32 0), (.i .u32 0), (.i .u16 so), (.i .u16 si), (.i .u32 0), (.sl none 0 0 0), (.sl none 0 0 0), (.sl none 0 0 0), (.sl none 0 0 0), (.sl (some (n32, 0)) 1 1 0)]) hH46.top3 hp18 rfl rfl rfl (src_blk hH46.get0 (by rfl)) rfl (by decide) (by decide) ((flat_len hp19.lens).trans (by rw [hp19.1, List.length_replicate])) (by first | omega | (simp only [List.length_take, List.length_drop, List.length_append, List.length_cons, List.length_nil, beN_len] <;> omega))) fun o47 H48 hA50 => ?_
    obtain ⟨c49, hA50, hH51⟩ := hA50
    refine O_p o47 (r_mv rfl) ?_
    refine O_nil ?_
    refine C_region ?_
    refine O_p (.i .i64 (((j : Nat)) : Int)) (r_mv hT29) ?_
    refine O_p (.i .i64 ((((j : Nat)) : Int) + 1)) (by exact (r_addi rfl rfl (wrap_i64 (by omega) (by omega)))) ?_
    refine O_p (.i .i64 ((((j : Nat)) : Int) + 1)) (r_mv rfl) ?_
    refine O_nil ?_
    have hH52 := ((hH51.sub1).sub1)
    have hH53 := (((((hH52.top4).top4).top3).top4).top4)
    have hH54 := ((hH53.top2).top2)
    have hH55 := Hs.unassoc hH54
    have hH56 := (hH55.top1)
    exact ⟨(1 + q1) - (j + 1), by omega, o47, c49, (rows ++ [cxRow (⟨0, 0, 0, so, si, 0, .sl none 0 0 0, .sl none 0 0 0, .sl none 0 0 0, .sl none 0 0 0, [7]⟩ : Cx) 0 (.sl (some (n32, 0)) 1 1 0)]), (Bd ++ [(n32, some (.cells (bcells [7]) true))]), (j + 1), rfl, by omega, by rw [List.flatten_append]; exact hA50, by rw [List.replicate_succ']; exact (hp19.mono fun _ hh => hh.fst).snoc (x := ((⟨0, 0, 0, so, si, 0, .sl none 0 0 0, .sl none 0 0 0, .sl none 0 0 0, .sl none 0 0 0, [7]⟩ : Cx), 0)) gD, hH56, hT20, hT21, hT22, hT23, hT24, hT25, hT26, hT27, rfl, rfl⟩
  ·
    try simp only [decide_eq_true_eq, decide_eq_false_iff_not, Bool.not_eq_true', Bool.not_eq_false', Bool.and_eq_true, Bool.or_eq_true, Bool.or_eq_false_iff, Bool.not_not, Bool.and_eq_false_iff] at hc31
    refine C_exit ?_
    refine nx_exit ?_
    refine nx_exit ?_
    refine bk_hit ?_
    refine C_seq ?_
    refine C_region ?_
    refine O_p (.p (some (F6, 0))) (r_mv hT27) ?_
    refine O_p ov (r_mv hT28) ?_
    refine O_p (.i .i64 (((q2 : Nat)) : Int)) (r_mv hT26) ?_
    have hjK : j = (1 + q1) := by omega
    have hCk := hp19
    rw [hjK] at hCk
    have hH57 := ((hH30.top1).top1)
    have hH58 := Hs.unassoc hH57
    have hH59 := ((hH58.top2).top2)
    refine O_call (Ev.mono (qp_push (un := ((q2 : Nat) : Int)) (tr := -1) (rows := rows) (cs := List.replicate (1 + q1) ((⟨0, 0, 0, so, si, 0, .sl none 0 0 0, .sl none 0 0 0, .sl none 0 0 0, .sl none 0 0 0, [7]⟩ : Cx), 0)) hQ0 (fun H' hh => Sq.rd (R := Bd) hp18 hh hCk.lens (by decide)) (hCk.mono fun H' hh => hh.sub) (fun c hc => by rw [List.eq_of_mem_replicate hc]; rfl) (by rw [List.length_replicate]; omega) (by rw [List.length_replicate]; show 0 + _ ≤ _; omega) (fun c hc => by rw [List.eq_of_mem_replicate hc]; show 1 ≤ 1000000; decide) ha0 hH59) fun v60 H61 hq62 => ?_)
    obtain ⟨L1, D1, m1, rfl, hQ1r, _, hH1⟩ := hq62
    rw [List.length_replicate] at hQ1r
    have hQ1 : Qp F6 (gE (⟨0, 0, 0, so, si, 0, .sl none 0 0 0, .sl none 0 0 0, .sl none 0 0 0, .sl none 0 0 0, [7]⟩ : Cx) a0 (1 + q1)) (List.replicate (1 + q1) m1) [⟨m1, ((q2 : Nat) : Int), -1, false⟩] (w32 (a0 + (((1 + q1) : Nat) : Int))) D1 L1 := hQ1r
    refine O_p (.i .i64 0) (r_mv rfl) ?_
    refine O_nil ?_
    refine C_seq ?_
    refine C_region ?_
    refine O_p (.p (some (F6, 0))) (r_mv hT27) ?_
    refine O_call (Ev.mono (piece_ev (n := 5) (by have := Nat.le_refl 3; omega) hH1) fun v63 H64 hq65 => ?_)
    obtain ⟨db66, rfl, hH67⟩ := hq65
    refine O_bslice (c := [(.i .u8 0), (.i .u8 3), (.i .u32 0), (.i .u32 0), (.i .u16 0), (.i .u16 0), (.i .u32 0), (.sl none 0 0 0), (.sl none 0 0 0), (.sl none 0 0 0), (.sl none 0 0 0), (.sl (some (db66, 0)) 5 5 0)]) rfl fun n68 H69 hN70 => ?_
    have hH71 := hH67.new hN70
    have hH72 := ((hH71.top1).top1)
    have hH73 := Hs.unassoc hH72
    have hH74 := ((hH73.top2).top2)
    refine O_call (Ev.mono (qp_push1 (n := 5) (un := -1) (tr := -1) hQ1 ⟨by decide, by decide⟩ (by rw [gE_len]; omega) (w32_r _) hH74) fun v75 H76 hq77 => ?_)
    obtain ⟨L2, D2, m2, rfl, hQ2r, hH2⟩ := hq77
    obtain ⟨z, hz⟩ : ∃ z, z = (⟨zc 5, w32 (w32 (a0 + (((1 + q1) : Nat) : Int))), 0, 0, 0, 0⟩ : Ea) := ⟨_, rfl⟩
    rw [← hz] at hQ2r
    have hQ2 : Qp F6 (gE (⟨0, 0, 0, so, si, 0, .sl none 0 0 0, .sl none 0 0 0, .sl none 0 0 0, .sl none 0 0 0, [7]⟩ : Cx) a0 (1 + q1) ++ [z]) (List.replicate (1 + q1) m1 ++ [m2]) (gP ((q2 : Nat) : Int) m1 m2 false) _ D2 L2 := hQ2r
    have hm : m1 ≠ m2 := by obtain ⟨L9, _, h9⟩ := hQ2.qr; exact po_apart (p := ⟨m1, _, _, _⟩) (q := ⟨m2, _, _, _⟩) ((h9 _ _).1 hH2).sub
    have hzs : z.st = 0 := by rw [hz]
    have hzd : z.c.d.length ≤ 1000 := by rw [hz]; show 5 ≤ 1000; decide
    refine O_p (.i .i64 0) (r_mv rfl) ?_
    refine O_nil ?_
    refine C_seq ?_
    refine C_region ?_
    refine O_p (.p (some (F6, 0))) (r_mv hT27) ?_
    refine O_p (.i .i64 (((q2 : Nat)) : Int)) (r_mv hT26) ?_
    refine O_call (Ev.mono (qp_expire (now := (((q2 : Nat)) : Int)) hQ2 (by rw [List.length_append, gE_len]; show _ + 1 ≤ _; omega) hH2) fun v78 H79 hq80 => ?_)
    obtain ⟨mp0, plx, nnx, L3, rfl, hmp0, hfo0, _, hQ3, hH3⟩ := hq80
    rw [gZ, ge_early hm (by omega)] at hfo0
    obtain ⟨rfl, rfl⟩ := Prod.mk.inj hfo0
    rw [gZ, ge_same hm] at hQ3
    refine O_p (.i .i64 0) (r_mv rfl) ?_
    refine O_nil ?_
    refine C_seq ?_
    refine C_region ?_
    refine O_p (.p (some (F6, 0))) (r_mv hT27) ?_
    refine O_p (.i .i64 (((q2 : Nat)) : Int)) (r_mv hT26) ?_
    refine O_p (.i .i64 ((((q2 : Nat)) : Int) + 1)) (by exact (r_addi rfl rfl (wrap_i64 (by omega) (by omega)))) ?_
    refine O_call (Ev.mono (qp_expire (now := ((((q2 : Nat)) : Int) + 1)) hQ3 (by rw [List.length_append, gE_len]; show _ + 1 ≤ _; omega) hH3) fun v81 H82 hq83 => ?_)
    obtain ⟨mp1, plx, nnx, L4, rfl, hmp1, hfo1, _, hQ4, hH4⟩ := hq83
    have hin9 : m1 ∈ mp1 := by obtain ⟨e9, h9, _⟩ := gE_at (c := (⟨0, 0, 0, so, si, 0, .sl none 0 0 0, .sl none 0 0 0, .sl none 0 0 0, .sl none 0 0 0, [7]⟩ : Cx)) (a := a0) (k := (1 + q1)) (j := 0) (by omega); have h8 := List.mem_of_getElem? h9; exact (hmp1 m1).2 ⟨(e9, m1), by rw [gZ]; exact List.mem_append_left _ (List.mem_map.2 ⟨e9, h8, rfl⟩), by rw [(gE_all e9 h8).2.1]; decide, rfl⟩
    rw [gZ, ge_late hm (by omega) (by omega) hin9] at hfo1
    obtain ⟨rfl, rfl⟩ := Prod.mk.inj hfo1
    rw [gZ, ge_given hm] at hQ4
    refine O_p (.i .i64 1) (r_mv rfl) ?_
    refine O_nil ?_
    refine C_seq ?_
    refine C_region ?_
    refine O_p (.p (some (F6, 0))) (r_mv hT27) ?_
    obtain ⟨nxz, hnxz⟩ : ∃ y, y = w32 (w32 (a0 + (((1 + q1) : Nat) : Int)) + 1) := ⟨_, rfl⟩
    rw [← hnxz] at hQ4
    refine O_call (Ev.mono (qp_forward hQ4 (by rw [List.length_append, gG_len]; show _ + 1 ≤ _; omega) hH4) fun v84 H85 hq86 => ?_)
    obtain ⟨ov2, oc2, rfl, hS2, hHf⟩ := hq86
    rw [gF_take hzs (by omega), gF_one (c := (⟨0, 0, 0, so, si, 0, .sl none 0 0 0, .sl none 0 0 0, .sl none 0 0 0, .sl none 0 0 0, [7]⟩ : Cx)) frB0 (by omega)] at hS2
    have hdx : decide (0 < fwX (gG (⟨0, 0, 0, so, si, 0, .sl none 0 0 0, .sl none 0 0 0, .sl none 0 0 0, .sl none 0 0 0, [7]⟩ : Cx) a0 (1 + q1) ++ [z])) = true := decide_eq_true (by rw [gF_x hzs (by omega)]; omega)
    refine O_p (.tup [(.i .u32 (fwM (gG (⟨0, 0, 0, so, si, 0, .sl none 0 0 0, .sl none 0 0 0, .sl none 0 0 0, .sl none 0 0 0, [7]⟩ : Cx) a0 (1 + q1) ++ [z]) nxz)), ov2, (.b (decide (0 < fwX (gG (⟨0, 0, 0, so, si, 0, .sl none 0 0 0, .sl none 0 0 0, .sl none 0 0 0, .sl none 0 0 0, [7]⟩ : Cx) a0 (1 + q1) ++ [z]))))]) (r_mv rfl) ?_
    refine O_p (.i .u32 (fwM (gG (⟨0, 0, 0, so, si, 0, .sl none 0 0 0, .sl none 0 0 0, .sl none 0 0 0, .sl none 0 0 0, [7]⟩ : Cx) a0 (1 + q1) ++ [z]) nxz)) (r_ext rfl rfl) ?_
    refine O_p ov2 (r_ext rfl rfl) ?_
    refine O_p (.b (decide (0 < fwX (gG (⟨0, 0, 0, so, si, 0, .sl none 0 0 0, .sl none 0 0 0, .sl none 0 0 0, .sl none 0 0 0, [7]⟩ : Cx) a0 (1 + q1) ++ [z])))) (r_ext rfl rfl) ?_
    refine O_p (.i .u32 (fwM (gG (⟨0, 0, 0, so, si, 0, .sl none 0 0 0, .sl none 0 0 0, .sl none 0 0 0, .sl none 0 0 0, [7]⟩ : Cx) a0 (1 + q1) ++ [z]) nxz)) (r_mv rfl) ?_
    refine O_p ov2 (r_mv rfl) ?_
    refine O_p (.b (decide (0 < fwX (gG (⟨0, 0, 0, so, si, 0, .sl none 0 0 0, .sl none 0 0 0, .sl none 0 0 0, .sl none 0 0 0, [7]⟩ : Cx) a0 (1 + q1) ++ [z])))) (r_mv rfl) ?_
    refine O_nil ?_
    refine C_seq ?_
    refine C_region ?_
    refine O_p (.p (some (F6, 0))) (r_mv hT27) ?_
    refine O_p (.i .i64 (((q2 : Nat)) : Int)) (r_mv hT26) ?_
    refine O_p (.i .i64 ((((q2 : Nat)) : Int) + 2)) (by exact (r_addi rfl rfl (wrap_i64 (by omega) (by omega)))) ?_
    have hH87 := ((hHf.top2).top2)
    have hgs := gG_sz (c := (⟨0, 0, 0, so, si, 0, .sl none 0 0 0, .sl none 0 0 0, .sl none 0 0 0, .sl none 0 0 0, [7]⟩ : Cx)) (a := a0) (k := (1 + q1)) (z := z) (by show 1 ≤ 1000; decide) hzd (by rw [hz])
    have hH88 := ((hH87.top1).top1)
    refine O_call (Ev.mono (qp_take (now := ((((q2 : Nat)) : Int) + 2)) (room := 1000) hQ4 (by rw [List.length_append, gG_len]; show _ + 1 ≤ _; omega) (fun e he => (hgs e he).1) (fun e he => (hgs e he).2) (by decide) hH88) fun v89 H90 hq91 => ?_)
    obtain ⟨L6, D6, ov, oc, rows2, rfl, hQ6, hSo, hCo, _, hH6⟩ := hq91
    rw [gF_told hzs (by omega)] at hCo
    refine O_p v89 (r_mv rfl) ?_
    refine O_nil ?_
    refine C_seq ?_
    refine C_seq ?_
    refine C_region ?_
    refine O_p (.i .i64 0) (r_mv rfl) ?_
    refine O_p (.b false) (by exact (by rw [r_neq rfl rfl, decide_eq_true rfl]; rfl)) ?_
    refine O_p (.b false) (r_mv rfl) ?_
    refine O_gk rfl ?_
    refine O_p (.i .i64 0) (r_mv rfl) ?_
    refine O_gk rfl ?_
    refine O_p (.b false) (by exact (by rw [r_neq rfl rfl, decide_eq_true rfl]; rfl)) ?_
    refine O_p (.b false) (r_pick_f rfl rfl) ?_
    refine O_p (.b false) (r_mv rfl) ?_
    refine O_gk rfl ?_
    refine O_p (.i .i64 0) (r_mv rfl) ?_
    refine O_gk rfl ?_
    refine O_p (.b false) (by exact (by rw [r_neq rfl rfl, decide_eq_true rfl]; rfl)) ?_
    refine O_p (.b false) (r_pick_f rfl rfl) ?_
    refine O_p (.b false) (r_mv rfl) ?_
    refine O_gk rfl ?_
    refine O_p (.i .i64 1) (r_mv rfl) ?_
    refine O_gk rfl ?_
    refine O_p (.b false) (by exact (by rw [r_neq rfl rfl, decide_eq_true rfl]; rfl)) ?_
    refine O_p (.b false) (r_pick_f rfl rfl) ?_
    refine O_p (.b false) (r_mv rfl) ?_
    refine O_gk rfl ?_
    refine O_p (.b (decide (0 < fwX (gG (⟨0, 0, 0, so, si, 0, .sl none 0 0 0, .sl none 0 0 0, .sl none 0 0 0, .sl none 0 0 0, [7]⟩ : Cx) a0 (1 + q1) ++ [z])))) (r_mv rfl) ?_
    refine O_gk rfl ?_
    refine O_p (.b false) (by exact (by rw [show AV.b false = AV.b (!(decide (0 < fwX (gG (⟨0, 0, 0, so, si, 0, .sl none 0 0 0, .sl none 0 0 0, .sl none 0 0 0, .sl none 0 0 0, [7]⟩ : Cx) a0 (1 + q1) ++ [z])))) by rw [hdx]; rfl]; exact r_not rfl)) ?_
    refine O_p (.b false) (r_pick_f rfl rfl) ?_
    refine O_p (.b false) (r_mv rfl) ?_
    refine O_gk rfl ?_
    refine O_p (.i .u32 (fwM (gG (⟨0, 0, 0, so, si, 0, .sl none 0 0 0, .sl none 0 0 0, .sl none 0 0 0, .sl none 0 0 0, [7]⟩ : Cx) a0 (1 + q1) ++ [z]) nxz)) (r_mv rfl) ?_
    refine O_gk rfl ?_
    refine O_p (.i .u32 a0) (r_mv hT20) ?_
    refine O_gk rfl ?_
    refine O_p (.i .i64 (1 + (((q1 : Nat)) : Int))) (r_mv hT25) ?_
    refine O_gk rfl ?_
    refine O_p (.i .u32 (IntKind.u32.wrap (1 + (((q1 : Nat)) : Int)))) (r_cint rfl) ?_
    refine O_gk rfl ?_
    refine O_p (.i .u32 (IntKind.u32.wrap (a0 + (IntKind.u32.wrap (1 + (((q1 : Nat)) : Int)))))) (r_bin rfl rfl rfl) ?_
    refine O_gk rfl ?_
    refine O_p (.i .u32 (IntKind.u32.wrap ((IntKind.u32.wrap (a0 + (IntKind.u32.wrap (1 + (((q1 : Nat)) : Int))))) - 1))) (r_bin rfl rfl rfl) ?_
    refine O_gk rfl ?_
    refine O_p (.b false) (by exact (by rw [r_neq rfl rfl, decide_eq_true (show (fwM (gG (⟨0, 0, 0, so, si, 0, .sl none 0 0 0, .sl none 0 0 0, .sl none 0 0 0, .sl none 0 0 0, [7]⟩ : Cx) a0 (1 + q1) ++ [z]) nxz) = (IntKind.u32.wrap ((IntKind.u32.wrap (a0 + (IntKind.u32.wrap (1 + (((q1 : Nat)) : Int))))) - 1)) from (gF_m hzs (by omega)).trans (gives_num (by omega)))]; rfl)) ?_
    refine O_p (.b false) (r_pick_f rfl rfl) ?_
    refine O_p (.b false) (r_mv rfl) ?_
    refine O_gk rfl ?_
    refine O_p v89 (r_mv rfl) ?_
    refine O_gk rfl ?_
    refine O_p (.i .i64 1) (by exact (by exact r_lenOf rfl (hSo.lenOf ((flat_len hCo.lens).trans (by rw [hCo.1]; rfl)) (by decide)) hSo.isSl)) ?_
    refine O_gk rfl ?_
    refine O_p (.b false) (by exact (by rw [r_neq rfl rfl, decide_eq_true rfl]; rfl)) ?_
    refine O_p (.b false) (r_pick_f rfl rfl) ?_
    refine O_p (.b false) (r_mv rfl) ?_
    refine O_gk rfl ?_
    refine O_p v89 (r_mv rfl) ?_
    obtain ⟨x, dv, hxj, hri, hoc⟩ := hCo.get (i := 0) Nat.one_pos
    unfold cxRow at hri
    have hxa : x.2 = w32 (a0 + (((1 + q1) : Nat) : Int)) := by have h9 := Option.some.inj hxj; rw [← h9, hz]; exact w32_w _
    refine O_gk rfl ?_
    refine O_q (by exact Sq.cell hSo hCo.lens hH6.top0 rfl (i := 0) rfl (r := [(.i .u8 x.1.k), (.i .u8 x.1.f), (.i .u32 x.2), (.i .u32 x.1.b), (.i .u16 x.1.o), (.i .u16 x.1.i), (.i .u32 x.1.p), x.1.x1, x.1.x2, x.1.x3, x.1.x4, dv]) hri (by decide)) fun v93 hv92 => ?_
    obtain ⟨rb94, ro95, rfl, hrg96, hrt97, hrb98, hput99, hqs100⟩ := hv92
    refine O_gk rfl ?_
    refine O_p (.p (some (rb94, (ro95 + 2)))) (r_fadd' rfl rfl) ?_
    refine O_gk rfl ?_
    refine O_p (.i .u32 x.2) (r_ldR (q := 2) rfl ⟨_, _, hrg96, hrt97⟩ rfl) ?_
    refine O_gk rfl ?_
    refine O_p (.i .u32 a0) (r_mv hT20) ?_
    refine O_gk rfl ?_
    refine O_p (.i .i64 (1 + (((q1 : Nat)) : Int))) (r_mv hT25) ?_
    refine O_gk rfl ?_
    refine O_p (.i .u32 (IntKind.u32.wrap (1 + (((q1 : Nat)) : Int)))) (r_cint rfl) ?_
    refine O_gk rfl ?_
    refine O_p (.i .u32 (IntKind.u32.wrap (a0 + (IntKind.u32.wrap (1 + (((q1 : Nat)) : Int)))))) (r_bin rfl rfl rfl) ?_
    refine O_gk rfl ?_
    refine O_p (.b false) (by exact (by rw [r_neq rfl rfl, decide_eq_true (show x.2 = (IntKind.u32.wrap (a0 + (IntKind.u32.wrap (1 + (((q1 : Nat)) : Int))))) from hxa.trans w32_addr.symm)]; rfl)) ?_
    refine O_p (.b false) (r_pick_f rfl rfl) ?_
    refine O_nil ?_
    refine C_cond (x := false) rfl (fun h => by cases h) (fun _ => ?_)
    refine C_skip ?_
    refine C_seq ?_
    refine C_seq ?_
    refine C_region ?_
    refine O_p (.b false) (r_mv hT23) ?_
    refine O_nil ?_
    refine C_cond (x := false) rfl (fun h => by cases h) (fun _ => ?_)
    refine C_skip ?_
    refine C_seq ?_
    refine C_region ?_
    refine O_p (.b true) (r_mv hT24) ?_
    refine O_p (.b true) (r_mv rfl) ?_
    refine O_gk rfl ?_
    refine O_p ov2 (r_mv rfl) ?_
    refine O_gk rfl ?_
    refine O_p (.i .i64 1) (by exact (by exact r_lenOf rfl (hS2.lenOf rfl (by decide)) hS2.isSl)) ?_
    refine O_gk rfl ?_
    refine O_p (.b true) (by exact (by rw [r_eql rfl rfl, decide_eq_true rfl])) ?_
    refine O_p (.b true) (r_pick_t rfl rfl) ?_
    refine O_p (.b true) (r_mv rfl) ?_
    refine O_gk rfl ?_
    refine O_p ov2 (r_mv rfl) ?_
    refine O_gk rfl ?_
    refine O_q (by exact Sq.cell hS2 (sk_lens [(so, si)]) hH6.top3 rfl (i := 0) rfl (r := [(.i .u16 so), (.i .u16 si)]) rfl (by decide)) fun v102 hv101 => ?_
    obtain ⟨rb103, ro104, rfl, hrg105, hrt106, hrb107, hput108, hqs109⟩ := hv101
    refine O_gk rfl ?_
    refine O_p (.p (some (rb103, (ro104 + 0)))) (r_fadd' rfl rfl) ?_
    refine O_gk rfl ?_
    refine O_p (.i .u16 so) (r_ldR (q := 0) rfl ⟨_, _, hrg105, hrt106⟩ rfl) ?_
    refine O_gk rfl ?_
    refine O_p (.i .u16 so) (r_mv hT21) ?_
    refine O_gk rfl ?_
    refine O_p (.b true) (by exact (by rw [r_eql rfl rfl, decide_eq_true rfl])) ?_
    refine O_p (.b true) (r_pick_t rfl rfl) ?_
    refine O_p (.b true) (r_mv rfl) ?_
    refine O_gk rfl ?_
    refine O_p ov2 (r_mv rfl) ?_
    refine O_gk rfl ?_
    refine O_q (by exact Sq.cell hS2 (sk_lens [(so, si)]) hH6.top3 rfl (i := 0) rfl (r := [(.i .u16 so), (.i .u16 si)]) rfl (by decide)) fun v111 hv110 => ?_
    obtain ⟨rb112, ro113, rfl, hrg114, hrt115, hrb116, hput117, hqs118⟩ := hv110
    refine O_gk rfl ?_
    refine O_p (.p (some (rb112, (ro113 + 1)))) (r_fadd' rfl rfl) ?_
    refine O_gk rfl ?_
    refine O_p (.i .u16 si) (r_ldR (q := 1) rfl ⟨_, _, hrg114, hrt115⟩ rfl) ?_
    refine O_gk rfl ?_
    refine O_p (.i .u16 si) (r_mv hT22) ?_
    refine O_gk rfl ?_
    refine O_p (.b true) (by exact (by rw [r_eql rfl rfl, decide_eq_true rfl])) ?_
    refine O_p (.b true) (r_pick_t rfl rfl) ?_
    refine O_p (.b true) (r_mv rfl) ?_
    refine O_nil ?_
    refine C_ret ?_
    exact ⟨.inr rfl, _, resL_one (r_tmp (v := .b true) rfl), rfl⟩
theorem run7 (H0 : AH) (hok0 : H0.Ok) (a0 n0 so si u0 : Int) (fr : Bool) (w_a0 : (Lit.int .u32 a0).wf = true) : Ev tabA spA (.fn (.func 7) [] []) [.i .u32 a0, .i .i64 n0, .i .u16 so, .i .u16 si, .b fr, .i .i64 u0] H0 (fun v _ => v = .b true) := by
  cases fr
  · exact run7f H0 hok0 a0 n0 so si u0 w_a0
  · exact run7t H0 hok0 a0 n0 so si u0 w_a0
set_option maxRecDepth 100000 in
theorem law7 (W : World) (ρ : Rho) (H : AH) (xs : List AV) (args : Array Value) (hR : Rel Try.prog W.heap.size W ρ H W) (hro : RO H) (hv : VRL ρ xs args.toList) (ht : TypedVs Try.prog H 9 Try.f7.params.toList xs) :
    Calls Try.prog 7 args W fun e w' => e = .returned (.bool true) ∧ Below W.heap.size W w' := by
  rw [Try.params7] at ht
  obtain ⟨a0, xs, rfl, g0, a1, xs, rfl, g1, a2, xs, rfl, g2, a3, xs, rfl, g3, a4, xs, rfl, g4, a5, xs, rfl, g5, rfl⟩ := ht
  obtain ⟨a0, rfl, wa0⟩ := typedV_int Try.underlying22 g0
  obtain ⟨n0, rfl, wn0⟩ := typedV_int Try.underlying3 g1
  obtain ⟨so, rfl, wso⟩ := typedV_int Try.underlying29 g2
  obtain ⟨si, rfl, wsi⟩ := typedV_int Try.underlying29 g3
  obtain ⟨fr, rfl⟩ := typedV_bool Try.underlying4 g4
  obtain ⟨u0, rfl, wu0⟩ := typedV_int Try.underlying3 g5
  obtain ⟨k, v, H', hex, rfl⟩ := run7 H hR.aok a0 n0 so si u0 fr wa0
  exact law_of mixed tabA_ok spA_ok hex hR hv
end Go.Proofs.Ytipcacpaadgagaa.E
namespace Go.Proofs.Ytipcacpaadgagaa.sendqGives
open Go.ChangeShapes Go.WideShapes Go.RowKit
set_option linter.unusedVariables false
theorem own : ownKnob Try.prog.godebug = none := by kernel_rfl
theorem types : (Try.f7.params.toList.all fun t => E.fit Try.prog 9 t && (Try.prog.readableRec t && decide (t < Try.prog.types.size))) = true := by kernel_rfl
set_option maxRecDepth 100000 in
theorem lifted (os : Os) (started : os.Started) (H : Type) (enc : TypeId × Value → H) :
    ReturnsInHanded {} Try.checked os 7 .any (Rows.sendqGivesSpec.pre6 enc Try.prog Try.f7 Rows.sendqGivesRow.domain false) (Rows.sendqGivesSpec.post enc Try.prog Try.f7 false true false false) :=
  E.law_lifted (C := Try.checked) (k := 9) (tb := 4) E.globals0 E.laid own started (by kernel_rfl) Try.func7
    (ChangeSpec.witness6 (enc := enc) (C := Try.checked) false ⟨#[], #[.int .u32 0, .int .i64 0, .int .u16 0, .int .u16 0, .bool false, .int .i64 0], []⟩ 8 (by kernel_rfl) (by kernel_rfl) (by kernel_rfl) (by kernel_rfl))
    rfl rfl Try.underlying4 (fun t ht => by have h := List.all_eq_true.1 types t ht; simp only [Bool.and_eq_true, decide_eq_true_eq] at h; exact h)
    (fun ds hd => by
      rw [Try.params7] at hd
      match ds, hd with
      | [d0, d1, d2, d3, d4, d5], _ => rfl) E.law7
theorem over : Rows.sendqGivesRow.holds Try.pinned (OpenSpec.ofChange Rows.sendqGivesSpec) :=
  OpenClaim.holds_of_wide 7 Try.f7 rfl rfl rfl rfl rfl rfl rfl ⟨rfl, rfl, rfl, rfl, rfl⟩ rfl rfl rfl rfl rfl (by kernel_rfl) Try.func7 (by kernel_rfl)
    (of_decide_eq_true (by kernel_rfl)) (by unfold Func.isWrapper; first | (rw [if_pos (by decide +kernel)]; kernel_rfl) | (rw [if_neg (by decide +kernel)]; exact ⟨rfl, rfl⟩))
    (fun os started H enc _ => lifted os started H enc)
end Go.Proofs.Ytipcacpaadgagaa.sendqGives
namespace Go.Proofs.Ytipcacpaadgagaa
/-- The row, under a short name, for the claim. -/
theorem sendqGives_holds : Rows.SendqGivesSaid := sendqGives.over
#print axioms sendqGives_holds
end Go.Proofs.Ytipcacpaadgagaa
