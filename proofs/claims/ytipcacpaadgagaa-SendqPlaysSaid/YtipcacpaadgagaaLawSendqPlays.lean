/- SendqPlays, for every input, without conditions. -/
import Derived.Test.YtipcacpaadgagaaQQ5
import Derived.Test.YtipcacpaadgagaaRows
import Derived.ProofKit
import Derived.OpenShut
namespace Go.Proofs.Ytipcacpaadgagaa.E
open Go.RowKit (Below)
set_option linter.unusedVariables false
set_option linter.unusedSimpArgs false
set_option maxHeartbeats 2000000 in
theorem alike_ev {H : AH} {R B D L LT : HL} {FP FT i : Nat} {q : List Te} {ms : List Nat} {pl : List Po} {nx : Int} {a : Int} (hQ : Qp FP (q.map Te.e) ms pl nx D L) (hT : Tq FT q nx ((pl.length : Nat) : Int) B LT) (hS : Sj B i q ms pl nx) (hi : i ≤ 41) (ha0 : 0 ≤ a ∧ a < 4294967296) (hH0 : Hs H (L ++ (D ++ (LT ++ (B ++ R))))) : Ev tabA spA (.fn (.func 30) [] []) [.p (some (FP, 0)), .p (some (FT, 0)), .i .u32 a] H (fun r H' => r = .b true ∧ Hs H' (L ++ (D ++ (LT ++ (B ++ R))))) := by
  refine Ev_C (F := x30) rfl ?_
  obtain ⟨lv, lc, hlv, hokq, rfl⟩ := hT
  rw [List.append_assoc] at hH0
  have hlen := hS.F.len
  have hlq : q.length ≤ 10 * i := by rw [List.length_map] at hlen; exact hlen
  have hst4 : ∀ e ∈ (q.map Te.e), e.st ≤ 4 := fun e he => by obtain ⟨x, hx, rfl⟩ := List.mem_map.1 he; exact (hS.T.st x hx).2
  have hfl8 : ∀ e ∈ (q.map Te.e), 0 ≤ e.c.f ∧ e.c.f < 256 := fun e he => by obtain ⟨x, hx, rfl⟩ := List.mem_map.1 he; exact (hS.g x hx).f
  refine C_seq  (C_region  (pv (.b false) rfl (O_nil  (C_seq  (C_region  (pv (pT FP 0) rfl ?_))))))
  refine O_call (Ev.mono (qp_forward hQ (by omega) hH0) fun v1 H2 hq3 => ?_)
  obtain ⟨ov, oc, rfl, hov, hHa⟩ := hq3
  refine pv (.tup [(.i .u32 (fwM (q.map Te.e) nx)), ov, (.b (decide (0 < fwX (q.map Te.e))))]) rfl (O_p (.i .u32 (fwM (q.map Te.e) nx)) (r_ext rfl rfl) (O_p ov (r_ext rfl rfl) (O_p (.b (decide (0 < fwX (q.map Te.e)))) (r_ext rfl rfl) (pv (.i .u32 (fwM (q.map Te.e) nx)) rfl (pv ov rfl (pv (.b (decide (0 < fwX (q.map Te.e)))) rfl (O_nil  (C_seq  (C_region  (pv (pT FT 0) rfl ?_))))))))))
  have hH4 := ((hHa.top4).top4)
  refine O_call (Ev.mono (rfwd_raw hlv rfl (by omega) hst4 hfl8 hH4) fun v5 H6 hq7 => ?_)
  obtain ⟨ow, od, rfl, how, hHb⟩ := hq7
  refine pv (.tup [(.i .u32 (fwM (q.map Te.e) nx)), ow, (.b (decide (0 < fwX (q.map Te.e))))]) rfl (O_p (.i .u32 (fwM (q.map Te.e) nx)) (r_ext rfl rfl) (O_p ow (r_ext rfl rfl) (O_p (.b (decide (0 < fwX (q.map Te.e)))) (r_ext rfl rfl) (pv (.i .u32 (fwM (q.map Te.e) nx)) rfl (pv ow rfl (pv (.b (decide (0 < fwX (q.map Te.e)))) rfl (O_nil  (C_seq  ?_))))))))
  obtain ⟨n, hcn⟩ := ack_nat a nx (q.map Te.e).length
  have hcn2 := hcn
  rw [List.length_map] at hcn2
  by_cases hin : 1 ≤ n ∧ n ≤ q.length
  ·
    obtain ⟨x, hxi⟩ : ∃ x, q[n - 1]? = some x := ⟨_, List.getElem?_eq_getElem (by omega)⟩
    have hxa : x.e.a = a := by have h9 := hS.F.a (n - 1) x.e (te_e hxi); rw [List.length_map] at h9; rw [h9]; exact (num_inv hcn2 ha0 hin.1).symm
    refine C_region  (pv (pT FP 0) rfl (pv (.i .u32 a) rfl ?_))
    have hH8 := (hHb.top4)
    refine O_call (Ev.mono (qp_state_yes hQ (by omega) hcn hin.1 (te_e hxi) hH8) fun v9 H10 hq11 => ?_)
    obtain ⟨rfl, hH12⟩ := hq11
    refine pv (.tup [(.i .i64 x.e.st), (.b true)]) rfl (O_p (.i .i64 x.e.st) (r_ext rfl rfl) (O_p (.b true) (r_ext rfl rfl) (pv (.i .i64 x.e.st) rfl (pv (.b true) rfl (O_nil  (C_seq  (C_region  (pv (pT FT 0) rfl (pv (.i .u32 a) rfl ?_)))))))))
    have hH13 := ((hH12.top3).top3)
    refine O_call (Ev.mono (rstate_raw hlv rfl (by omega) hH13) fun v14 H15 hq16 => ?_)
    obtain ⟨⟨j, y, hyj, hya, _, rfl⟩ | ⟨hno, _⟩, hH17⟩ := hq16
    rotate_left
    · exact absurd hxa (hno _ _ hxi)
    have hyx : y = x := by have h9 := hS.F.a j y.e (te_e hyj); rw [List.length_map] at h9; have h8 := num_at (nx := nx) (n := q.length) (k := j) (List.getElem?_eq_some_iff.1 hyj).1 (by omega); rw [← h9, hya, hcn2] at h8; rw [show n - 1 = j by omega, hyj] at hxi; exact Option.some.inj hxi
    subst hyx
    refine pv (.tup [(.i .i64 y.e.st), (.b true)]) rfl (O_p (.i .i64 y.e.st) (r_ext rfl rfl) (O_p (.b true) (r_ext rfl rfl) (pv (.i .i64 y.e.st) rfl (pv (.b true) rfl (O_nil  (C_seq  ?_))))))
    refine C_draw fun b18 H19 hbase20 hA21 => ?_
    have hH22 := hH17.keep (by have := hA21.1; omega) (fun q _ => hA21.2 q) ((hH17.old).aside hA21).ok
    refine D_l (v := (.i .u32 (fwM (q.map Te.e) nx))) rfl rfl rfl (r_mv rfl) (D_l (v := (.i .u32 (fwM (q.map Te.e) nx))) rfl rfl rfl (r_mv rfl) (D_l (v := (.b true)) rfl rfl rfl (r_eqq rfl rfl) (D_l (v := (.b true)) rfl rfl rfl (r_mv rfl) (D_gk rfl (D_l (v := ov) rfl rfl rfl (r_mv rfl) (D_gk rfl (D_l (v := ow) rfl rfl rfl (r_mv rfl) (D_gk rfl ?_))))))))
    have hH23 := ((hH22.top3).top4)
    refine D_call (Ev.mono (sskip_ev hov how (by have h9 := fwO_len (l := (q.map Te.e)) (j := fwX (q.map Te.e)); have h8 := fwX_le (l := (q.map Te.e)); omega) hH23) fun v24 H25 hq26 => ?_)
    obtain ⟨rfl, hH27⟩ := hq26
    refine And.intro True.intro (D_l (v := (.b true)) rfl rfl rfl (r_pick_t rfl rfl) (D_l (v := (.b true)) rfl rfl rfl (r_mv rfl) (D_gk rfl (D_l (v := (.b (decide (0 < fwX (q.map Te.e))))) rfl rfl rfl (r_mv rfl) (D_gk rfl (D_l (v := (.b (decide (0 < fwX (q.map Te.e))))) rfl rfl rfl (r_mv rfl) (D_gk rfl (D_l (v := (.b true)) rfl rfl rfl (r_beqq rfl rfl) (D_l (v := (.b true)) rfl rfl rfl (r_pick_t rfl rfl) (D_l (v := (.b true)) rfl rfl rfl (r_mv rfl) (D_gk rfl (D_l (v := (.i .i64 y.e.st)) rfl rfl rfl (r_mv rfl) (D_gk rfl ?_)))))))))))))
    refine D_l (v := (.i .i64 y.e.st)) rfl rfl rfl (r_mv rfl) (D_gk rfl (D_l (v := (.b true)) rfl rfl rfl (r_eqq rfl rfl) (D_l (v := (.b true)) rfl rfl rfl (r_pick_t rfl rfl) (D_l (v := (.b true)) rfl rfl rfl (r_mv rfl) (D_gk rfl (D_l (v := (.b true)) rfl rfl rfl (r_mv rfl) (D_gk rfl (D_l (v := (.b true)) rfl rfl rfl (r_mv rfl) (D_gk rfl (D_l (v := (.b true)) rfl rfl rfl (r_beqq rfl rfl) (D_l (v := (.b true)) rfl rfl rfl (r_pick_t rfl rfl) (D_l (v := (.b true)) rfl rfl rfl (r_mv rfl) (D_gk rfl ?_)))))))))))))
    refine D_l (v := (pT FP 0)) rfl rfl rfl (r_mv rfl) (D_gk rfl (D_l (v := (pT FT 0)) rfl rfl rfl (r_mv rfl) (D_gk rfl ?_)))
    have hH28 := (hH27.top4)
    refine D_call (Ev.mono (qp_floor hQ hH28) fun v29 H30 hq31 => ?_)
    obtain ⟨rfl, hH32⟩ := hq31
    refine And.intro True.intro (D_gk rfl ?_)
    have hH33 := ((hH32.top4).top4)
    refine D_call (Ev.mono (rfloor_raw hlv rfl (by omega) hH33) fun v34 H35 hq36 => ?_)
    obtain ⟨rfl, hH37⟩ := hq36
    refine And.intro True.intro (D_gk rfl (D_l (v := (.b true)) rfl rfl rfl (by exact (by rw [r_eql rfl rfl, decide_eq_true (by rw [List.length_map])])) (D_l (v := (.b true)) rfl rfl rfl (r_pick_t rfl rfl) (D_l (v := (.b true)) rfl rfl rfl (r_mv rfl) (D_gk rfl (D_l (v := (pT FP 0)) rfl rfl rfl (r_mv rfl) (D_gk rfl (D_l (v := (pT FT 0)) rfl rfl rfl (r_mv rfl) (D_gk rfl (D_l (v := (pT FT 0)) rfl rfl rfl (r_nilc rfl) (D_gk rfl (D_l (v := (pT FT 1)) rfl rfl rfl (r_fadd' rfl rfl) (D_gk rfl ?_)))))))))))))
    refine D_r (v := (.i .u32 nx)) rfl rfl rfl (r_ld rfl hH37.get0 rfl) (D_gk rfl ?_)
    have hH38 := (hH37.top2)
    refine D_call (Ev.mono (qp_next hQ hH38) fun v39 H40 hq41 => ?_)
    obtain ⟨rfl, hH42⟩ := hq41
    refine And.intro (And.intro (Or.inr (look_run rfl rfl (r_ld rfl hH42.get1 rfl))) True.intro) (D_gk rfl (D_l (v := (.b true)) rfl rfl rfl (r_eqq rfl rfl) (D_l (v := (.b true)) rfl rfl rfl (r_pick_t rfl rfl) (D_l (v := (.b true)) rfl rfl rfl (r_mv rfl) (D_gk rfl (D_l (v := (pT FP 0)) rfl rfl rfl (r_mv rfl) (D_gk rfl (D_l (v := (pT FT 0)) rfl rfl rfl (r_mv rfl) (D_gk rfl (D_l (v := (pT FT 0)) rfl rfl rfl (r_nilc rfl) (D_gk rfl (D_l (v := (pT FT 0)) rfl rfl rfl (r_fadd' rfl rfl) (D_gk rfl ?_)))))))))))))
    refine D_r (v := lv) rfl rfl rfl (r_ld rfl hH42.get1 rfl) (D_gk rfl (D_l (v := (.i .i64 (((q.length : Nat)) : Int))) rfl rfl rfl (by exact (by exact r_lenOf rfl (hlv.lenOf (te_flat q) (by decide)) hlv.isSl)) (D_gk rfl ?_)))
    refine D_call (Ev.mono (qp_len hQ hH42) fun v43 H44 hq45 => ?_)
    obtain ⟨rfl, hH46⟩ := hq45
    refine And.intro (And.intro (Or.inr (look_run rfl rfl (r_ld rfl hH46.get1 rfl))) (And.intro (Or.inl rfl) True.intro)) (D_gk rfl (D_l (v := (.b true)) rfl rfl rfl (by exact (by rw [r_eql rfl rfl, decide_eq_true (by rw [List.length_map])])) (D_l (v := (.b true)) rfl rfl rfl (r_pick_t rfl rfl) (D_l (v := (.b true)) rfl rfl rfl (r_mv rfl) (D_gk rfl (D_l (v := (pT FP 0)) rfl rfl rfl (r_mv rfl) (D_gk rfl (D_l (v := (pT FT 0)) rfl rfl rfl (r_mv rfl) (D_gk rfl ?_)))))))))
    refine D_call (Ev.mono (qp_flying hQ (by omega) hS.F.sz hH46) fun v47 H48 hq49 => ?_)
    obtain ⟨rfl, hH50⟩ := hq49
    refine And.intro (And.intro (Or.inl rfl) True.intro) (D_gk rfl ?_)
    have hH51 := ((hH50.top2).top2)
    refine D_call (Ev.mono (rocts_raw (a := 1) (b := 1) hlv rfl (by omega) hokq hS.F.sz hH51) fun v52 H53 hq54 => ?_)
    obtain ⟨rfl, hH55⟩ := hq54
    refine And.intro True.intro (D_gk rfl (D_l (v := (.b true)) rfl rfl rfl (by exact (by rw [r_eql rfl rfl, decide_eq_true (by rw [octs_two])])) (D_l (v := (.b true)) rfl rfl rfl (r_pick_t rfl rfl) (D_l (v := (.b true)) rfl rfl rfl (r_mv rfl) (D_gk rfl (D_l (v := (pT FP 0)) rfl rfl rfl (r_mv rfl) (D_gk rfl (D_l (v := (pT FT 0)) rfl rfl rfl (r_mv rfl) (D_gk rfl ?_)))))))))
    have hH56 := (hH55.top2)
    refine D_call (Ev.mono (qp_left hQ (by omega) hS.F.sz hH56) fun v57 H58 hq59 => ?_)
    obtain ⟨rfl, hH60⟩ := hq59
    refine And.intro True.intro (D_gk rfl ?_)
    have hH61 := ((hH60.top2).top2)
    refine D_call (Ev.mono (rocts_raw (a := 0) (b := 2) hlv rfl (by omega) hokq hS.F.sz hH61) fun v62 H63 hq64 => ?_)
    obtain ⟨rfl, hH65⟩ := hq64
    refine And.intro True.intro (D_gk rfl (D_l (v := (.b true)) rfl rfl rfl (r_eqq rfl rfl) (D_l (v := (.b true)) rfl rfl rfl (r_pick_t rfl rfl) (D_l (v := (.b true)) rfl rfl rfl (r_mv rfl) (D_nil  (C_ret  ?_))))))
    have hH66 := ((hH65.sub3).sub3)
    have hH67 := (((((hH66.top4).top2).top2).top4).top4)
    exact ⟨.inr rfl, _, resL_one (r_tmp (v := .b true) rfl), rfl, by rw [List.append_assoc]; exact hH67⟩
  ·
    refine C_region  (pv (pT FP 0) rfl (pv (.i .u32 a) rfl ?_))
    have hH68 := (hHb.top4)
    refine O_call (Ev.mono (qp_state_no hQ (by omega) hcn (by rw [List.length_map]; omega) hH68) fun v69 H70 hq71 => ?_)
    obtain ⟨rfl, hH72⟩ := hq71
    refine pv (.tup [(.i .i64 0), (.b false)]) rfl (O_p (.i .i64 0) (r_ext rfl rfl) (O_p (.b false) (r_ext rfl rfl) (pv (.i .i64 0) rfl (pv (.b false) rfl (O_nil  (C_seq  (C_region  (pv (pT FT 0) rfl (pv (.i .u32 a) rfl ?_)))))))))
    have hH73 := ((hH72.top3).top3)
    refine O_call (Ev.mono (rstate_raw hlv rfl (by omega) hH73) fun v74 H75 hq76 => ?_)
    obtain ⟨⟨j, y, hyj, hya, _, _⟩ | ⟨_, rfl⟩, hH77⟩ := hq76
    · exfalso; have h9 := hS.F.a j y.e (te_e hyj); rw [List.length_map] at h9; have h8 := num_at (nx := nx) (n := q.length) (k := j) (List.getElem?_eq_some_iff.1 hyj).1 (by omega); rw [← h9, hya, hcn2] at h8; have h7 := (List.getElem?_eq_some_iff.1 hyj).1; omega
    refine pv (.tup [(.i .i64 0), (.b false)]) rfl (O_p (.i .i64 0) (r_ext rfl rfl) (O_p (.b false) (r_ext rfl rfl) (pv (.i .i64 0) rfl (pv (.b false) rfl (O_nil  (C_seq  ?_))))))
    refine C_draw fun b78 H79 hbase80 hA81 => ?_
    have hH82 := hH77.keep (by have := hA81.1; omega) (fun q _ => hA81.2 q) ((hH77.old).aside hA81).ok
    refine D_l (v := (.i .u32 (fwM (q.map Te.e) nx))) rfl rfl rfl (r_mv rfl) (D_l (v := (.i .u32 (fwM (q.map Te.e) nx))) rfl rfl rfl (r_mv rfl) (D_l (v := (.b true)) rfl rfl rfl (r_eqq rfl rfl) (D_l (v := (.b true)) rfl rfl rfl (r_mv rfl) (D_gk rfl (D_l (v := ov) rfl rfl rfl (r_mv rfl) (D_gk rfl (D_l (v := ow) rfl rfl rfl (r_mv rfl) (D_gk rfl ?_))))))))
    have hH83 := ((hH82.top3).top4)
    refine D_call (Ev.mono (sskip_ev hov how (by have h9 := fwO_len (l := (q.map Te.e)) (j := fwX (q.map Te.e)); have h8 := fwX_le (l := (q.map Te.e)); omega) hH83) fun v84 H85 hq86 => ?_)
    obtain ⟨rfl, hH87⟩ := hq86
    refine And.intro True.intro (D_l (v := (.b true)) rfl rfl rfl (r_pick_t rfl rfl) (D_l (v := (.b true)) rfl rfl rfl (r_mv rfl) (D_gk rfl (D_l (v := (.b (decide (0 < fwX (q.map Te.e))))) rfl rfl rfl (r_mv rfl) (D_gk rfl (D_l (v := (.b (decide (0 < fwX (q.map Te.e))))) rfl rfl rfl (r_mv rfl) (D_gk rfl (D_l (v := (.b true)) rfl rfl rfl (r_beqq rfl rfl) (D_l (v := (.b true)) rfl rfl rfl (r_pick_t rfl rfl) (D_l (v := (.b true)) rfl rfl rfl (r_mv rfl) (D_gk rfl (D_l (v := (.i .i64 0)) rfl rfl rfl (r_mv rfl) (D_gk rfl ?_)))))))))))))
    refine D_l (v := (.i .i64 0)) rfl rfl rfl (r_mv rfl) (D_gk rfl (D_l (v := (.b true)) rfl rfl rfl (r_bin rfl rfl rfl) (D_l (v := (.b true)) rfl rfl rfl (r_pick_t rfl rfl) (D_l (v := (.b true)) rfl rfl rfl (r_mv rfl) (D_gk rfl (D_l (v := (.b false)) rfl rfl rfl (r_mv rfl) (D_gk rfl (D_l (v := (.b false)) rfl rfl rfl (r_mv rfl) (D_gk rfl (D_l (v := (.b true)) rfl rfl rfl (r_beqq rfl rfl) (D_l (v := (.b true)) rfl rfl rfl (r_pick_t rfl rfl) (D_l (v := (.b true)) rfl rfl rfl (r_mv rfl) (D_gk rfl ?_)))))))))))))
    refine D_l (v := (pT FP 0)) rfl rfl rfl (r_mv rfl) (D_gk rfl (D_l (v := (pT FT 0)) rfl rfl rfl (r_mv rfl) (D_gk rfl ?_)))
    have hH88 := (hH87.top4)
    refine D_call (Ev.mono (qp_floor hQ hH88) fun v89 H90 hq91 => ?_)
    obtain ⟨rfl, hH92⟩ := hq91
    refine And.intro True.intro (D_gk rfl ?_)
    have hH93 := ((hH92.top4).top4)
    refine D_call (Ev.mono (rfloor_raw hlv rfl (by omega) hH93) fun v94 H95 hq96 => ?_)
    obtain ⟨rfl, hH97⟩ := hq96
    refine And.intro True.intro (D_gk rfl (D_l (v := (.b true)) rfl rfl rfl (by exact (by rw [r_eql rfl rfl, decide_eq_true (by rw [List.length_map])])) (D_l (v := (.b true)) rfl rfl rfl (r_pick_t rfl rfl) (D_l (v := (.b true)) rfl rfl rfl (r_mv rfl) (D_gk rfl (D_l (v := (pT FP 0)) rfl rfl rfl (r_mv rfl) (D_gk rfl (D_l (v := (pT FT 0)) rfl rfl rfl (r_mv rfl) (D_gk rfl (D_l (v := (pT FT 0)) rfl rfl rfl (r_nilc rfl) (D_gk rfl (D_l (v := (pT FT 1)) rfl rfl rfl (r_fadd' rfl rfl) (D_gk rfl ?_)))))))))))))
    refine D_r (v := (.i .u32 nx)) rfl rfl rfl (r_ld rfl hH97.get0 rfl) (D_gk rfl ?_)
    have hH98 := (hH97.top2)
    refine D_call (Ev.mono (qp_next hQ hH98) fun v99 H100 hq101 => ?_)
    obtain ⟨rfl, hH102⟩ := hq101
    refine And.intro (And.intro (Or.inr (look_run rfl rfl (r_ld rfl hH102.get1 rfl))) True.intro) (D_gk rfl (D_l (v := (.b true)) rfl rfl rfl (r_eqq rfl rfl) (D_l (v := (.b true)) rfl rfl rfl (r_pick_t rfl rfl) (D_l (v := (.b true)) rfl rfl rfl (r_mv rfl) (D_gk rfl (D_l (v := (pT FP 0)) rfl rfl rfl (r_mv rfl) (D_gk rfl (D_l (v := (pT FT 0)) rfl rfl rfl (r_mv rfl) (D_gk rfl (D_l (v := (pT FT 0)) rfl rfl rfl (r_nilc rfl) (D_gk rfl (D_l (v := (pT FT 0)) rfl rfl rfl (r_fadd' rfl rfl) (D_gk rfl ?_)))))))))))))
    refine D_r (v := lv) rfl rfl rfl (r_ld rfl hH102.get1 rfl) (D_gk rfl (D_l (v := (.i .i64 (((q.length : Nat)) : Int))) rfl rfl rfl (by exact (by exact r_lenOf rfl (hlv.lenOf (te_flat q) (by decide)) hlv.isSl)) (D_gk rfl ?_)))
    refine D_call (Ev.mono (qp_len hQ hH102) fun v103 H104 hq105 => ?_)
    obtain ⟨rfl, hH106⟩ := hq105
    refine And.intro (And.intro (Or.inr (look_run rfl rfl (r_ld rfl hH106.get1 rfl))) (And.intro (Or.inl rfl) True.intro)) (D_gk rfl (D_l (v := (.b true)) rfl rfl rfl (by exact (by rw [r_eql rfl rfl, decide_eq_true (by rw [List.length_map])])) (D_l (v := (.b true)) rfl rfl rfl (r_pick_t rfl rfl) (D_l (v := (.b true)) rfl rfl rfl (r_mv rfl) (D_gk rfl (D_l (v := (pT FP 0)) rfl rfl rfl (r_mv rfl) (D_gk rfl (D_l (v := (pT FT 0)) rfl rfl rfl (r_mv rfl) (D_gk rfl ?_)))))))))
    refine D_call (Ev.mono (qp_flying hQ (by omega) hS.F.sz hH106) fun v107 H108 hq109 => ?_)
    obtain ⟨rfl, hH110⟩ := hq109
    refine And.intro (And.intro (Or.inl rfl) True.intro) (D_gk rfl ?_)
    have hH111 := ((hH110.top2).top2)
    refine D_call (Ev.mono (rocts_raw (a := 1) (b := 1) hlv rfl (by omega) hokq hS.F.sz hH111) fun v112 H113 hq114 => ?_)
    obtain ⟨rfl, hH115⟩ := hq114
    refine And.intro True.intro (D_gk rfl (D_l (v := (.b true)) rfl rfl rfl (by exact (by rw [r_eql rfl rfl, decide_eq_true (by rw [octs_two])])) (D_l (v := (.b true)) rfl rfl rfl (r_pick_t rfl rfl) (D_l (v := (.b true)) rfl rfl rfl (r_mv rfl) (D_gk rfl (D_l (v := (pT FP 0)) rfl rfl rfl (r_mv rfl) (D_gk rfl (D_l (v := (pT FT 0)) rfl rfl rfl (r_mv rfl) (D_gk rfl ?_)))))))))
    have hH116 := (hH115.top2)
    refine D_call (Ev.mono (qp_left hQ (by omega) hS.F.sz hH116) fun v117 H118 hq119 => ?_)
    obtain ⟨rfl, hH120⟩ := hq119
    refine And.intro True.intro (D_gk rfl ?_)
    have hH121 := ((hH120.top2).top2)
    refine D_call (Ev.mono (rocts_raw (a := 0) (b := 2) hlv rfl (by omega) hokq hS.F.sz hH121) fun v122 H123 hq124 => ?_)
    obtain ⟨rfl, hH125⟩ := hq124
    refine And.intro True.intro (D_gk rfl (D_l (v := (.b true)) rfl rfl rfl (r_eqq rfl rfl) (D_l (v := (.b true)) rfl rfl rfl (r_pick_t rfl rfl) (D_l (v := (.b true)) rfl rfl rfl (r_mv rfl) (D_nil  (C_ret  ?_))))))
    have hH126 := ((hH125.sub3).sub3)
    have hH127 := (((((hH126.top4).top2).top2).top4).top4)
    exact ⟨.inr rfl, _, resL_one (r_tmp (v := .b true) rfl), rfl, by rw [List.append_assoc]; exact hH127⟩
set_option maxRecDepth 100000 in
set_option maxHeartbeats 4000000 in
theorem run8 (H0 : AH) (hok0 : H0.Ok) (a0 : Int) (w_a0 : (Lit.int .u32 a0).wf = true) (v : AV) (rows : List (List AV)) (ol : List Op) (hv : ∀ H', Hs H' (allL H0) → Rw 6 H' v rows) (hol : OpsR (allL H0) rows ol) : Ev tabA spA (.fn (.func 8) [] []) [.i .u32 a0, v] H0 (fun v _ => v = .b true) := by
 have hH0 := allL_hs hok0
 refine Ev_C (F := x8) rfl ?_
 have ha0 : 0 ≤ a0 ∧ a0 < 4294967296 := wf_u32 w_a0
 refine C_seq  (C_region  (pv (.b false) rfl (O_nil  (C_seq  (C_region  ?_)))))
 refine O_call (Ev_sp (v := (.b true)) rfl rfl ?_)
 refine pv (.b true) rfl (O_nil  (C_seq  (C_seq  (C_region  (pv v rfl ?_)))))
 refine O_call (Ev.mono (few_ev hv hol hH0) fun v1 H2 hq3 => ?_)
 obtain ⟨fb, rfl, hfw, hH4⟩ := hq3
 refine O_p (.b (!fb)) (r_not rfl) (O_nil  ?_)
 refine C_cond (x := (!fb)) rfl (fun hc5 => ?_) (fun hc5 => ?_)
 ·
  try simp only [dz1, dz2, dz3, dz4, dz5, dz6, dz7, dz8, dz9] at hc5
  have hfb : fb = false := by simpa using hc5
  subst hfb
  refine C_seq  (C_region  (pv (.b true) rfl (pv (.b true) rfl (O_nil  (C_ret  (nx_ret  ?_))))))
  exact ⟨.inr rfl, _, resL_one (r_tmp (v := .b true) rfl), rfl⟩
 ·
  try simp only [dz1, dz2, dz3, dz4, dz5, dz6, dz7, dz8, dz9] at hc5
  have hfb : fb = true := by simpa using hc5
  subst hfb
  obtain ⟨hol40, hopf⟩ := hfw rfl
  refine C_skip  (C_seq  (C_region  (pv (.i .u32 a0) rfl ?_)))
  refine O_call (Ev.mono (new_ev (a := a0) hH4) fun v6 H7 hq8 => ?_)
  obtain ⟨FP, rfl, hH9⟩ := hq8
  have hH10 : Hs _ (([(FP, some (.cells [.sl none 0 0 0, .i .u32 a0] true))] ++ []) ++ (([] : HL) ++ _)) := hH9
  have hQ0 : Qp FP (([] : List Te).map Te.e) [] [] a0 [] ([(FP, some (.cells [.sl none 0 0 0, .i .u32 a0] true))] ++ []) := qp_new0 (F := FP) a0
  refine pv (pT FP 0) rfl (O_nil  (C_seq  (C_region  (pv (.i .u32 a0) rfl ?_))))
  refine O_call (Ev.mono (rnew_ev (a := a0) hH10) fun v11 H12 hq13 => ?_)
  obtain ⟨FT, rfl, hH14⟩ := hq13
  have hH15 : Hs _ (([(FT, some (.cells [.sl none 0 0 0, .i .u32 a0, .i .i64 0] true))] ++ []) ++ _) := hH14
  have hT0 := tq_new0 (F := FT) (B := (allL H0)) a0
  have hS0 : Sj (allL H0) 0 [] [] [] a0 := ⟨⟨by decide, ha0, (fun k e he => by cases he), (fun e he => by cases he)⟩, ⟨rfl, (fun k x m hx => by cases hx), (fun k x t p hx => by cases hx), (fun x hx => by cases hx)⟩, (fun x hx => by cases hx), Nat.le_refl _⟩
  refine pv (pT FT 0) rfl (O_nil  (C_seq  (C_seq  (C_region  (pv (.i .i64 0) rfl (O_nil  (C_block  ?_)))))))
  have hH16 := ((((hH15.top3).top1).top3).top3)
  refine C_while (fun m17 T18 H19 => ∃ q : List Te, ∃ ms : List Nat, ∃ pl : List Po, ∃ nx : Int, ∃ L : HL, ∃ D : HL, ∃ LT : HL, ∃ i : Nat, m17 = ol.length - i ∧ i ≤ ol.length ∧ Qp FP (q.map Te.e) ms pl nx D L ∧ Tq FT q nx ((pl.length : Nat) : Int) (allL H0) LT ∧ Sj (allL H0) i q ms pl nx ∧ Hs H19 (L ++ (D ++ (LT ++ ((allL H0) ++ ([]))))) ∧ T18.get 0 = (.i .u32 a0) ∧ T18.get 1 = v ∧ T18.get 5 = (.b true) ∧ T18.get 6 = (.p (some (FP, 0))) ∧ T18.get 7 = (.p (some (FT, 0))) ∧ T18.get 8 = (.i .i64 (((i : Nat)) : Int))) (fun m17 T18 H19 hI20 => ?_) ol.length _ _ ⟨[], [], [], a0, ([(FP, some (.cells [.sl none 0 0 0, .i .u32 a0] true))] ++ []), ([] : HL), ([(FT, some (.cells [.sl none 0 0 0, .i .u32 a0, .i .i64 0] true))] ++ []), 0, rfl, Nat.zero_le _, hQ0, hT0, hS0, hH16, rfl, rfl, rfl, rfl, rfl, rfl⟩
  obtain ⟨q, ms, pl, nx, L, D, LT, i, hm21, hp22, hp23, hp24, hp25, hH32, hT26, hT27, hT28, hT29, hT30, hT31⟩ := hI20
  refine C_seq  (C_seq  (C_region  (pv (nI i) hT31 (pv v hT27 (O_p (.i .i64 (((ol.length : Nat)) : Int)) (r_lenOf (v := v) (n := ol.length) rfl ((hv _ hH32.top3.fst).lenOf hol.1) (hv _ hH32.top3.fst).isSl) (O_p (.b (decide ((((i : Nat)) : Int) < (((ol.length : Nat)) : Int)))) (r_lss rfl rfl) (O_nil  ?_)))))))
  refine C_cond (x := (decide ((((i : Nat)) : Int) < (((ol.length : Nat)) : Int)))) rfl (fun hc33 => ?_) (fun hc33 => ?_)
  ·
   try simp only [dz1, dz2, dz3, dz4, dz5, dz6, dz7, dz8, dz9] at hc33
   refine C_skip  (C_seq  (C_block  (C_seq  (C_region  ?_))))
   have hiol : i < ol.length := by omega
   obtain ⟨o, hoi⟩ : ∃ o, ol[i]? = some o := ⟨_, List.getElem?_eq_getElem hiol⟩
   obtain ⟨hor, hog⟩ := hol.2 _ _ hoi
   obtain ⟨crows, hvl, hcr⟩ := hog.l
   obtain ⟨brows, hvb, hbr⟩ := hog.b
   have hof := hopf o (List.mem_of_getElem? hoi)
   refine pv (pT FP 0) hT29 (pv (pT FT 0) hT30 (pv v hT27 (pv (nI i) hT31 ?_)))
   refine O_q (by exact Rw.row (hv _ hH32.top3.fst) rfl (i := i) rfl (r := [(.i .i64 o.w), (.i .i64 o.n), (.i .i64 o.m), o.lv, (.i .u32 o.cu), o.bv]) hor) fun v35 hv34 => ?_
   obtain ⟨rb36, ro37, rfl, hr38⟩ := hv34
   refine O_p (.agg [(.i .i64 o.w), (.i .i64 o.n), (.i .i64 o.m), o.lv, (.i .u32 o.cu), o.bv]) (r_ldRA (q := 0) rfl (hr38 _ (hv _ hH32.top3.fst)) rfl) (pv (.i .u32 a0) hT26 ?_)
   have hH39 := ((((hH32.top3).top3).top3).top3)
   refine O_call (Ev.mono (step_ev (o := o) (a0 := a0) hp23 hp24 hp25 (by omega) hog hof hH39) fun v40 H41 hq42 => ?_)
   obtain ⟨rfl, q2, ms2, pl2, nx2, D2, L2, LT2, hQ2, hT2, hS2, hHs⟩ := hq42
   refine O_p (.b false) (r_un rfl rfl) (pv (.b false) rfl (O_gk rfl (pv (pT FP 0) hT29 (O_gk rfl (pv (pT FT 0) hT30 (O_gk rfl (pv (.i .u32 a0) hT26 (O_gk rfl (pv v hT27 (O_gk rfl (pv (nI i) hT31 (O_gk rfl ?_))))))))))))
   refine O_q (by exact Rw.row (hv _ hHs.top3.fst) rfl (i := i) rfl (r := [(.i .i64 o.w), (.i .i64 o.n), (.i .i64 o.m), o.lv, (.i .u32 o.cu), o.bv]) hor) fun v44 hv43 => ?_
   obtain ⟨rb45, ro46, rfl, hr47⟩ := hv43
   refine O_gk rfl (pf (.p (some (rb45, (ro46 + 4)))) rfl rfl (O_gk rfl (O_p (.i .u32 o.cu) (r_ldR (q := 4) rfl (hr47 _ (hv _ hHs.top3.fst)) rfl) (O_gk rfl (O_p (.i .u32 (IntKind.u32.wrap (a0 + o.cu))) (r_bin rfl rfl rfl) (O_gk rfl ?_))))))
   have hH48 := ((((hHs.top3).top3).top3).top3)
   refine O_call (Ev.mono (alike_ev (a := w32 (a0 + o.cu)) hQ2 hT2 hS2 (by omega) (w32_r _) hH48) fun v49 H50 hq51 => ?_)
   obtain ⟨rfl, hH52⟩ := hq51
   refine O_gk rfl (O_p (.b false) (r_un rfl rfl) (O_p (.b false) (r_pick_f rfl rfl) (O_nil  ?_)))
   refine C_cond (x := false) rfl (fun h => by cases h) (fun _ => ?_)
   refine C_skip  (C_region  (pv (nI i) hT31 (O_p (.i .i64 ((((i : Nat)) : Int) + 1)) (by exact (r_addi rfl rfl (wrap_i64 (by omega) (by omega)))) (pv (.i .i64 ((((i : Nat)) : Int) + 1)) rfl (O_nil  ?_)))))
   have hH53 := ((((hH52.top3).top3).top3).top3)
   exact ⟨ol.length - (i + 1), by omega, q2, ms2, pl2, nx2, L2, D2, LT2, (i + 1), rfl, by omega, hQ2, hT2, hS2, hH53, hT26, hT27, hT28, hT29, hT30, rfl⟩
  ·
   try simp only [dz1, dz2, dz3, dz4, dz5, dz6, dz7, dz8, dz9] at hc33
   refine C_exit  (nx_exit  (nx_exit  (bk_hit  (C_seq  (C_region  (pv (.b true) hT28 (pv (.b true) rfl (O_nil  (C_ret  ?_)))))))))
   exact ⟨.inr rfl, _, resL_one (r_tmp (v := .b true) rfl), rfl⟩
set_option maxRecDepth 100000 in
theorem run8T (H : AH) (hok : H.Ok) (a0 : Int) (w_a0 : (Lit.int .u32 a0).wf = true) {v : AV} (h : Typed Try.prog H 9 52 [v]) : Ev tabA spA (.fn (.func 8) [] []) [.i .u32 a0, v] H (fun v _ => v = .b true) := by
 obtain ⟨p, n, c, rfl, hnc, _, hr⟩ := typed_recs (z := 6) Try.underlying52 (by kernel_rfl) h
 obtain ⟨rows, hrw, _, hrt⟩ := Rw.given hnc hr
 obtain ⟨ol, hol⟩ := ops_ex fun i r hi => opT hok (hrt i r hi)
 exact run8 H hok a0 w_a0 _ rows ol (fun H' hh => hrw.ro (R := []) hok (by rw [List.append_nil]; exact hh)) hol
set_option maxRecDepth 100000 in
theorem law8 (W : World) (ρ : Rho) (H : AH) (xs : List AV) (args : Array Value) (hR : Rel Try.prog W.heap.size W ρ H W) (hro : RO H) (hv : VRL ρ xs args.toList) (ht : TypedVs Try.prog H 9 Try.f8.params.toList xs) :
  Calls Try.prog 8 args W fun e w' => e = .returned (.bool true) ∧ Below W.heap.size W w' := by
 rw [Try.params8] at ht
 obtain ⟨a0, xs, rfl, g0, a1, xs, rfl, g1, rfl⟩ := ht
 obtain ⟨a0, rfl, wa0⟩ := typedV_int Try.underlying22 g0
 obtain ⟨k, v, H', hex, rfl⟩ := run8T H hR.aok a0 wa0 (typedV_slice Try.underlying52 g1)
 exact law_of mixed tabA_ok spA_ok hex hR hv
end Go.Proofs.Ytipcacpaadgagaa.E
namespace Go.Proofs.Ytipcacpaadgagaa.sendqPlays
open Go.ChangeShapes Go.WideShapes Go.RowKit
set_option linter.unusedVariables false
theorem own : ownKnob Try.prog.godebug = none := by kernel_rfl
theorem types : (Try.f8.params.toList.all fun t => E.fit Try.prog 9 t && (Try.prog.readableRec t && decide (t < Try.prog.types.size))) = true := by kernel_rfl
set_option maxRecDepth 100000 in
theorem lifted (os : Os) (started : os.Started) (H : Type) (enc : TypeId × Value → H) :
    ReturnsInHanded {} Try.checked os 8 .any (Rows.sendqPlaysSpec.pre6 enc Try.prog Try.f8 Rows.sendqPlaysRow.domain false) (Rows.sendqPlaysSpec.post enc Try.prog Try.f8 false true false false) :=
  E.law_lifted (C := Try.checked) (k := 9) (tb := 4) E.globals0 E.laid own started (by kernel_rfl) Try.func8
    (ChangeSpec.witness6 (enc := enc) (C := Try.checked) false ⟨#[], #[.int .u32 0, .slice none 0 0], []⟩ 8 (by kernel_rfl) (by kernel_rfl) (by kernel_rfl) (by kernel_rfl))
    rfl rfl Try.underlying4 (fun t ht => by have h := List.all_eq_true.1 types t ht; simp only [Bool.and_eq_true, decide_eq_true_eq] at h; exact h)
    (fun ds hd => by
      rw [Try.params8] at hd
      match ds, hd with
      | [d0, d1], _ => rfl) E.law8
theorem over : Rows.sendqPlaysRow.holds Try.pinned (OpenSpec.ofChange Rows.sendqPlaysSpec) :=
 OpenClaim.holds_of_wide 8 Try.f8 rfl rfl rfl rfl rfl rfl rfl ⟨rfl, rfl, rfl, rfl, rfl⟩ rfl rfl rfl rfl rfl (by kernel_rfl) Try.func8 (by kernel_rfl)
  (of_decide_eq_true (by kernel_rfl)) (by unfold Func.isWrapper; first | (rw [if_pos (by decide +kernel)]; kernel_rfl) | (rw [if_neg (by decide +kernel)]; exact ⟨rfl, rfl⟩))
  (fun os started H enc _ => lifted os started H enc)
end Go.Proofs.Ytipcacpaadgagaa.sendqPlays
namespace Go.Proofs.Ytipcacpaadgagaa
theorem sendqPlays_holds : Rows.SendqPlaysSaid := sendqPlays.over
#print axioms sendqPlays_holds
end Go.Proofs.Ytipcacpaadgagaa
