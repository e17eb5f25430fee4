/- SendqRoom, for every input, without conditions. -/
import Derived.Test.YtipcacpaadgagaaW
import Derived.Test.YtipcacpaadgagaaRows
import Derived.ProofKit
import Derived.OpenShut
namespace Go.Proofs.Ytipcacpaadgagaa.E
open Go.RowKit (Below)
set_option linter.unusedVariables false
set_option linter.unusedSimpArgs false
set_option maxRecDepth 100000 in
set_option maxHeartbeats 4000000 in
theorem run4 (H0 : AH) (hok0 : H0.Ok) (a0 room : Int) (w_a0 : (Lit.int .u32 a0).wf = true) (w_room : (Lit.int .i64 room).wf = true) (v : AV) (sl : List Int) (hv : ∀ H', Hs H' (allL H0) → Rw 1 H' v (sl.map fun x => [AV.i .i64 x])) : Ev tabA spA (.fn (.func 4) [] []) [.i .u32 a0, v, .i .i64 room] H0 (fun v _ => v = .b true) := by
  have hH0 := allL_hs hok0
  refine Ev_C (F := x4) rfl ?_
  have ha0 : 0 ≤ a0 ∧ a0 < 4294967296 := by simp [Lit.wf, IntKind.wrap, IntKind.signed, IntKind.bits, IntKind.min, IntKind.max] at w_a0; omega
  have hroom : room ≤ 9223372036854775807 := by simp [Lit.wf, IntKind.wrap, IntKind.signed, IntKind.bits, IntKind.min, IntKind.max] at w_room; omega
  refine C_seq ?_
  refine C_region ?_
  refine O_p (.b false) (r_mv rfl) ?_
  refine O_nil ?_
  refine C_seq ?_
  refine C_region ?_
  refine O_call (Ev_sp (v := (.b true)) rfl rfl ?_)
  refine O_p (.b true) (r_mv rfl) ?_
  refine O_nil ?_
  refine C_seq ?_
  refine C_seq ?_
  refine C_region ?_
  refine O_p v (r_mv rfl) ?_
  refine O_p (.i .i64 (((sl.length : Nat)) : Int)) (r_lenOf (v := v) (n := sl.length) rfl ((hv _ hH0.top0.fst).lenOf (List.length_map ..)) (hv _ hH0.top0.fst).isSl) ?_
  refine O_p (.b (decide (100 < (((sl.length : Nat)) : Int)))) (r_gtr rfl rfl) ?_
  refine O_nil ?_
  refine C_cond (x := (decide (100 < (((sl.length : Nat)) : Int)))) rfl (fun hc1 => ?_) (fun hc1 => ?_)
  ·
    try simp only [decide_eq_true_eq, decide_eq_false_iff_not, Bool.not_eq_true', Bool.not_eq_false', Bool.and_eq_true, Bool.or_eq_true, Bool.or_eq_false_iff, Bool.not_not, Bool.and_eq_false_iff] at hc1
    refine C_seq ?_
    refine C_region ?_
    refine O_p (.b true) (r_mv rfl) ?_
    refine O_p (.b true) (r_mv rfl) ?_
    refine O_nil ?_
    refine C_ret ?_
    refine nx_ret ?_
    exact ⟨.inr rfl, _, resL_one (r_tmp (v := .b true) rfl), rfl⟩
  ·
    try simp only [decide_eq_true_eq, decide_eq_false_iff_not, Bool.not_eq_true', Bool.not_eq_false', Bool.and_eq_true, Bool.or_eq_true, Bool.or_eq_false_iff, Bool.not_not, Bool.and_eq_false_iff] at hc1
    refine C_skip ?_
    refine C_seq ?_
    refine C_region ?_
    refine O_p (.i .u32 a0) (r_mv rfl) ?_
    refine O_call (Ev.mono (new_ev (a := a0) hH0) fun v2 H3 hq4 => ?_)
    obtain ⟨F5, rfl, hH6⟩ := hq4
    have hH7 : Hs _ (([(F5, some (.cells [.sl none 0 0 0, .i .u32 a0] true))] ++ []) ++ (([] : HL) ++ _)) := hH6
    have hQ0 := q_new0 (F := F5) a0
    refine O_p (.p (some (F5, 0))) (r_mv rfl) ?_
    refine O_nil ?_
    refine C_seq ?_
    refine C_region ?_
    refine O_p (.i .i64 0) (r_mv rfl) ?_
    refine O_nil ?_
    refine C_seq ?_
    refine C_seq ?_
    refine C_region ?_
    refine O_p (.i .i64 0) (r_mv rfl) ?_
    refine O_nil ?_
    refine C_block ?_
    have hH8 := (((hH7.top2).top2).top2)
    refine C_while (fun m9 T10 H11 => ∃ L : HL, ∃ D : HL, ∃ i : Nat, m9 = sl.length - i ∧ i ≤ sl.length ∧ Qr F5 (mkE a0 ((sl.take i).map szf)) (w32 (a0 + ((i : Nat) : Int))) D L ∧ ((sl.take i).map szf).sum ≤ i * 1024 ∧ Hs H11 (L ++ (D ++ ((allL H0) ++ ([])))) ∧ T10.get 0 = (.i .u32 a0) ∧ T10.get 1 = v ∧ T10.get 2 = (.i .i64 room) ∧ T10.get 7 = (.b true) ∧ T10.get 8 = (.p (some (F5, 0))) ∧ T10.get 9 = (.i .i64 (((((sl.take i).map szf).sum : Nat)) : Int)) ∧ T10.get 10 = (.i .i64 (((i : Nat)) : Int))) (fun m9 T10 H11 hI12 => ?_) sl.length _ _ ⟨([(F5, some (.cells [.sl none 0 0 0, .i .u32 a0] true))] ++ []), ([] : HL), 0, rfl, Nat.zero_le _, by rw [w32_id ha0]; exact hQ0, Nat.zero_le _, hH8, rfl, rfl, rfl, rfl, rfl, rfl, rfl⟩
    obtain ⟨L, D, i, hm13, hp14, hp15, hp16, hH24, hT17, hT18, hT19, hT20, hT21, hT22, hT23⟩ := hI12
    refine C_seq ?_
    refine C_seq ?_
    refine C_region ?_
    refine O_p (.i .i64 (((i : Nat)) : Int)) (r_mv hT23) ?_
    refine O_p v (r_mv hT18) ?_
    refine O_p (.i .i64 (((sl.length : Nat)) : Int)) (r_lenOf (v := v) (n := sl.length) rfl ((hv _ hH24.top2.fst).lenOf (List.length_map ..)) (hv _ hH24.top2.fst).isSl) ?_
    refine O_p (.b (decide ((((i : Nat)) : Int) < (((sl.length : Nat)) : Int)))) (r_lss rfl rfl) ?_
    refine O_nil ?_
    refine C_cond (x := (decide ((((i : Nat)) : Int) < (((sl.length : Nat)) : Int)))) rfl (fun hc25 => ?_) (fun hc25 => ?_)
    ·
      try simp only [decide_eq_true_eq, decide_eq_false_iff_not, Bool.not_eq_true', Bool.not_eq_false', Bool.and_eq_true, Bool.or_eq_true, Bool.or_eq_false_iff, Bool.not_not, Bool.and_eq_false_iff] at hc25
      refine C_skip ?_
      refine C_seq ?_
      refine C_block ?_
      refine C_seq ?_
      refine C_region ?_
      have hil : i < sl.length := by omega
      obtain ⟨xi, hxi⟩ : ∃ y, sl[i]? = some y := ⟨_, List.getElem?_eq_getElem hil⟩
      have hsnoc : (sl.take (i + 1)).map szf = (sl.take i).map szf ++ [szf xi] := by rw [take_at hxi, List.map_append]; rfl
      have hszr := szf_r xi
      refine O_p v (r_mv hT18) ?_
      refine O_p (.i .i64 (((i : Nat)) : Int)) (r_mv hT23) ?_
      refine O_q (by exact Rw.row (hv _ hH24.top2.fst) rfl (i := i) rfl (r := [(.i .i64 xi)]) (int_row hxi)) fun v27 hv26 => ?_
      obtain ⟨rb28, ro29, rfl, hr30⟩ := hv26
      refine O_p (.i .i64 xi) (r_ldR (q := 0) rfl (hr30 _ (hv _ hH24.top2.fst)) rfl) ?_
      refine O_p (.i .i64 ((((msk xi) : Nat)) : Int)) ((r_bin rfl rfl rfl).trans (congrArg (fun z => some (AV.i IntKind.i64 z, H11)) (msk_wrap xi).1)) ?_
      refine O_p (.i .i64 ((((szf xi) : Nat)) : Int)) (by exact (by rw [show ((szf xi : Nat) : Int) = 1 + ((msk xi : Nat) : Int) by unfold szf; omega]; exact r_addi rfl rfl (wrap_i64 (by have := (msk_wrap xi).2; omega) (by have := (msk_wrap xi).2; omega)))) ?_
      refine O_p (.i .i64 ((((szf xi) : Nat)) : Int)) (r_mv rfl) ?_
      refine O_nil ?_
      refine C_seq ?_
      refine C_seq ?_
      refine C_region ?_
      refine O_p (.p (some (F5, 0))) (r_mv hT21) ?_
      refine O_p (.i .i64 ((((szf xi) : Nat)) : Int)) (r_mv rfl) ?_
      refine O_call (Ev.mono (piece_ev (n := (szf xi)) (by have := szf_r xi; omega) hH24) fun v31 H32 hq33 => ?_)
      obtain ⟨db34, rfl, hH35⟩ := hq33
      refine O_bslice (c := [(.i .u8 0), (.i .u8 3), (.i .u32 0), (.i .u32 0), (.i .u16 0), (.i .u16 0), (.i .u32 0), (.sl none 0 0 0), (.sl none 0 0 0), (.sl none 0 0 0), (.sl none 0 0 0), (.sl (some (db34, 0)) (szf xi) (szf xi) 0)]) rfl fun n36 H37 hN38 => ?_
      have hH39 := hH35.new hN38
      have hH40 := ((hH39.top1).top1)
      have hH41 := Hs.unassoc hH40
      have hH42 := ((hH41.top2).top2)
      refine O_call (Ev.mono (q_push1 (n := szf xi) hp15 ⟨(szf_r xi).1, by have := (szf_r xi).2; omega⟩ (by rw [mkE_len, List.length_map, List.length_take]; omega) (w32_r _) hH42) fun v43 H44 hq45 => ?_)
      obtain ⟨L46, D47, m48, rfl, hQ49, hH50⟩ := hq45
      have hH50s := hH50.sub1
      refine O_p (.b false) (r_bin rfl rfl rfl) ?_
      refine O_nil ?_
      refine C_cond (x := false) rfl (fun h => by cases h) (fun _ => ?_)
      refine C_skip ?_
      refine C_region ?_
      refine O_p (.i .i64 (((((sl.take i).map szf).sum : Nat)) : Int)) (r_mv hT22) ?_
      refine O_p (.i .i64 ((((szf xi) : Nat)) : Int)) (r_mv rfl) ?_
      refine O_p (.i .i64 ((((((sl.take i).map szf).sum : Nat)) : Int) + ((((szf xi) : Nat)) : Int))) (by exact (r_addi rfl rfl (wrap_i64 (by omega) (by omega)))) ?_
      refine O_p (.i .i64 ((((((sl.take i).map szf).sum : Nat)) : Int) + ((((szf xi) : Nat)) : Int))) (r_mv rfl) ?_
      refine O_nil ?_
      refine C_region ?_
      refine O_p (.i .i64 (((i : Nat)) : Int)) (r_mv hT23) ?_
      refine O_p (.i .i64 ((((i : Nat)) : Int) + 1)) (by exact (r_addi rfl rfl (wrap_i64 (by omega) (by omega)))) ?_
      refine O_p (.i .i64 ((((i : Nat)) : Int) + 1)) (r_mv rfl) ?_
      refine O_nil ?_
      have hH51 := (((hH50s.top2).top2).top2)
      exact ⟨sl.length - (i + 1), by omega, L46, D47, (i + 1), rfl, by omega, by have h9 := hQ49; rw [w32_w, show w32 (w32 (a0 + ((i : Nat) : Int)) + 1) = w32 (a0 + ((i + 1 : Nat) : Int)) from w32_succ a0 i] at h9; rw [hsnoc, mkE_snoc, List.length_map, List.length_take, Nat.min_eq_left (by omega)]; exact h9, by rw [hsnoc, List.sum_append, List.sum_cons, List.sum_nil]; have := (szf_r xi).2; omega, hH51, hT17, hT18, hT19, hT20, hT21, (by rw [show ((((sl.take (i + 1)).map szf).sum : Nat) : Int) = ((((sl.take i).map szf).sum : Nat) : Int) + ((szf xi : Nat) : Int) by rw [hsnoc, List.sum_append, List.sum_cons, List.sum_nil]; omega]; exact rfl), rfl⟩
    ·
      try simp only [decide_eq_true_eq, decide_eq_false_iff_not, Bool.not_eq_true', Bool.not_eq_false', Bool.and_eq_true, Bool.or_eq_true, Bool.or_eq_false_iff, Bool.not_not, Bool.and_eq_false_iff] at hc25
      refine C_exit ?_
      refine nx_exit ?_
      refine nx_exit ?_
      refine bk_hit ?_
      refine C_seq ?_
      refine C_region ?_
      have hin : i = sl.length := by omega
      have hQa := hp15
      rw [hin, List.take_length] at hQa
      have htt : tot (mkE a0 (sl.map szf)) = (sl.map szf).sum := tot_mkE
      have hts : ((sl.take i).map szf).sum = (sl.map szf).sum := by rw [hin, List.take_length]
      have hsm := hp16
      have hst : ∀ e ∈ mkE a0 (sl.map szf), e.st = 0 := mkE_all fun n hn b => rfl
      have hsz : ∀ e ∈ mkE a0 (sl.map szf), e.c.d.length ≤ 1024 := mkE_all fun n hn b => by obtain ⟨y, _, rfl⟩ := List.mem_map.1 hn; show (List.replicate (szf y) (0 : UInt8)).length ≤ 1024; rw [List.length_replicate]; exact (szf_r y).2
      have hse : ∀ e ∈ mkE a0 (sl.map szf), 0 ≤ e.sent ∧ e.sent ≤ 1000000 := mkE_all fun n hn b => ⟨by show (0 : Int) ≤ 0; decide, by show (0 : Int) ≤ 1000000; decide⟩
      have hel : (mkE a0 (sl.map szf)).length = sl.length := by rw [mkE_len, List.length_map]
      obtain ⟨m, hm1, hm2, hm3, hm4, hm5⟩ := take2_wait (now := 7) (room := room) hst
      obtain ⟨ea, hea⟩ : ∃ z, z = mkE a0 (sl.map szf) := ⟨_, rfl⟩
      rw [← hea] at hQa htt hst hsz hse hel hm1 hm2 hm3 hm4 hm5
      have hsplit : tot (ea.take m) + tot (ea.drop m) = tot ea := by rw [← tot_app, List.take_append_drop]
      have hnw : ∀ e, e ∈ (take2 7 ea room).1 → e.c.d.length ≤ 1000000 := by rw [hm2]; intro e he; rcases List.mem_append.1 he with h9 | h9; obtain ⟨z, hz, rfl⟩ := List.mem_map.1 h9; exact Nat.le_trans (hsz z (List.mem_of_mem_take hz)) (by decide); exact Nat.le_trans (hsz e (List.mem_of_mem_drop h9)) (by decide)
      have hnl : (take2 7 ea room).1.length ≤ 100000 := by rw [hm2, List.length_append, List.length_map, List.length_take, List.length_drop]; omega
      have hfl : octs [1] (take2 7 ea room).1 = tot (ea.take m) := by rw [hm2, octs_app, octs_in (ss := [1]) (l := (ea.take m).map (Ea.fly 7)) (fun e he => by obtain ⟨z, _, rfl⟩ := List.mem_map.1 he; exact List.mem_singleton.2 rfl), tot_fly, octs_out (fun e he => by rw [hst e (List.mem_of_mem_drop he)]; decide)]; rfl
      have hlf : octs [0, 2] (take2 7 ea room).1 = tot (ea.drop m) := by rw [hm2, octs_app, octs_out (ss := [0, 2]) (l := (ea.take m).map (Ea.fly 7)) (fun e he => by obtain ⟨z, _, rfl⟩ := List.mem_map.1 he; show (1 : Int) ∉ [0, 2]; decide), octs_in (fun e he => by rw [hst e (List.mem_of_mem_drop he)]; decide), Nat.zero_add]
      refine O_p (.p (some (F5, 0))) (r_mv hT21) ?_
      refine O_p (.i .i64 room) (r_mv hT19) ?_
      have hH52 := ((hH24.top1).top1)
      have hH53 := ((hH52.top1).top1)
      refine O_call (Ev.mono (q_take (now := 7) (room := room) hQa (by omega) (fun e he => Nat.le_trans (hsz e he) (by decide)) hse hroom hH53) fun v54 H55 hq56 => ?_)
      obtain ⟨L5, D5, ov, oc, rows, rfl, hQ5, hSo, hC5, _, hH5⟩ := hq56
      rw [hm3] at hC5
      refine O_p v54 (r_mv rfl) ?_
      refine O_nil ?_
      refine C_seq ?_
      refine C_region ?_
      refine O_p (.i .i64 0) (r_mv rfl) ?_
      refine O_nil ?_
      refine C_seq ?_
      refine C_seq ?_
      refine C_region ?_
      refine O_p (.i .i64 0) (r_mv rfl) ?_
      refine O_nil ?_
      refine C_block ?_
      have hH57 := ((((hH5.top3).top3).top3).top3)
      refine C_while (fun m58 T59 H60 => ∃ j : Nat, m58 = m - j ∧ j ≤ m ∧ Hs H60 ((qseg v54 oc) ++ (L5 ++ (D5 ++ ((allL H0) ++ ([]))))) ∧ T59.get 0 = (.i .u32 a0) ∧ T59.get 1 = v ∧ T59.get 2 = (.i .i64 room) ∧ T59.get 7 = (.b true) ∧ T59.get 8 = (.p (some (F5, 0))) ∧ T59.get 9 = (.i .i64 (((((sl.take i).map szf).sum : Nat)) : Int)) ∧ T59.get 12 = v54 ∧ T59.get 13 = (.i .i64 ((((tot (ea.take j)) : Nat)) : Int)) ∧ T59.get 14 = (.i .i64 (((j : Nat)) : Int))) (fun m58 T59 H60 hI61 => ?_) m _ _ ⟨0, rfl, Nat.zero_le _, hH57, hT17, hT18, hT19, hT20, hT21, hT22, rfl, rfl, rfl⟩
      obtain ⟨j, hm62, hp63, hH73, hT64, hT65, hT66, hT67, hT68, hT69, hT70, hT71, hT72⟩ := hI61
      refine C_seq ?_
      refine C_seq ?_
      refine C_region ?_
      refine O_p (.i .i64 (((j : Nat)) : Int)) (r_mv hT72) ?_
      refine O_p v54 (r_mv hT70) ?_
      refine O_p (.i .i64 (((m : Nat)) : Int)) (by exact (by exact r_lenOf rfl (hSo.lenOf ((flat_len hC5.lens).trans (by rw [hC5.1, List.length_map, List.length_take, Nat.min_eq_left hm1])) (by decide)) hSo.isSl)) ?_
      refine O_p (.b (decide ((((j : Nat)) : Int) < (((m : Nat)) : Int)))) (r_lss rfl rfl) ?_
      refine O_nil ?_
      refine C_cond (x := (decide ((((j : Nat)) : Int) < (((m : Nat)) : Int)))) rfl (fun hc74 => ?_) (fun hc74 => ?_)
      ·
        try simp only [decide_eq_true_eq, decide_eq_false_iff_not, Bool.not_eq_true', Bool.not_eq_false', Bool.and_eq_true, Bool.or_eq_true, Bool.or_eq_false_iff, Bool.not_not, Bool.and_eq_false_iff] at hc74
        refine C_skip ?_
        refine C_seq ?_
        refine C_block ?_
        refine C_seq ?_
        refine C_seq ?_
        refine C_region ?_
        have hjm : j < m := by omega
        obtain ⟨x, dv, hxj, hri, hoc⟩ := hC5.get (i := j) (by rw [List.length_map, List.length_take]; omega)
        unfold cxRow at hri
        obtain ⟨da, dc, dg, hde, _⟩ := hoc
        have hdl : lenOfA dv = some x.1.d.length := by rw [hde]; rfl
        have hds : ∃ a len cap g, dv = .sl a len cap g := ⟨_, _, _, _, hde⟩
        obtain ⟨ej, hej⟩ : ∃ e, ea[j]? = some e := ⟨_, List.getElem?_eq_getElem (by omega)⟩
        have hxe : x = ej.ca := by rw [List.getElem?_map, List.getElem?_take, if_pos hjm, hej] at hxj; exact (Option.some.inj hxj).symm
        obtain ⟨nj, hnj⟩ : ∃ n, (sl.map szf)[j]? = some n := ⟨_, List.getElem?_eq_getElem (by rw [List.length_map]; omega)⟩
        have hej2 := mkE_get (a := a0) hnj
        rw [← hea, hej] at hej2
        have hxa : x.2 = w32 (a0 + ((j : Nat) : Int)) := by rw [hxe, Option.some.inj hej2]; rfl
        have htl : tot (ea.take j) ≤ tot ea := by have h9 : tot (ea.take j) + tot (ea.drop j) = tot ea := by { rw [← tot_app, List.take_append_drop] }; omega
        have hxd : x.1.d.length ≤ 1024 := by rw [hxe]; exact hsz ej (List.mem_of_getElem? hej)
        refine O_p v54 (r_mv hT70) ?_
        refine O_p (.i .i64 (((j : Nat)) : Int)) (r_mv hT72) ?_
        refine O_q (by exact Sq.cell hSo hC5.lens hH73.top0 rfl (i := j) rfl (r := [(.i .u8 x.1.k), (.i .u8 x.1.f), (.i .u32 x.2), (.i .u32 x.1.b), (.i .u16 x.1.o), (.i .u16 x.1.i), (.i .u32 x.1.p), x.1.x1, x.1.x2, x.1.x3, x.1.x4, dv]) hri (by decide)) fun v76 hv75 => ?_
        obtain ⟨rb77, ro78, rfl, hrg79, hrt80, hrb81, hput82, hqs83⟩ := hv75
        refine O_p (.p (some (rb77, (ro78 + 2)))) (r_fadd' rfl rfl) ?_
        refine O_p (.i .u32 x.2) (r_ldR (q := 2) rfl ⟨_, _, hrg79, hrt80⟩ rfl) ?_
        refine O_p (.i .u32 a0) (r_mv hT64) ?_
        refine O_p (.i .i64 (((j : Nat)) : Int)) (r_mv hT72) ?_
        refine O_p (.i .u32 (IntKind.u32.wrap (((j : Nat)) : Int))) (r_cint rfl) ?_
        refine O_p (.i .u32 (IntKind.u32.wrap (a0 + (IntKind.u32.wrap (((j : Nat)) : Int))))) (r_bin rfl rfl rfl) ?_
        refine O_p (.b false) (by exact (by rw [r_neq rfl rfl, decide_eq_true (by rw [hxa]; simp only [w32, wrap_u32]; omega)]; rfl)) ?_
        refine O_nil ?_
        refine C_cond (x := false) rfl (fun h => by cases h) (fun _ => ?_)
        refine C_skip ?_
        refine C_region ?_
        refine O_p (.i .i64 ((((tot (ea.take j)) : Nat)) : Int)) (r_mv hT71) ?_
        refine O_p v54 (r_mv hT70) ?_
        refine O_p (.i .i64 (((j : Nat)) : Int)) (r_mv hT72) ?_
        refine O_q (by exact Sq.cell hSo hC5.lens hH73.top0 rfl (i := j) rfl (r := [(.i .u8 x.1.k), (.i .u8 x.1.f), (.i .u32 x.2), (.i .u32 x.1.b), (.i .u16 x.1.o), (.i .u16 x.1.i), (.i .u32 x.1.p), x.1.x1, x.1.x2, x.1.x3, x.1.x4, dv]) hri (by decide)) fun v85 hv84 => ?_
        obtain ⟨rb86, ro87, rfl, hrg88, hrt89, hrb90, hput91, hqs92⟩ := hv84
        refine O_p (.p (some (rb86, (ro87 + 11)))) (r_fadd' rfl rfl) ?_
        refine O_p dv (r_ldR (q := 11) rfl ⟨_, _, hrg88, hrt89⟩ rfl) ?_
        refine O_p (.i .i64 ((x.1.d.length : Nat) : Int)) (r_lenOf rfl hdl hds) ?_
        refine O_p (.i .i64 (((((tot (ea.take j)) : Nat)) : Int) + ((x.1.d.length : Nat) : Int))) (by exact (r_addi rfl rfl (wrap_i64 (by omega) (by omega)))) ?_
        refine O_p (.i .i64 (((((tot (ea.take j)) : Nat)) : Int) + ((x.1.d.length : Nat) : Int))) (r_mv rfl) ?_
        refine O_nil ?_
        refine C_region ?_
        refine O_p (.i .i64 (((j : Nat)) : Int)) (r_mv hT72) ?_
        refine O_p (.i .i64 ((((j : Nat)) : Int) + 1)) (by exact (r_addi rfl rfl (wrap_i64 (by omega) (by omega)))) ?_
        refine O_p (.i .i64 ((((j : Nat)) : Int) + 1)) (r_mv rfl) ?_
        refine O_nil ?_
        have hH93 := ((((hH73.top3).top3).top3).top3)
        exact ⟨m - (j + 1), by omega, (j + 1), rfl, by omega, hH93, hT64, hT65, hT66, hT67, hT68, hT69, hT70, (by rw [show ((tot (ea.take (j + 1)) : Nat) : Int) = ((tot (ea.take j) : Nat) : Int) + ((x.1.d.length : Nat) : Int) by rw [take_at hej, tot_app, hxe]; show (((_ + (ej.c.d.length + 0) : Nat)) : Int) = _ + ((ej.c.d.length : Nat) : Int); omega]; exact rfl), rfl⟩
      ·
        try simp only [decide_eq_true_eq, decide_eq_false_iff_not, Bool.not_eq_true', Bool.not_eq_false', Bool.and_eq_true, Bool.or_eq_true, Bool.or_eq_false_iff, Bool.not_not, Bool.and_eq_false_iff] at hc74
        refine C_exit ?_
        refine nx_exit ?_
        refine nx_exit ?_
        refine bk_hit ?_
        refine C_seq ?_
        refine C_region ?_
        refine O_p (.i .i64 0) (r_mv rfl) ?_
        refine O_nil ?_
        refine C_seq ?_
        refine C_seq ?_
        refine C_region ?_
        refine O_p v54 (r_mv hT70) ?_
        refine O_p (.i .i64 (((m : Nat)) : Int)) (by exact (by exact r_lenOf rfl (hSo.lenOf ((flat_len hC5.lens).trans (by rw [hC5.1, List.length_map, List.length_take, Nat.min_eq_left hm1])) (by decide)) hSo.isSl)) ?_
        refine O_p v (r_mv hT65) ?_
        refine O_p (.i .i64 (((sl.length : Nat)) : Int)) (r_lenOf (v := v) (n := sl.length) rfl ((hv _ hH73.top3.fst).lenOf (List.length_map ..)) (hv _ hH73.top3.fst).isSl) ?_
        refine O_p (.b (decide ((((m : Nat)) : Int) < (((sl.length : Nat)) : Int)))) (r_lss rfl rfl) ?_
        refine O_nil ?_
        refine C_cond (x := (decide ((((m : Nat)) : Int) < (((sl.length : Nat)) : Int)))) rfl (fun hc94 => ?_) (fun hc94 => ?_)
        ·
          try simp only [decide_eq_true_eq, decide_eq_false_iff_not, Bool.not_eq_true', Bool.not_eq_false', Bool.and_eq_true, Bool.or_eq_true, Bool.or_eq_false_iff, Bool.not_not, Bool.and_eq_false_iff] at hc94
          refine C_region ?_
          obtain ⟨xi2, hxi2⟩ : ∃ y, sl[m]? = some y := ⟨_, List.getElem?_eq_getElem (by omega)⟩
          have hxi := hxi2
          refine O_p v (r_mv hT65) ?_
          refine O_p v54 (r_mv hT70) ?_
          refine O_p (.i .i64 (((m : Nat)) : Int)) (by exact (by exact r_lenOf rfl (hSo.lenOf ((flat_len hC5.lens).trans (by rw [hC5.1, List.length_map, List.length_take, Nat.min_eq_left hm1])) (by decide)) hSo.isSl)) ?_
          refine O_q (by exact Rw.row (hv _ hH73.top3.fst) rfl (i := m) rfl (r := [(.i .i64 xi2)]) (int_row hxi)) fun v96 hv95 => ?_
          obtain ⟨rb97, ro98, rfl, hr99⟩ := hv95
          refine O_p (.i .i64 xi2) (r_ldR (q := 0) rfl (hr99 _ (hv _ hH73.top3.fst)) rfl) ?_
          refine O_p (.i .i64 ((((msk xi2) : Nat)) : Int)) ((r_bin rfl rfl rfl).trans (congrArg (fun z => some (AV.i IntKind.i64 z, H60)) (msk_wrap xi2).1)) ?_
          refine O_p (.i .i64 ((((szf xi2) : Nat)) : Int)) (by exact (by rw [show ((szf xi2 : Nat) : Int) = 1 + ((msk xi2 : Nat) : Int) by unfold szf; omega]; exact r_addi rfl rfl (wrap_i64 (by have := (msk_wrap xi2).2; omega) (by have := (msk_wrap xi2).2; omega)))) ?_
          refine O_p (.i .i64 ((((szf xi2) : Nat)) : Int)) (r_mv rfl) ?_
          refine O_nil ?_
          refine C_seq ?_
          by_cases hle : ((tot (ea.take m) : Nat) : Int) ≤ room
          ·
            have hjm : j = m := by omega
            have htj : tot (ea.take j) = tot (ea.take m) := by rw [hjm]
            have hem := hm5 _ (by rw [hea]; exact mkE_get (a := a0) (n := szf xi2) (by rw [List.getElem?_map, hxi2]; rfl))
            have hem2 : room < ((tot (ea.take m) : Nat) : Int) + ((szf xi2 : Nat) : Int) := by have h9 : (List.replicate (szf xi2) (0 : UInt8)).length = szf xi2 := List.length_replicate; rw [← h9]; exact hem
            have hsr := szf_r xi2
            refine C_region ?_
            refine O_p (.b true) (r_mv hT67) ?_
            refine O_p (.b true) (r_mv rfl) ?_
            refine O_gk rfl ?_
            refine O_p (.i .i64 ((((tot (ea.take j)) : Nat)) : Int)) (r_mv hT71) ?_
            refine O_gk rfl ?_
            refine O_p (.i .i64 room) (r_mv hT66) ?_
            refine O_gk rfl ?_
            refine O_p (.b true) (by exact (by rw [r_leq rfl rfl, decide_eq_true (by omega)])) ?_
            refine O_gk rfl ?_
            refine O_p (.b true) (r_mv rfl) ?_
            refine O_gf rfl ?_
            refine O_gf rfl ?_
            refine O_gk rfl ?_
            refine O_p (.b true) (r_pick_t rfl rfl) ?_
            refine O_p (.b true) (r_pick_t rfl rfl) ?_
            refine O_p (.b true) (r_mv rfl) ?_
            refine O_gk rfl ?_
            refine O_p (.p (some (F5, 0))) (r_mv hT68) ?_
            refine O_gk rfl ?_
            have hH100 := (hH73.top1)
            refine O_call (Ev.mono (q_flying hQ5 hnl hnw hH100) fun v101 H102 hq103 => ?_)
            obtain ⟨rfl, hH104⟩ := hq103
            refine O_gk rfl ?_
            refine O_p (.i .i64 ((((tot (ea.take j)) : Nat)) : Int)) (r_mv hT71) ?_
            refine O_gk rfl ?_
            refine O_p (.b true) (by exact (by rw [r_eql rfl rfl, decide_eq_true (by omega)])) ?_
            refine O_p (.b true) (r_pick_t rfl rfl) ?_
            refine O_p (.b true) (r_mv rfl) ?_
            refine O_gk rfl ?_
            refine O_p (.p (some (F5, 0))) (r_mv hT68) ?_
            refine O_gk rfl ?_
            refine O_call (Ev.mono (q_left hQ5 hnl hnw hH104) fun v105 H106 hq107 => ?_)
            obtain ⟨rfl, hH108⟩ := hq107
            refine O_gk rfl ?_
            refine O_p (.i .i64 (((((sl.take i).map szf).sum : Nat)) : Int)) (r_mv hT69) ?_
            refine O_gk rfl ?_
            refine O_p (.i .i64 ((((tot (ea.take j)) : Nat)) : Int)) (r_mv hT71) ?_
            refine O_gk rfl ?_
            refine O_p (.i .i64 ((((((sl.take i).map szf).sum : Nat)) : Int) - ((((tot (ea.take j)) : Nat)) : Int))) (by exact (r_subi rfl rfl (wrap_i64 (by omega) (by omega)))) ?_
            refine O_gk rfl ?_
            refine O_p (.b true) (by exact (by rw [r_eql rfl rfl, decide_eq_true (by omega)])) ?_
            refine O_p (.b true) (r_pick_t rfl rfl) ?_
            refine O_p (.b true) (r_mv rfl) ?_
            refine O_gk rfl ?_
            refine O_p (.i .i64 ((((szf xi2) : Nat)) : Int)) (r_mv rfl) ?_
            refine O_gk rfl ?_
            refine O_p (.b false) (by exact (by rw [r_eql rfl rfl, decide_eq_false (by omega)])) ?_
            refine O_gk rfl ?_
            refine O_p (.b false) (r_mv rfl) ?_
            refine O_gk rfl ?_
            refine O_p (.i .i64 ((((tot (ea.take j)) : Nat)) : Int)) (r_mv hT71) ?_
            refine O_gk rfl ?_
            refine O_p (.i .i64 ((((szf xi2) : Nat)) : Int)) (r_mv rfl) ?_
            refine O_gk rfl ?_
            refine O_p (.i .i64 (((((tot (ea.take j)) : Nat)) : Int) + ((((szf xi2) : Nat)) : Int))) (by exact (r_addi rfl rfl (wrap_i64 (by omega) (by omega)))) ?_
            refine O_gk rfl ?_
            refine O_p (.i .i64 room) (r_mv hT66) ?_
            refine O_gk rfl ?_
            refine O_p (.b true) (by exact (by rw [r_gtr rfl rfl, decide_eq_true (by omega)])) ?_
            refine O_gk rfl ?_
            refine O_p (.b true) (r_pick_f rfl rfl) ?_
            refine O_p (.b true) (r_pick_t rfl rfl) ?_
            refine O_p (.b true) (r_mv rfl) ?_
            refine O_nil ?_
            refine C_ret ?_
            exact ⟨.inr rfl, _, resL_one (r_tmp (v := .b true) rfl), rfl⟩
          ·
            have hjm : j = m := by omega
            have htj : tot (ea.take j) = tot (ea.take m) := by rw [hjm]
            have hm0 : m = 0 := by rcases hm4 with h9 | h9; exact h9; exact absurd h9 (by omega)
            have ht0 : tot (ea.take m) = 0 := by rw [hm0]; rfl
            have hem := hm5 _ (by rw [hea]; exact mkE_get (a := a0) (n := szf xi2) (by rw [List.getElem?_map, hxi2]; rfl))
            have hem2 : room < ((tot (ea.take m) : Nat) : Int) + ((szf xi2 : Nat) : Int) := by have h9 : (List.replicate (szf xi2) (0 : UInt8)).length = szf xi2 := List.length_replicate; rw [← h9]; exact hem
            have hsr := szf_r xi2
            refine C_region ?_
            refine O_p (.b true) (r_mv hT67) ?_
            refine O_p (.b true) (r_mv rfl) ?_
            refine O_gk rfl ?_
            refine O_p (.i .i64 ((((tot (ea.take j)) : Nat)) : Int)) (r_mv hT71) ?_
            refine O_gk rfl ?_
            refine O_p (.i .i64 room) (r_mv hT66) ?_
            refine O_gk rfl ?_
            refine O_p (.b false) (by exact (by rw [r_leq rfl rfl, decide_eq_false (by omega)])) ?_
            refine O_gk rfl ?_
            refine O_p (.b false) (r_mv rfl) ?_
            refine O_gk rfl ?_
            refine O_p (.i .i64 ((((tot (ea.take j)) : Nat)) : Int)) (r_mv hT71) ?_
            refine O_gk rfl ?_
            refine O_p (.b true) (by exact (by rw [r_eql rfl rfl, decide_eq_true (by omega)])) ?_
            refine O_gk rfl ?_
            refine O_p (.b true) (r_pick_f rfl rfl) ?_
            refine O_p (.b true) (r_pick_t rfl rfl) ?_
            refine O_p (.b true) (r_mv rfl) ?_
            refine O_gk rfl ?_
            refine O_p (.p (some (F5, 0))) (r_mv hT68) ?_
            refine O_gk rfl ?_
            have hH109 := (hH73.top1)
            refine O_call (Ev.mono (q_flying hQ5 hnl hnw hH109) fun v110 H111 hq112 => ?_)
            obtain ⟨rfl, hH113⟩ := hq112
            refine O_gk rfl ?_
            refine O_p (.i .i64 ((((tot (ea.take j)) : Nat)) : Int)) (r_mv hT71) ?_
            refine O_gk rfl ?_
            refine O_p (.b true) (by exact (by rw [r_eql rfl rfl, decide_eq_true (by omega)])) ?_
            refine O_p (.b true) (r_pick_t rfl rfl) ?_
            refine O_p (.b true) (r_mv rfl) ?_
            refine O_gk rfl ?_
            refine O_p (.p (some (F5, 0))) (r_mv hT68) ?_
            refine O_gk rfl ?_
            refine O_call (Ev.mono (q_left hQ5 hnl hnw hH113) fun v114 H115 hq116 => ?_)
            obtain ⟨rfl, hH117⟩ := hq116
            refine O_gk rfl ?_
            refine O_p (.i .i64 (((((sl.take i).map szf).sum : Nat)) : Int)) (r_mv hT69) ?_
            refine O_gk rfl ?_
            refine O_p (.i .i64 ((((tot (ea.take j)) : Nat)) : Int)) (r_mv hT71) ?_
            refine O_gk rfl ?_
            refine O_p (.i .i64 ((((((sl.take i).map szf).sum : Nat)) : Int) - ((((tot (ea.take j)) : Nat)) : Int))) (by exact (r_subi rfl rfl (wrap_i64 (by omega) (by omega)))) ?_
            refine O_gk rfl ?_
            refine O_p (.b true) (by exact (by rw [r_eql rfl rfl, decide_eq_true (by omega)])) ?_
            refine O_p (.b true) (r_pick_t rfl rfl) ?_
            refine O_p (.b true) (r_mv rfl) ?_
            refine O_gk rfl ?_
            refine O_p (.i .i64 ((((szf xi2) : Nat)) : Int)) (r_mv rfl) ?_
            refine O_gk rfl ?_
            refine O_p (.b false) (by exact (by rw [r_eql rfl rfl, decide_eq_false (by omega)])) ?_
            refine O_gk rfl ?_
            refine O_p (.b false) (r_mv rfl) ?_
            refine O_gk rfl ?_
            refine O_p (.i .i64 ((((tot (ea.take j)) : Nat)) : Int)) (r_mv hT71) ?_
            refine O_gk rfl ?_
            refine O_p (.i .i64 ((((szf xi2) : Nat)) : Int)) (r_mv rfl) ?_
            refine O_gk rfl ?_
            refine O_p (.i .i64 (((((tot (ea.take j)) : Nat)) : Int) + ((((szf xi2) : Nat)) : Int))) (by exact (r_addi rfl rfl (wrap_i64 (by omega) (by omega)))) ?_
            refine O_gk rfl ?_
            refine O_p (.i .i64 room) (r_mv hT66) ?_
            refine O_gk rfl ?_
            refine O_p (.b true) (by exact (by rw [r_gtr rfl rfl, decide_eq_true (by omega)])) ?_
            refine O_gk rfl ?_
            refine O_p (.b true) (r_pick_f rfl rfl) ?_
            refine O_p (.b true) (r_pick_t rfl rfl) ?_
            refine O_p (.b true) (r_mv rfl) ?_
            refine O_nil ?_
            refine C_ret ?_
            exact ⟨.inr rfl, _, resL_one (r_tmp (v := .b true) rfl), rfl⟩
        ·
          try simp only [decide_eq_true_eq, decide_eq_false_iff_not, Bool.not_eq_true', Bool.not_eq_false', Bool.and_eq_true, Bool.or_eq_true, Bool.or_eq_false_iff, Bool.not_not, Bool.and_eq_false_iff] at hc94
          refine C_skip ?_
          refine C_seq ?_
          by_cases hle : ((tot (ea.take m) : Nat) : Int) ≤ room
          ·
            have hjm : j = m := by omega
            have htj : tot (ea.take j) = tot (ea.take m) := by rw [hjm]
            refine C_region ?_
            refine O_p (.b true) (r_mv hT67) ?_
            refine O_p (.b true) (r_mv rfl) ?_
            refine O_gk rfl ?_
            refine O_p (.i .i64 ((((tot (ea.take j)) : Nat)) : Int)) (r_mv hT71) ?_
            refine O_gk rfl ?_
            refine O_p (.i .i64 room) (r_mv hT66) ?_
            refine O_gk rfl ?_
            refine O_p (.b true) (by exact (by rw [r_leq rfl rfl, decide_eq_true (by omega)])) ?_
            refine O_gk rfl ?_
            refine O_p (.b true) (r_mv rfl) ?_
            refine O_gf rfl ?_
            refine O_gf rfl ?_
            refine O_gk rfl ?_
            refine O_p (.b true) (r_pick_t rfl rfl) ?_
            refine O_p (.b true) (r_pick_t rfl rfl) ?_
            refine O_p (.b true) (r_mv rfl) ?_
            refine O_gk rfl ?_
            refine O_p (.p (some (F5, 0))) (r_mv hT68) ?_
            refine O_gk rfl ?_
            have hH118 := (hH73.top1)
            refine O_call (Ev.mono (q_flying hQ5 hnl hnw hH118) fun v119 H120 hq121 => ?_)
            obtain ⟨rfl, hH122⟩ := hq121
            refine O_gk rfl ?_
            refine O_p (.i .i64 ((((tot (ea.take j)) : Nat)) : Int)) (r_mv hT71) ?_
            refine O_gk rfl ?_
            refine O_p (.b true) (by exact (by rw [r_eql rfl rfl, decide_eq_true (by omega)])) ?_
            refine O_p (.b true) (r_pick_t rfl rfl) ?_
            refine O_p (.b true) (r_mv rfl) ?_
            refine O_gk rfl ?_
            refine O_p (.p (some (F5, 0))) (r_mv hT68) ?_
            refine O_gk rfl ?_
            refine O_call (Ev.mono (q_left hQ5 hnl hnw hH122) fun v123 H124 hq125 => ?_)
            obtain ⟨rfl, hH126⟩ := hq125
            refine O_gk rfl ?_
            refine O_p (.i .i64 (((((sl.take i).map szf).sum : Nat)) : Int)) (r_mv hT69) ?_
            refine O_gk rfl ?_
            refine O_p (.i .i64 ((((tot (ea.take j)) : Nat)) : Int)) (r_mv hT71) ?_
            refine O_gk rfl ?_
            refine O_p (.i .i64 ((((((sl.take i).map szf).sum : Nat)) : Int) - ((((tot (ea.take j)) : Nat)) : Int))) (by exact (r_subi rfl rfl (wrap_i64 (by omega) (by omega)))) ?_
            refine O_gk rfl ?_
            refine O_p (.b true) (by exact (by rw [r_eql rfl rfl, decide_eq_true (by omega)])) ?_
            refine O_p (.b true) (r_pick_t rfl rfl) ?_
            refine O_p (.b true) (r_mv rfl) ?_
            refine O_gk rfl ?_
            refine O_p (.i .i64 0) (r_mv rfl) ?_
            refine O_gk rfl ?_
            refine O_p (.b true) (by exact (by rw [r_eql rfl rfl, decide_eq_true (by omega)])) ?_
            refine O_gk rfl ?_
            refine O_p (.b true) (r_mv rfl) ?_
            refine O_gf rfl ?_
            refine O_gf rfl ?_
            refine O_gf rfl ?_
            refine O_gf rfl ?_
            refine O_gf rfl ?_
            refine O_gk rfl ?_
            refine O_p (.b true) (r_pick_t rfl rfl) ?_
            refine O_p (.b true) (r_pick_t rfl rfl) ?_
            refine O_p (.b true) (r_mv rfl) ?_
            refine O_nil ?_
            refine C_ret ?_
            exact ⟨.inr rfl, _, resL_one (r_tmp (v := .b true) rfl), rfl⟩
          ·
            have hjm : j = m := by omega
            have htj : tot (ea.take j) = tot (ea.take m) := by rw [hjm]
            have hm0 : m = 0 := by rcases hm4 with h9 | h9; exact h9; exact absurd h9 (by omega)
            have ht0 : tot (ea.take m) = 0 := by rw [hm0]; rfl
            refine C_region ?_
            refine O_p (.b true) (r_mv hT67) ?_
            refine O_p (.b true) (r_mv rfl) ?_
            refine O_gk rfl ?_
            refine O_p (.i .i64 ((((tot (ea.take j)) : Nat)) : Int)) (r_mv hT71) ?_
            refine O_gk rfl ?_
            refine O_p (.i .i64 room) (r_mv hT66) ?_
            refine O_gk rfl ?_
            refine O_p (.b false) (by exact (by rw [r_leq rfl rfl, decide_eq_false (by omega)])) ?_
            refine O_gk rfl ?_
            refine O_p (.b false) (r_mv rfl) ?_
            refine O_gk rfl ?_
            refine O_p (.i .i64 ((((tot (ea.take j)) : Nat)) : Int)) (r_mv hT71) ?_
            refine O_gk rfl ?_
            refine O_p (.b true) (by exact (by rw [r_eql rfl rfl, decide_eq_true (by omega)])) ?_
            refine O_gk rfl ?_
            refine O_p (.b true) (r_pick_f rfl rfl) ?_
            refine O_p (.b true) (r_pick_t rfl rfl) ?_
            refine O_p (.b true) (r_mv rfl) ?_
            refine O_gk rfl ?_
            refine O_p (.p (some (F5, 0))) (r_mv hT68) ?_
            refine O_gk rfl ?_
            have hH127 := (hH73.top1)
            refine O_call (Ev.mono (q_flying hQ5 hnl hnw hH127) fun v128 H129 hq130 => ?_)
            obtain ⟨rfl, hH131⟩ := hq130
            refine O_gk rfl ?_
            refine O_p (.i .i64 ((((tot (ea.take j)) : Nat)) : Int)) (r_mv hT71) ?_
            refine O_gk rfl ?_
            refine O_p (.b true) (by exact (by rw [r_eql rfl rfl, decide_eq_true (by omega)])) ?_
            refine O_p (.b true) (r_pick_t rfl rfl) ?_
            refine O_p (.b true) (r_mv rfl) ?_
            refine O_gk rfl ?_
            refine O_p (.p (some (F5, 0))) (r_mv hT68) ?_
            refine O_gk rfl ?_
            refine O_call (Ev.mono (q_left hQ5 hnl hnw hH131) fun v132 H133 hq134 => ?_)
            obtain ⟨rfl, hH135⟩ := hq134
            refine O_gk rfl ?_
            refine O_p (.i .i64 (((((sl.take i).map szf).sum : Nat)) : Int)) (r_mv hT69) ?_
            refine O_gk rfl ?_
            refine O_p (.i .i64 ((((tot (ea.take j)) : Nat)) : Int)) (r_mv hT71) ?_
            refine O_gk rfl ?_
            refine O_p (.i .i64 ((((((sl.take i).map szf).sum : Nat)) : Int) - ((((tot (ea.take j)) : Nat)) : Int))) (by exact (r_subi rfl rfl (wrap_i64 (by omega) (by omega)))) ?_
            refine O_gk rfl ?_
            refine O_p (.b true) (by exact (by rw [r_eql rfl rfl, decide_eq_true (by omega)])) ?_
            refine O_p (.b true) (r_pick_t rfl rfl) ?_
            refine O_p (.b true) (r_mv rfl) ?_
            refine O_gk rfl ?_
            refine O_p (.i .i64 0) (r_mv rfl) ?_
            refine O_gk rfl ?_
            refine O_p (.b true) (by exact (by rw [r_eql rfl rfl, decide_eq_true (by omega)])) ?_
            refine O_gk rfl ?_
            refine O_p (.b true) (r_mv rfl) ?_
            refine O_gf rfl ?_
            refine O_gf rfl ?_
            refine O_gf rfl ?_
            refine O_gf rfl ?_
            refine O_gf rfl ?_
            refine O_gk rfl ?_
            refine O_p (.b true) (r_pick_t rfl rfl) ?_
            refine O_p (.b true) (r_pick_t rfl rfl) ?_
            refine O_p (.b true) (r_mv rfl) ?_
            refine O_nil ?_
            refine C_ret ?_
            exact ⟨.inr rfl, _, resL_one (r_tmp (v := .b true) rfl), rfl⟩
set_option maxRecDepth 100000 in
theorem run4T (H : AH) (hok : H.Ok) (a0 room : Int) (w_a0 : (Lit.int .u32 a0).wf = true) (w_room : (Lit.int .i64 room).wf = true) {v : AV} (h : Typed Try.prog H 9 47 [v]) : Ev tabA spA (.fn (.func 4) [] []) [.i .u32 a0, v, .i .i64 room] H (fun v _ => v = .b true) := by
  obtain ⟨p, n, c, rfl, hnc, _, hr⟩ := typed_recs (z := 1) Try.underlying47 (by kernel_rfl) h
  obtain ⟨rows, hrw, _, hrt⟩ := Rw.given hnc hr
  obtain ⟨pl, rfl⟩ := ints_ex (k := .i64) fun i r hi => by
    obtain ⟨x, e, _⟩ := typed_int Try.underlying3 (hrt i r hi)
    exact ⟨x, e⟩
  exact run4 H hok a0 room w_a0 w_room _ pl fun H' hh => hrw.ro (R := []) hok (by rw [List.append_nil]; exact hh)
set_option maxRecDepth 100000 in
theorem law4 (W : World) (ρ : Rho) (H : AH) (xs : List AV) (args : Array Value) (hR : Rel Try.prog W.heap.size W ρ H W) (hro : RO H) (hv : VRL ρ xs args.toList) (ht : TypedVs Try.prog H 9 Try.f4.params.toList xs) :
    Calls Try.prog 4 args W fun e w' => e = .returned (.bool true) ∧ Below W.heap.size W w' := by
  rw [Try.params4] at ht
  obtain ⟨a0, xs, rfl, g0, a1, xs, rfl, g1, a2, xs, rfl, g2, rfl⟩ := ht
  obtain ⟨a0, rfl, wa0⟩ := typedV_int Try.underlying22 g0
  obtain ⟨room, rfl, wroom⟩ := typedV_int Try.underlying3 g2
  obtain ⟨k, v, H', hex, rfl⟩ := run4T H hR.aok a0 room wa0 wroom (typedV_slice Try.underlying47 g1)
  exact law_of mixed tabA_ok spA_ok hex hR hv
end Go.Proofs.Ytipcacpaadgagaa.E
namespace Go.Proofs.Ytipcacpaadgagaa.sendqRoom
open Go.ChangeShapes Go.WideShapes Go.RowKit
set_option linter.unusedVariables false
theorem own : ownKnob Try.prog.godebug = none := by kernel_rfl
theorem types : (Try.f4.params.toList.all fun t => E.fit Try.prog 9 t && (Try.prog.readableRec t && decide (t < Try.prog.types.size))) = true := by kernel_rfl
set_option maxRecDepth 100000 in
theorem lifted (os : Os) (started : os.Started) (H : Type) (enc : TypeId × Value → H) :
    ReturnsInHanded {} Try.checked os 4 .any (Rows.sendqRoomSpec.pre6 enc Try.prog Try.f4 Rows.sendqRoomRow.domain false) (Rows.sendqRoomSpec.post enc Try.prog Try.f4 false true false false) :=
  E.law_lifted (C := Try.checked) (k := 9) (tb := 4) E.globals0 E.laid own started (by kernel_rfl) Try.func4
    (ChangeSpec.witness6 (enc := enc) (C := Try.checked) false ⟨#[], #[.int .u32 0, .slice none 0 0, .int .i64 0], []⟩ 8 (by kernel_rfl) (by kernel_rfl) (by kernel_rfl) (by kernel_rfl))
    rfl rfl Try.underlying4 (fun t ht => by have h := List.all_eq_true.1 types t ht; simp only [Bool.and_eq_true, decide_eq_true_eq] at h; exact h)
    (fun ds hd => by
      rw [Try.params4] at hd
      match ds, hd with
      | [d0, d1, d2], _ => rfl) E.law4
theorem over : Rows.sendqRoomRow.holds Try.pinned (OpenSpec.ofChange Rows.sendqRoomSpec) :=
  OpenClaim.holds_of_wide 4 Try.f4 rfl rfl rfl rfl rfl rfl rfl ⟨rfl, rfl, rfl, rfl, rfl⟩ rfl rfl rfl rfl rfl (by kernel_rfl) Try.func4 (by kernel_rfl)
    (of_decide_eq_true (by kernel_rfl)) (by unfold Func.isWrapper; first | (rw [if_pos (by decide +kernel)]; kernel_rfl) | (rw [if_neg (by decide +kernel)]; exact ⟨rfl, rfl⟩))
    (fun os started H enc _ => lifted os started H enc)
end Go.Proofs.Ytipcacpaadgagaa.sendqRoom
namespace Go.Proofs.Ytipcacpaadgagaa
/-- The row, under a short name, for the claim. -/
theorem sendqRoom_holds : Rows.SendqRoomSaid := sendqRoom.over
#print axioms sendqRoom_holds
end Go.Proofs.Ytipcacpaadgagaa
