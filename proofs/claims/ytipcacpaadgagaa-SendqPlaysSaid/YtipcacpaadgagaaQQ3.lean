/- Queues of chunks: refusals, states. It bears no condition. -/
import Derived.Test.YtipcacpaadgagaaQQ2
namespace Go.Proofs.Ytipcacpaadgagaa.E
set_option linter.unusedVariables false
set_option linter.unusedSimpArgs false
theorem w62_ev {H : AH} {R : HL} {x : En} (hH0 : Hs H ([(x.n, some (.cells ([(.i .u8 x.e.c.k), (.i .u8 x.e.c.f), (.i .u32 x.e.a), (.i .u32 x.e.c.b), (.i .u16 x.e.c.o), (.i .u16 x.e.c.i), (.i .u32 x.e.c.p), x.e.c.x1, x.e.c.x2, x.e.c.x3, x.e.c.x4, x.dv, (.p (some (x.m, 0))), (.i .i64 x.e.st), (.i .i64 x.e.sent), (.i .i64 x.e.tm), (.i .i64 x.e.mi)]) true))] ++ (R))) : Ev tabA spA (.fn (.func 62) [] []) [.p (some (x.n, 0))] H (fun r H' => r = .b (decide (x.e.st = 0)) ∧ Hs H' ([(x.n, some (.cells ([(.i .u8 x.e.c.k), (.i .u8 x.e.c.f), (.i .u32 x.e.a), (.i .u32 x.e.c.b), (.i .u16 x.e.c.o), (.i .u16 x.e.c.i), (.i .u32 x.e.c.p), x.e.c.x1, x.e.c.x2, x.e.c.x3, x.e.c.x4, x.dv, (.p (some (x.m, 0))), (.i .i64 x.e.st), (.i .i64 x.e.sent), (.i .i64 x.e.tm), (.i .i64 x.e.mi)]) true))] ++ (R))) := by
 refine Ev_C (F := x62) rfl ?_
 refine C_seq  (C_region  (pv (.b false) rfl (O_nil  (C_seq  (C_region  (pv (pT x.n 0) rfl (O_p (pT x.n 0) (r_nilc rfl) (pf (pT x.n 13) rfl rfl (O_p (.i .i64 x.e.st) (r_ld rfl hH0.get0 rfl) (O_p (.b (decide (x.e.st = 0))) (r_eql rfl rfl) (pv (.b (decide (x.e.st = 0))) rfl (O_nil  (C_ret  ?_)))))))))))))
 exact ⟨.inr rfl, _, resL_one (r_tmp (v := (.b (decide (x.e.st = 0)))) rfl), rfl, hH0⟩
theorem w67_ev {H : AH} {R : HL} {x : En} (hH0 : Hs H ([(x.n, some (.cells ([(.i .u8 x.e.c.k), (.i .u8 x.e.c.f), (.i .u32 x.e.a), (.i .u32 x.e.c.b), (.i .u16 x.e.c.o), (.i .u16 x.e.c.i), (.i .u32 x.e.c.p), x.e.c.x1, x.e.c.x2, x.e.c.x3, x.e.c.x4, x.dv, (.p (some (x.m, 0))), (.i .i64 x.e.st), (.i .i64 x.e.sent), (.i .i64 x.e.tm), (.i .i64 x.e.mi)]) true))] ++ (R))) : Ev tabA spA (.fn (.func 67) [] []) [.p (some (x.n, 0))] H (fun r H' => r = .b (decide (x.e.st < 3)) ∧ Hs H' ([(x.n, some (.cells ([(.i .u8 x.e.c.k), (.i .u8 x.e.c.f), (.i .u32 x.e.a), (.i .u32 x.e.c.b), (.i .u16 x.e.c.o), (.i .u16 x.e.c.i), (.i .u32 x.e.c.p), x.e.c.x1, x.e.c.x2, x.e.c.x3, x.e.c.x4, x.dv, (.p (some (x.m, 0))), (.i .i64 x.e.st), (.i .i64 x.e.sent), (.i .i64 x.e.tm), (.i .i64 x.e.mi)]) true))] ++ (R))) := by
 refine Ev_C (F := x67) rfl ?_
 refine C_seq  (C_region  (pv (.b false) rfl (O_nil  (C_seq  (C_region  (pv (pT x.n 0) rfl (O_p (pT x.n 0) (r_nilc rfl) (pf (pT x.n 13) rfl rfl (O_p (.i .i64 x.e.st) (r_ld rfl hH0.get0 rfl) (O_p (.b (decide (x.e.st < 3))) (r_lss rfl rfl) (pv (.b (decide (x.e.st < 3))) rfl (O_nil  (C_ret  ?_)))))))))))))
 exact ⟨.inr rfl, _, resL_one (r_tmp (v := (.b (decide (x.e.st < 3)))) rfl), rfl, hH0⟩
theorem ixg_ev {H : AH} {R : HL} {lv w : AV} {lc : List AV} {q : List En} {n : Nat} {fp : Nat} {P : Ea → Bool} (hP : ∀ (H : AH) (R : HL) (x : En), Hs H ([(x.n, some (.cells ([(.i .u8 x.e.c.k), (.i .u8 x.e.c.f), (.i .u32 x.e.a), (.i .u32 x.e.c.b), (.i .u16 x.e.c.o), (.i .u16 x.e.c.i), (.i .u32 x.e.c.p), x.e.c.x1, x.e.c.x2, x.e.c.x3, x.e.c.x4, x.dv, (.p (some (x.m, 0))), (.i .i64 x.e.st), (.i .i64 x.e.sent), (.i .i64 x.e.tm), (.i .i64 x.e.mi)]) true))] ++ (R)) → Ev tabA spA (.fn (.func fp) [] []) [.p (some (x.n, 0))] H (fun r H' => r = .b (P x.e) ∧ Hs H' ([(x.n, some (.cells ([(.i .u8 x.e.c.k), (.i .u8 x.e.c.f), (.i .u32 x.e.a), (.i .u32 x.e.c.b), (.i .u16 x.e.c.o), (.i .u16 x.e.c.i), (.i .u32 x.e.c.p), x.e.c.x1, x.e.c.x2, x.e.c.x3, x.e.c.x4, x.dv, (.p (some (x.m, 0))), (.i .i64 x.e.st), (.i .i64 x.e.sent), (.i .i64 x.e.tm), (.i .i64 x.e.mi)]) true))] ++ (R)))) (hw : ∀ H' R', Hs H' (qseg lv lc ++ R') → Rw 1 H' w ((q.map En.pr).take n)) (hn : n ≤ q.length) (hql : q.length ≤ 100000) (hH0 : Hs H ((qseg lv lc) ++ ((q.flatMap En.seg) ++ (R)))) : Ev tabA spA (.fn (.func 66) [] []) [w, .fn (.func fp) [] []] H (fun r H' => ((n ≤ (((q.map En.e).take n).findIdx P) ∧ r = .i .i64 (-1)) ∨ ((((q.map En.e).take n).findIdx P) < n ∧ r = .i .i64 (((((q.map En.e).take n).findIdx P) : Nat) : Int))) ∧ Hs H' ((qseg lv lc) ++ ((q.flatMap En.seg) ++ (R)))) := by
 refine Ev_C (F := x66) rfl ?_
 refine C_seq  (C_region  (pv (.i .i64 0) rfl (O_nil  (C_seq  (C_seq  (C_region  (pv w rfl (O_p (.i .i64 (((n : Nat)) : Int)) (by exact (r_lenOf (v := w) (n := n) rfl ((hw _ _ hH0.top0).lenOf (by rw [List.length_take, List.length_map]; exact Nat.min_eq_left hn)) (hw _ _ hH0.top0).isSl)) (pv (.i .i64 0) rfl (O_nil  (C_block  ?_)))))))))))
 refine C_while (fun m1 T2 H3 => ∃ j : Nat, m1 = n - j ∧ j ≤ n ∧ j ≤ (((q.map En.e).take n).findIdx P) ∧ Hs H3 ((qseg lv lc) ++ ((q.flatMap En.seg) ++ (R))) ∧ T2.get 0 = w ∧ T2.get 1 = (.fn (.func fp) [] []) ∧ T2.get 7 = (.i .i64 (((n : Nat)) : Int)) ∧ T2.get 8 = (.i .i64 (((j : Nat)) : Int))) (fun m1 T2 H3 hI4 => ?_) n _ _ ⟨0, rfl, Nat.zero_le _, Nat.zero_le _, hH0, rfl, rfl, rfl, rfl⟩
 obtain ⟨j, hm5, hp6, hp7, hH12, hT8, hT9, hT10, hT11⟩ := hI4
 refine C_seq  (C_region  (O_p (.b (decide ((((j : Nat)) : Int) < (((n : Nat)) : Int)))) (r_lss hT11 hT10) (O_nil  (C_seq  ?_))))
 refine C_cond (x := (decide ((((j : Nat)) : Int) < (((n : Nat)) : Int)))) rfl (fun hc13 => ?_) (fun hc13 => ?_)
 ·
  try simp only [dz1, dz2, dz3, dz4, dz5, dz6, dz7, dz8, dz9] at hc13
  refine C_skip  (C_seq  (C_block  (C_seq  (C_region  ?_))))
  have hjl : j < q.length := by omega
  obtain ⟨x, hxj⟩ : ∃ e, q[j]? = some e := ⟨_, List.getElem?_eq_getElem hjl⟩
  have hH14 := (hH12.top1)
  have hH15 := En.out hxj hH14
  have hej : ((q.map En.e).take n)[j]? = some x.e := (List.getElem?_take_of_lt (show j < n by omega)).trans (en_e hxj)
  refine pv (nI j) hT11 (pv (nI j) rfl (O_nil  (C_seq  (C_region  (pv (.fn (.func fp) [] []) hT9 (pv w hT8 (pv (nI j) rfl ?_)))))))
  refine O_q (by exact Rw.row (hw _ _ hH15.top2) rfl (i := j) rfl (r := [(.p (some (x.n, 0)))]) ((List.getElem?_take_of_lt (by omega)).trans (pr_get hxj))) fun v17 hv16 => ?_
  obtain ⟨rb18, ro19, rfl, hr20⟩ := hv16
  refine O_p (pT x.n 0) (r_ldR (q := 0) rfl (hr20 _ (hw _ _ hH15.top2)) rfl) ?_
  refine O_call (Ev.mono (hP _ _ x hH15) fun v21 H22 hq23 => ?_)
  obtain ⟨rfl, hH24⟩ := hq23
  refine O_nil  ?_
  refine C_cond (x := (P x.e)) rfl (fun hc25 => ?_) (fun hc25 => ?_)
  ·
   have hPx : P x.e = true := by simpa using hc25
   refine C_seq  (C_region  (pv (nI j) rfl (pv (nI j) rfl (O_nil  (C_ret  (bk_ret  (nx_ret  (nx_ret  (bk_ret  (nx_ret  ?_))))))))))
   have hH26 := ((hH24.top1).top1)
   have hH27 := En.back0 hxj hH26
   have hH28 := (hH27.top1)
   have hfj := fx_at hp7 hej hPx
   exact ⟨.inr rfl, _, resL_one (r_tmp (v := (.i .i64 (((j : Nat)) : Int))) rfl), .inr ⟨by omega, by rw [hfj]; rfl⟩, hH28⟩
  ·
   have hPx : P x.e = false := by simpa using hc25
   refine C_skip  (C_region  (O_p (.i .i64 ((((j : Nat)) : Int) + 1)) (by exact (r_addi hT11 rfl (wrap_i64 (by omega) (by omega)))) (pv (.i .i64 ((((j : Nat)) : Int) + 1)) rfl (O_nil  ?_))))
   have hH29 := ((hH24.top1).top1)
   have hH30 := En.back0 hxj hH29
   have hH31 := (hH30.top1)
   exact ⟨n - (j + 1), by omega, (j + 1), rfl, by omega, fx_next hp7 hej hPx, hH31, hT8, hT9, hT10, rfl⟩
 ·
  try simp only [dz1, dz2, dz3, dz4, dz5, dz6, dz7, dz8, dz9] at hc13
  refine C_exit  (nx_exit  (nx_exit  (bk_hit  (C_seq  (C_region  (pv (.i .i64 (-1)) rfl (O_nil  (C_ret  ?_))))))))
  have hH32 := ((hH12.top1).top1)
  exact ⟨.inr rfl, _, resL_one (r_tmp (v := (.i .i64 (-1))) rfl), .inl ⟨by have := hp7; omega, rfl⟩, hH32⟩
theorem contgy_ev {H : AH} {R : HL} {lv w : AV} {lc : List AV} {q : List En} {n : Nat} {fp : Nat} {P : Ea → Bool} (hP : ∀ (H : AH) (R : HL) (x : En), Hs H ([(x.n, some (.cells ([(.i .u8 x.e.c.k), (.i .u8 x.e.c.f), (.i .u32 x.e.a), (.i .u32 x.e.c.b), (.i .u16 x.e.c.o), (.i .u16 x.e.c.i), (.i .u32 x.e.c.p), x.e.c.x1, x.e.c.x2, x.e.c.x3, x.e.c.x4, x.dv, (.p (some (x.m, 0))), (.i .i64 x.e.st), (.i .i64 x.e.sent), (.i .i64 x.e.tm), (.i .i64 x.e.mi)]) true))] ++ (R)) → Ev tabA spA (.fn (.func fp) [] []) [.p (some (x.n, 0))] H (fun r H' => r = .b (P x.e) ∧ Hs H' ([(x.n, some (.cells ([(.i .u8 x.e.c.k), (.i .u8 x.e.c.f), (.i .u32 x.e.a), (.i .u32 x.e.c.b), (.i .u16 x.e.c.o), (.i .u16 x.e.c.i), (.i .u32 x.e.c.p), x.e.c.x1, x.e.c.x2, x.e.c.x3, x.e.c.x4, x.dv, (.p (some (x.m, 0))), (.i .i64 x.e.st), (.i .i64 x.e.sent), (.i .i64 x.e.tm), (.i .i64 x.e.mi)]) true))] ++ (R)))) (hw : ∀ H' R', Hs H' (qseg lv lc ++ R') → Rw 1 H' w ((q.map En.pr).take n)) (hn : n ≤ q.length) (hql : q.length ≤ 100000) (hfx : (((q.map En.e).take n).findIdx P) < n) (hH0 : Hs H ((qseg lv lc) ++ ((q.flatMap En.seg) ++ (R)))) : Ev tabA spA (.fn (.func 61) [] []) [w, .fn (.func fp) [] []] H (fun r H' => r = .b true ∧ Hs H' ((qseg lv lc) ++ ((q.flatMap En.seg) ++ (R)))) := by
  refine Ev_C (F := x61) rfl ?_
  refine C_seq  (C_region  (pv (.b false) rfl (O_nil  (C_seq  (C_region  (pv w rfl (pv (.fn (.func fp) [] []) rfl ?_)))))))
  have hH1 := ((hH0.top1).top1)
  refine O_call (Ev.mono (ixg_ev hP hw hn hql hH1) fun v2 H3 hq4 => ?_)
  obtain ⟨hor, hH5⟩ := hq4
  rcases hor with ⟨h1, rfl⟩ | ⟨h1, rfl⟩
  · omega
  refine O_p (.b true) (by exact (by rw [r_geq rfl rfl, decide_eq_true (by omega)])) (pv (.b true) rfl (O_nil  (C_ret  ?_)))
  have hH6 := ((hH5.top1).top1)
  exact ⟨.inr rfl, _, resL_one (r_tmp (v := (.b true)) rfl), rfl, hH6⟩
theorem reached_far {H : AH} {R : HL} {F : Nat} {lv : AV} {lc : List AV} {nx : Int} {q : List En} {cum : Int} {n : Nat} (hlv : Sq 1 lv lc (q.map En.pr).flatten) (hql : q.length ≤ 100000) (hcum : w32 (cum - (floorA nx q.length)) = ((n : Nat) : Int)) (hn : q.length < n) (hH0 : Hs H ([(F, some (.cells ([lv, (.i .u32 nx)]) true))] ++ ((qseg lv lc) ++ ((q.flatMap En.seg) ++ (R))))) : Ev tabA spA (.fn (.func 37) [] []) [.p (some (F, 0)), .i .u32 cum] H (fun r H' => ∃ n2 : Int, r = .tup [.i .i64 n2, .b false] ∧ Hs H' ([(F, some (.cells ([lv, (.i .u32 nx)]) true))] ++ ((qseg lv lc) ++ ((q.flatMap En.seg) ++ (R))))) := by
 refine Ev_C (F := x37) rfl ?_
 have hnr : ((n : Nat) : Int) < 4294967296 := by rw [← hcum]; exact (w32_r _).2
 refine C_seq  (C_region  (pv (.i .i64 0) rfl (pv (.b false) rfl (O_nil  (C_seq  (C_region  (pv (pT F 0) rfl ?_)))))))
 have hH1 := (((hH0.top2).top2).top2)
 have hH2 := (((hH1.top2).top2).top2)
 refine O_call (Ev.mono (floor_raw hlv hH2) fun v3 H4 hq5 => ?_)
 obtain ⟨rfl, hH6⟩ := hq5
 refine pv (.i .u32 cum) rfl ?_
 refine O_call (Ev.mono (dist_ev hH6) fun v7 H8 hq9 => ?_)
 obtain ⟨rfl, hH10⟩ := hq9
 refine O_p (.i .i64 (((n : Nat)) : Int)) (by exact (by rw [show AV.i IntKind.i64 ((n : Nat) : Int) = .i .i64 (IntKind.i64.wrap (w32 (cum - (floorA nx q.length)))) by rw [hcum, wrap_i64 (by omega) (by omega)]]; exact r_cint rfl)) (pv (nI n) rfl (O_nil  (C_seq  (C_seq  (C_region  (pv (pT F 0) rfl (O_p (.b false) (r_nilq_s rfl) (pv (.b false) rfl (O_gk rfl (pv (nI n) rfl (O_gk rfl (pv (pT F 0) rfl (O_gk rfl ?_)))))))))))))
 refine O_p (pT F 0) (r_nilc rfl) (O_gk rfl (pf (pT F 0) rfl rfl (O_gk rfl (O_p lv (r_ld rfl hH10.get0 rfl) (O_gk rfl (O_p (.i .i64 (((q.length : Nat)) : Int)) (by exact (r_lenOf (v := lv) (n := q.length) rfl ((hlv.rd hH10.top1 (pr_lens q) (by decide)).lenOf (List.length_map ..)) (hlv.rd hH10.top1 (pr_lens q) (by decide)).isSl)) (O_gk rfl (O_p (.b true) (by exact (by rw [r_gtr rfl rfl, decide_eq_true (by omega)])) (O_p (.b true) (r_pick_f rfl rfl) (O_nil  ?_))))))))))
 refine C_cond (x := true) rfl (fun _ => ?_) (fun h => by cases h)
 refine C_seq  (C_region  (pv (.i .i64 0) rfl (pv (.b false) rfl (O_nil  (C_ret  (nx_ret  ?_))))))
 have hH11 := (((hH10.top2).top2).top2)
 exact ⟨.inr rfl, _, resL_cons (r_tmp (v := (.i .i64 0)) rfl) (resL_one (r_tmp (v := (.b false)) rfl)), _, rfl, hH11⟩
theorem reached_waits {H : AH} {R : HL} {F : Nat} {lv : AV} {lc : List AV} {nx : Int} {q : List En} {cum : Int} {n : Nat} (hlv : Sq 1 lv lc (q.map En.pr).flatten) (hql : q.length ≤ 100000) (hcum : w32 (cum - (floorA nx q.length)) = ((n : Nat) : Int)) (hn : n ≤ q.length) (hfx : ((q.map En.e).take n).findIdx (fun e => decide (e.st = 0)) < n) (hH0 : Hs H ([(F, some (.cells ([lv, (.i .u32 nx)]) true))] ++ ((qseg lv lc) ++ ((q.flatMap En.seg) ++ (R))))) : Ev tabA spA (.fn (.func 37) [] []) [.p (some (F, 0)), .i .u32 cum] H (fun r H' => ∃ n2 : Int, r = .tup [.i .i64 n2, .b false] ∧ Hs H' ([(F, some (.cells ([lv, (.i .u32 nx)]) true))] ++ ((qseg lv lc) ++ ((q.flatMap En.seg) ++ (R))))) := by
 refine Ev_C (F := x37) rfl ?_
 have hnr : ((n : Nat) : Int) < 4294967296 := by rw [← hcum]; exact (w32_r _).2
 refine C_seq  (C_region  (pv (.i .i64 0) rfl (pv (.b false) rfl (O_nil  (C_seq  (C_region  (pv (pT F 0) rfl ?_)))))))
 have hH1 := (((hH0.top2).top2).top2)
 have hH2 := (((hH1.top2).top2).top2)
 refine O_call (Ev.mono (floor_raw hlv hH2) fun v3 H4 hq5 => ?_)
 obtain ⟨rfl, hH6⟩ := hq5
 refine pv (.i .u32 cum) rfl ?_
 refine O_call (Ev.mono (dist_ev hH6) fun v7 H8 hq9 => ?_)
 obtain ⟨rfl, hH10⟩ := hq9
 refine O_p (.i .i64 (((n : Nat)) : Int)) (by exact (by rw [show AV.i IntKind.i64 ((n : Nat) : Int) = .i .i64 (IntKind.i64.wrap (w32 (cum - (floorA nx q.length)))) by rw [hcum, wrap_i64 (by omega) (by omega)]]; exact r_cint rfl)) (pv (nI n) rfl (O_nil  (C_seq  (C_seq  (C_region  (pv (pT F 0) rfl (O_p (.b false) (r_nilq_s rfl) (pv (.b false) rfl (O_gk rfl (pv (nI n) rfl (O_gk rfl (pv (pT F 0) rfl (O_gk rfl ?_)))))))))))))
 refine O_p (pT F 0) (r_nilc rfl) (O_gk rfl (pf (pT F 0) rfl rfl (O_gk rfl (O_p lv (r_ld rfl hH10.get0 rfl) (O_gk rfl (O_p (.i .i64 (((q.length : Nat)) : Int)) (by exact (r_lenOf (v := lv) (n := q.length) rfl ((hlv.rd hH10.top1 (pr_lens q) (by decide)).lenOf (List.length_map ..)) (hlv.rd hH10.top1 (pr_lens q) (by decide)).isSl)) (O_gk rfl (O_p (.b false) (by exact (by rw [r_gtr rfl rfl, decide_eq_false (by omega)])) (O_p (.b false) (r_pick_f rfl rfl) (O_nil  ?_))))))))))
 refine C_cond (x := false) rfl (fun h => by cases h) (fun _ => ?_)
 refine C_skip  (C_seq  (C_region  (pv (nI n) rfl (pv (pT F 0) rfl (O_p (pT F 0) (r_nilc rfl) (pf (pT F 0) rfl rfl (O_p lv (r_ld rfl hH10.get0 rfl) (pv (nI n) rfl ?_))))))))
 refine O_q (by exact Rw.hi (hlv.rd hH10.top1 (pr_lens q) (by decide)) rfl (i := n) rfl (by rw [List.length_map]; exact hn)) fun v12 hv11 => ?_
 have hw29 : ∀ H' R', Hs H' (qseg lv lc ++ R') → Rw 1 H' v12 ((q.map En.pr).take n) := fun H' R' hh => hv11 H' (hlv.rd hh (pr_lens q) (by decide))
 have hH13 := ((hH10.top2).top2)
 refine O_call (Ev.mono (contgy_ev (P := fun e => decide (e.st = 0)) (fun _ _ _ h => w62_ev h) hw29 hn hql hfx hH13) fun v14 H15 hq16 => ?_)
 obtain ⟨rfl, hH17⟩ := hq16
 refine O_p (.b false) (r_un rfl rfl) (pv (nI n) rfl (pv (.b false) rfl (O_nil  (C_ret  ?_))))
 have hH18 := (((hH17.top1).top1).top2)
 exact ⟨.inr rfl, _, resL_cons (r_tmp (v := (.i .i64 (((n : Nat)) : Int))) rfl) (resL_one (r_tmp (v := (.b false)) rfl)), _, rfl, hH18⟩
theorem reached_no {H : AH} {R : HL} {F : Nat} {lv : AV} {lc : List AV} {nx : Int} {q : List En} {cum : Int} {n : Nat} (hlv : Sq 1 lv lc (q.map En.pr).flatten) (hql : q.length ≤ 100000) (hcum : w32 (cum - (floorA nx q.length)) = ((n : Nat) : Int)) (hno : q.length < n ∨ ∃ e ∈ (q.map En.e).take n, e.st = 0) (hH0 : Hs H ([(F, some (.cells ([lv, (.i .u32 nx)]) true))] ++ ((qseg lv lc) ++ ((q.flatMap En.seg) ++ (R))))) : Ev tabA spA (.fn (.func 37) [] []) [.p (some (F, 0)), .i .u32 cum] H (fun r H' => ∃ n2 : Int, r = .tup [.i .i64 n2, .b false] ∧ Hs H' ([(F, some (.cells ([lv, (.i .u32 nx)]) true))] ++ ((qseg lv lc) ++ ((q.flatMap En.seg) ++ (R))))) := by
  rcases Nat.lt_or_ge q.length n with h | h
  · exact reached_far hlv hql hcum h hH0
  · refine reached_waits hlv hql hcum h ?_ hH0
    rcases hno with h2 | ⟨e, he, h2⟩
    · omega
    · have h3 := List.findIdx_lt_length_of_exists (p := fun e : Ea => decide (e.st = 0)) ⟨e, he, decide_eq_true h2⟩
      rw [List.length_take] at h3
      exact Nat.lt_of_lt_of_le h3 (Nat.min_le_left _ _)
theorem ackno_raw {H : AH} {R : HL} {F : Nat} {lv : AV} {lc : List AV} {nx : Int} {q : List En} {v : AV} {cum now : Int} {n : Nat} (hlv : Sq 1 lv lc (q.map En.pr).flatten) (hql : q.length ≤ 100000) (hcum : w32 (cum - (floorA nx q.length)) = ((n : Nat) : Int)) (hno : q.length < n ∨ ∃ e ∈ (q.map En.e).take n, e.st = 0) (hH0 : Hs H ([(F, some (.cells ([lv, (.i .u32 nx)]) true))] ++ ((qseg lv lc) ++ ((q.flatMap En.seg) ++ (R))))) : Ev tabA spA (.fn (.func 15) [] []) [.p (some (F, 0)), .i .u32 cum, v, .i .i64 now] H (fun r H' => r = .tup [.agg [.i .i64 0, .i .i64 0, .b false, .b false], .b false] ∧ Hs H' ([(F, some (.cells ([lv, (.i .u32 nx)]) true))] ++ ((qseg lv lc) ++ ((q.flatMap En.seg) ++ (R))))) := by
 refine Ev_C (F := x15) rfl ?_
 refine C_seq  (C_region  ?_)
 refine O_alloc fun n1 H2 hN3 => ?_
 have hH4 := hH0.new hN3
 refine pv (.b false) rfl (O_nil  (C_seq  (C_region  (pv (pT F 0) rfl (pv (.i .u32 cum) rfl ?_)))))
 have hH5 := (((hH4.top3).top3).top3)
 have hH6 := (((hH5.top2).top2).top2)
 refine O_call (Ev.mono (reached_no hlv hql hcum hno hH6) fun v7 H8 hq9 => ?_)
 obtain ⟨n2, rfl, hH10⟩ := hq9
 refine pv (.tup [(.i .i64 n2), (.b false)]) rfl (O_p (.i .i64 n2) (r_ext rfl rfl) (O_p (.b false) (r_ext rfl rfl) (pv (.i .i64 n2) rfl (pv (.b false) rfl (O_nil  (C_seq  (C_seq  (C_region  (pv (.b false) rfl (O_p (.b true) (r_un rfl rfl) (O_nil  ?_)))))))))))
 refine C_cond (x := true) rfl (fun _ => ?_) (fun h => by cases h)
 refine C_seq  (C_region  (O_p (.agg [(.i .i64 0), (.i .i64 0), (.b false), (.b false)]) (r_build rfl) ?_))
 refine O_store (vs := [(.i .i64 0), (.i .i64 0), (.b false), (.b false)]) (c' := [(.i .i64 0), (.i .i64 0), (.b false), (.b false)]) rfl (by rfl) hH10.get3 rfl (List.cons_ne_nil _ _) (Nat.le_of_ble_eq_true rfl) rfl fun H11 hW12 => ?_
 have hH13 := hH10.wr3 hW12
 refine pv (.b false) rfl (O_nil  (C_ret  (nx_ret  ?_)))
 have hcell := hH13.get3
 have hH14 := (hH13.sub3)
 have hH15 := (((hH14.top2).top2).top2)
 exact ⟨.inr rfl, _, resL_cons (r_cellA (o := 0) (l := [(.i .i64 0), (.i .i64 0), (.b false), (.b false)]) rfl hcell rfl) (resL_one (r_tmp (v := .b false) rfl)), rfl, hH15⟩
theorem state_low {H : AH} {R : HL} {F : Nat} {lv : AV} {lc : List AV} {nx : Int} {q : List En} {cum : Int} {n : Nat} (hlv : Sq 1 lv lc (q.map En.pr).flatten) (hql : q.length ≤ 100000) (hcum : w32 (cum - (floorA nx q.length)) = ((n : Nat) : Int)) (hn : n < 1) (hH0 : Hs H ([(F, some (.cells ([lv, (.i .u32 nx)]) true))] ++ ((qseg lv lc) ++ ((q.flatMap En.seg) ++ (R))))) : Ev tabA spA (.fn (.func 24) [] []) [.p (some (F, 0)), .i .u32 cum] H (fun r H' => r = .tup [.i .i64 0, .b false] ∧ Hs H' ([(F, some (.cells ([lv, (.i .u32 nx)]) true))] ++ ((qseg lv lc) ++ ((q.flatMap En.seg) ++ (R))))) := by
 refine Ev_C (F := x24) rfl ?_
 have hnr : ((n : Nat) : Int) < 4294967296 := by rw [← hcum]; exact (w32_r _).2
 refine C_seq  (C_region  (pv (.i .i64 0) rfl (pv (.b false) rfl (O_nil  (C_seq  (C_region  (pv (pT F 0) rfl ?_)))))))
 have hH1 := (((hH0.top2).top2).top2)
 have hH2 := (((hH1.top2).top2).top2)
 refine O_call (Ev.mono (floor_raw hlv hH2) fun v3 H4 hq5 => ?_)
 obtain ⟨rfl, hH6⟩ := hq5
 refine pv (.i .u32 cum) rfl ?_
 refine O_call (Ev.mono (dist_ev hH6) fun v7 H8 hq9 => ?_)
 obtain ⟨rfl, hH10⟩ := hq9
 refine O_p (.i .i64 (((n : Nat)) : Int)) (by exact (by rw [show AV.i IntKind.i64 ((n : Nat) : Int) = .i .i64 (IntKind.i64.wrap (w32 (cum - (floorA nx q.length)))) by rw [hcum, wrap_i64 (by omega) (by omega)]]; exact r_cint rfl)) (pv (nI n) rfl (O_nil  (C_seq  (C_seq  (C_region  (pv (nI n) rfl (O_p (.b true) (by exact (by rw [r_lss rfl rfl, decide_eq_true (by omega)])) (pv (.b true) rfl (O_gf rfl (O_gf rfl (O_gf rfl (O_gf rfl (O_p (.b true) (r_pick_t rfl rfl) ?_)))))))))))))
 refine O_nil  ?_
 refine C_cond (x := true) rfl (fun _ => ?_) (fun h => by cases h)
 refine C_seq  (C_region  (pv (.i .i64 0) rfl (pv (.b false) rfl (O_nil  (C_ret  (nx_ret  ?_))))))
 have hH11 := (((hH10.top2).top2).top2)
 exact ⟨.inr rfl, _, resL_cons (r_tmp (v := (.i .i64 0)) rfl) (resL_one (r_tmp (v := (.b false)) rfl)), rfl, hH11⟩
theorem state_far {H : AH} {R : HL} {F : Nat} {lv : AV} {lc : List AV} {nx : Int} {q : List En} {cum : Int} {n : Nat} (hlv : Sq 1 lv lc (q.map En.pr).flatten) (hql : q.length ≤ 100000) (hcum : w32 (cum - (floorA nx q.length)) = ((n : Nat) : Int)) (h1 : 1 ≤ n) (hn : q.length < n) (hH0 : Hs H ([(F, some (.cells ([lv, (.i .u32 nx)]) true))] ++ ((qseg lv lc) ++ ((q.flatMap En.seg) ++ (R))))) : Ev tabA spA (.fn (.func 24) [] []) [.p (some (F, 0)), .i .u32 cum] H (fun r H' => r = .tup [.i .i64 0, .b false] ∧ Hs H' ([(F, some (.cells ([lv, (.i .u32 nx)]) true))] ++ ((qseg lv lc) ++ ((q.flatMap En.seg) ++ (R))))) := by
 refine Ev_C (F := x24) rfl ?_
 have hnr : ((n : Nat) : Int) < 4294967296 := by rw [← hcum]; exact (w32_r _).2
 refine C_seq  (C_region  (pv (.i .i64 0) rfl (pv (.b false) rfl (O_nil  (C_seq  (C_region  (pv (pT F 0) rfl ?_)))))))
 have hH1 := (((hH0.top2).top2).top2)
 have hH2 := (((hH1.top2).top2).top2)
 refine O_call (Ev.mono (floor_raw hlv hH2) fun v3 H4 hq5 => ?_)
 obtain ⟨rfl, hH6⟩ := hq5
 refine pv (.i .u32 cum) rfl ?_
 refine O_call (Ev.mono (dist_ev hH6) fun v7 H8 hq9 => ?_)
 obtain ⟨rfl, hH10⟩ := hq9
 refine O_p (.i .i64 (((n : Nat)) : Int)) (by exact (by rw [show AV.i IntKind.i64 ((n : Nat) : Int) = .i .i64 (IntKind.i64.wrap (w32 (cum - (floorA nx q.length)))) by rw [hcum, wrap_i64 (by omega) (by omega)]]; exact r_cint rfl)) (pv (nI n) rfl (O_nil  (C_seq  (C_seq  (C_region  (pv (nI n) rfl (O_p (.b false) (by exact (by rw [r_lss rfl rfl, decide_eq_false (by omega)])) (pv (.b false) rfl (O_gk rfl (pv (nI n) rfl (O_gk rfl (pv (pT F 0) rfl (O_gk rfl ?_)))))))))))))
 have hH11 := (((hH10.top2).top2).top2)
 have hH12 := (((hH11.top2).top2).top2)
 refine O_call (Ev.mono (len_raw hlv hH12) fun v13 H14 hq15 => ?_)
 obtain ⟨rfl, hH16⟩ := hq15
 refine O_gk rfl (O_p (.b true) (by exact (by rw [r_gtr rfl rfl, decide_eq_true (by omega)])) (O_p (.b true) (r_pick_f rfl rfl) (O_nil  ?_)))
 refine C_cond (x := true) rfl (fun _ => ?_) (fun h => by cases h)
 refine C_seq  (C_region  (pv (.i .i64 0) rfl (pv (.b false) rfl (O_nil  (C_ret  (nx_ret  ?_))))))
 have hH17 := (((hH16.top2).top2).top2)
 exact ⟨.inr rfl, _, resL_cons (r_tmp (v := (.i .i64 0)) rfl) (resL_one (r_tmp (v := (.b false)) rfl)), rfl, hH17⟩
theorem state_yes {H : AH} {R : HL} {F : Nat} {lv : AV} {lc : List AV} {nx : Int} {q : List En} {cum : Int} {n : Nat} (hlv : Sq 1 lv lc (q.map En.pr).flatten) (hql : q.length ≤ 100000) (hcum : w32 (cum - (floorA nx q.length)) = ((n : Nat) : Int)) {x : En} (h1 : 1 ≤ n) (hxj : q[n - 1]? = some x) (hH0 : Hs H ([(F, some (.cells ([lv, (.i .u32 nx)]) true))] ++ ((qseg lv lc) ++ ((q.flatMap En.seg) ++ (R))))) : Ev tabA spA (.fn (.func 24) [] []) [.p (some (F, 0)), .i .u32 cum] H (fun r H' => r = .tup [.i .i64 x.e.st, .b true] ∧ Hs H' ([(F, some (.cells ([lv, (.i .u32 nx)]) true))] ++ ((qseg lv lc) ++ ((q.flatMap En.seg) ++ (R))))) := by
 refine Ev_C (F := x24) rfl ?_
 have hnr : ((n : Nat) : Int) < 4294967296 := by rw [← hcum]; exact (w32_r _).2
 have hnl := (List.getElem?_eq_some_iff.1 hxj).1
 refine C_seq  (C_region  (pv (.i .i64 0) rfl (pv (.b false) rfl (O_nil  (C_seq  (C_region  (pv (pT F 0) rfl ?_)))))))
 have hH1 := (((hH0.top2).top2).top2)
 have hH2 := (((hH1.top2).top2).top2)
 refine O_call (Ev.mono (floor_raw hlv hH2) fun v3 H4 hq5 => ?_)
 obtain ⟨rfl, hH6⟩ := hq5
 refine pv (.i .u32 cum) rfl ?_
 refine O_call (Ev.mono (dist_ev hH6) fun v7 H8 hq9 => ?_)
 obtain ⟨rfl, hH10⟩ := hq9
 refine O_p (.i .i64 (((n : Nat)) : Int)) (by exact (by rw [show AV.i IntKind.i64 ((n : Nat) : Int) = .i .i64 (IntKind.i64.wrap (w32 (cum - (floorA nx q.length)))) by rw [hcum, wrap_i64 (by omega) (by omega)]]; exact r_cint rfl)) (pv (nI n) rfl (O_nil  (C_seq  (C_seq  (C_region  (pv (nI n) rfl (O_p (.b false) (by exact (by rw [r_lss rfl rfl, decide_eq_false (by omega)])) (pv (.b false) rfl (O_gk rfl (pv (nI n) rfl (O_gk rfl (pv (pT F 0) rfl (O_gk rfl ?_)))))))))))))
 have hH11 := (((hH10.top2).top2).top2)
 have hH12 := (((hH11.top2).top2).top2)
 refine O_call (Ev.mono (len_raw hlv hH12) fun v13 H14 hq15 => ?_)
 obtain ⟨rfl, hH16⟩ := hq15
 refine O_gk rfl (O_p (.b false) (by exact (by rw [r_gtr rfl rfl, decide_eq_false (by omega)])) (O_p (.b false) (r_pick_f rfl rfl) (O_nil  ?_)))
 refine C_cond (x := false) rfl (fun h => by cases h) (fun _ => ?_)
 refine C_skip  (C_seq  (C_region  (pv (pT F 0) rfl (O_p (pT F 0) (r_nilc rfl) (pf (pT F 0) rfl rfl (O_p lv (r_ld rfl hH16.get0 rfl) (pv (nI n) rfl (O_p (.i .i64 ((((n - 1) : Nat)) : Int)) (by exact (r_subn (a := n) (b := 1) rfl rfl (by omega) (by omega))) ?_))))))))
 refine O_q (by exact Rw.row (hlv.rd hH16.top1 (pr_lens q) (by decide)) rfl (i := (n - 1)) rfl (r := [(.p (some (x.n, 0)))]) (pr_get hxj)) fun v18 hv17 => ?_
 obtain ⟨rb19, ro20, rfl, hr21⟩ := hv17
 refine O_p (pT x.n 0) (by exact (r_ldR (q := 0) rfl (hr21 _ (hlv.rd hH16.top1 (pr_lens q) (by decide))) rfl)) (O_p (pT x.n 0) (r_nilc rfl) ?_)
 have hH22 := (hH16.top2)
 have hH23 := En.out hxj hH22
 refine pf (pT x.n 13) rfl rfl (O_p (.i .i64 x.e.st) (r_ld rfl hH23.get0 rfl) (pv (.i .i64 x.e.st) rfl (pv (.b true) rfl (O_nil  (C_ret  ?_)))))
 have hH24 := ((hH23.top1).top1)
 have hH25 := En.back0 hxj hH24
 have hH26 := ((hH25.top2).top2)
 exact ⟨.inr rfl, _, resL_cons (r_tmp (v := (.i .i64 x.e.st)) rfl) (resL_one (r_tmp (v := (.b true)) rfl)), rfl, hH26⟩
set_option linter.unusedVariables false
set_option linter.unusedSimpArgs false
def fwE (l : List Ea) : Nat := (l.foldl (fun s e => (s.1 + 1, if e.st = 4 then s.1 + 1 else s.2)) ((0, 0) : Nat × Nat)).2
theorem fwE_fst : ∀ (l : List Ea) (s : Nat × Nat), (l.foldl (fun s e => (s.1 + 1, if e.st = 4 then s.1 + 1 else s.2)) s).1 = s.1 + l.length
  | [], s => rfl
  | e :: l, s => by
    rw [List.foldl_cons, fwE_fst l]; simp only [List.length_cons]; omega
theorem fwE_snoc {l : List Ea} {e : Ea} : fwE (l ++ [e]) = if e.st = 4 then l.length + 1 else fwE l := by
 unfold fwE
 rw [List.foldl_append]
 show (if e.st = 4 then (l.foldl _ ((0, 0) : Nat × Nat)).1 + 1 else _) = _
 rw [fwE_fst]
 simp only [Nat.zero_add]
theorem fwE_at {l : List Ea} {j : Nat} {e : Ea} (h : l[j]? = some e) : fwE (l.take (j + 1)) = if e.st = 4 then j + 1 else fwE (l.take j) := by
 have hj := (List.getElem?_eq_some_iff.1 h).1
 rw [take_at h, fwE_snoc, List.length_take, Nat.min_eq_left (Nat.le_of_lt hj)]
theorem fwE_le : ∀ {l : List Ea} {j : Nat}, j ≤ l.length → fwE (l.take j) ≤ j
  | l, 0, _ => by rw [List.take_zero]; exact Nat.le_refl _
  | l, j + 1, h => by
    have he : l[j]? = some l[j] := List.getElem?_eq_getElem (by omega)
    rw [fwE_at he]
    split
    · exact Nat.le_refl _
    · exact Nat.le_succ_of_le (fwE_le (by omega))
def fwN (l : List Ea) : Nat := l.findIdx fun e => decide (e.st < 3)
theorem fwN_le {l : List Ea} : fwN l ≤ l.length := List.findIdx_le_length
abbrev fwX (l : List Ea) : Nat := fwE (l.take (fwN l))
theorem fwX_le {l : List Ea} : fwX l ≤ l.length := Nat.le_trans (fwE_le fwN_le) fwN_le
def frB (f : Int) : Bool := !decide (IntKind.u8.wrap ((BitVec.ofInt 8 f &&& BitVec.ofInt 8 4).toNat : Int) = 0)
abbrev skR (p : Int × Int) : List AV := [.i .u16 p.1, .i .u16 p.2]
abbrev skP (o : Int) : Int × Int → Bool := fun p => decide (p.1 = o)
def fwS (out : List (Int × Int)) (e : Ea) : List (Int × Int) :=
 if e.st = 3 ∨ frB e.c.f = true then out else if out.findIdx (skP e.c.o) < out.length then out.set (out.findIdx (skP e.c.o)) (e.c.o, e.c.i) else out ++ [(e.c.o, e.c.i)]
theorem fwS_len {out : List (Int × Int)} {e : Ea} : (fwS out e).length ≤ out.length + 1 := by
  unfold fwS
  split
  · exact Nat.le_succ _
  · split
    · rw [List.length_set]; exact Nat.le_succ _
    · rw [List.length_append]; exact Nat.le_refl _
def fwO (l : List Ea) : List (Int × Int) := l.foldl fwS []
theorem fwO_at {l : List Ea} {j : Nat} {e : Ea} (h : l[j]? = some e) : fwO (l.take (j + 1)) = fwS (fwO (l.take j)) e := by
 unfold fwO
 rw [take_at h, List.foldl_append]; rfl
theorem fwO_len : ∀ {l : List Ea} {j : Nat}, (fwO (l.take j)).length ≤ j
  | l, 0 => by rw [List.take_zero]; exact Nat.le_refl _
  | l, j + 1 => by
    rcases Nat.lt_or_ge j l.length with h | h
    · rw [fwO_at (List.getElem?_eq_getElem h)]
      exact Nat.le_trans fwS_len (Nat.succ_le_succ fwO_len)
    · have h9 : l.take (j + 1) = l.take j := by rw [List.take_of_length_le h, List.take_of_length_le (by omega)]
      rw [h9]; exact Nat.le_succ_of_le fwO_len
theorem sk_lens (l : List (Int × Int)) : ∀ r ∈ l.map skR, r.length = 2 := fun r hr => by obtain ⟨x, _, rfl⟩ := List.mem_map.1 hr; rfl
theorem sk_get {l : List (Int × Int)} {k : Nat} {p : Int × Int} (h : l[k]? = some p) : (l.map skR)[k]? = some [.i .u16 p.1, .i .u16 p.2] := by rw [List.getElem?_map, h]; rfl
theorem sk_app {l : List (Int × Int)} {p : Int × Int} : ((l ++ [p]).map skR).flatten = (l.map skR).flatten ++ [.i .u16 p.1, .i .u16 p.2] := by rw [List.map_append, List.flatten_append]; rfl
def fwM (l : List Ea) (nx : Int) : Int := if fwX l = 0 then floorA nx l.length else match l[fwX l - 1]? with
  | some e => e.a
  | none => 0
theorem done_all {H : AH} {R : HL} {F : Nat} {lv : AV} {lc : List AV} {nx : Int} {q : List En} {n : Nat} (hlv : Sq 1 lv lc (q.map En.pr).flatten) (hql : q.length ≤ 100000) (hnn : n = fwN (q.map En.e)) (hnl : n = q.length) (hH0 : Hs H ([(F, some (.cells ([lv, (.i .u32 nx)]) true))] ++ ((qseg lv lc) ++ ((q.flatMap En.seg) ++ (R))))) : Ev tabA spA (.fn (.func 44) [] []) [.p (some (F, 0))] H (fun r H' => ∃ w, r = w ∧ (∀ H' R', Hs H' (qseg lv lc ++ R') → Rw 1 H' w ((q.map En.pr).take n)) ∧ Hs H' ([(F, some (.cells ([lv, (.i .u32 nx)]) true))] ++ ((qseg lv lc) ++ ((q.flatMap En.seg) ++ (R))))) := by
  refine Ev_C (F := x44) rfl ?_
  have hwl : ∀ H' R', Hs H' (qseg lv lc ++ R') → Rw 1 H' lv ((q.map En.pr).take q.length) := fun H' R' hh => by have h9 := hlv.rd hh (pr_lens q) (by decide); rw [List.take_of_length_le (by rw [List.length_map]; exact Nat.le_refl _)]; exact h9
  have htk : (q.map En.e).take q.length = q.map En.e := List.take_of_length_le (by rw [List.length_map]; exact Nat.le_refl _)
  have hfx : (((q.map En.e).take q.length).findIdx fun e => decide (e.st < 3)) = n := by rw [htk, hnn]; rfl
  have hn : n ≤ q.length := by omega
  refine C_seq  (C_region  (pv (.sl none 0 0 0) rfl (O_nil  (C_seq  (C_seq  (C_region  (pv (pT F 0) rfl (O_p (.b false) (r_nilq_s rfl) (O_nil  ?_)))))))))
  refine C_cond (x := false) rfl (fun h => by cases h) (fun _ => ?_)
  refine C_skip  (C_seq  (C_region  (pv (pT F 0) rfl (O_p (pT F 0) (r_nilc rfl) (pf (pT F 0) rfl rfl (O_p lv (r_ld rfl hH0.get0 rfl) ?_))))))
  have hH1 := ((hH0.top2).top2)
  refine O_call (Ev.mono (ixg_ev (P := fun e => decide (e.st < 3)) (n := q.length) (fun _ _ _ h => w67_ev h) hwl (Nat.le_refl _) hql hH1) fun v2 H3 hq4 => ?_)
  obtain ⟨hor, hH5⟩ := hq4
  rw [hfx] at hor; rcases hor with ⟨h1, rfl⟩ | ⟨h1, rfl⟩
  rotate_left
  · omega
  refine pv (.i .i64 (-1)) rfl (O_nil  (C_seq  (C_seq  (C_region  (pv (.i .i64 (-1)) rfl (O_p (.b true) (by exact (by rw [r_lss rfl rfl, decide_eq_true (by omega)])) (O_nil  ?_)))))))
  refine C_cond (x := true) rfl (fun _ => ?_) (fun h => by cases h)
  refine C_seq  (C_region  (pv (pT F 0) rfl (O_p (pT F 0) (r_nilc rfl) (pf (pT F 0) rfl rfl (O_p lv (r_ld rfl hH5.get2 rfl) (pv lv rfl (O_nil  (C_ret  (nx_ret  ?_)))))))))
  have hH6 := (((hH5.top1).top1).top2)
  exact ⟨.inr rfl, _, resL_one (r_tmp (v := lv) rfl), lv, rfl, fun H' R' hh => by have h9 := hlv.rd hh (pr_lens q) (by decide); rw [hnl, List.take_of_length_le (by rw [List.length_map]; exact Nat.le_refl _)]; exact h9, hH6⟩
theorem done_some {H : AH} {R : HL} {F : Nat} {lv : AV} {lc : List AV} {nx : Int} {q : List En} {n : Nat} (hlv : Sq 1 lv lc (q.map En.pr).flatten) (hql : q.length ≤ 100000) (hnn : n = fwN (q.map En.e)) (hnl : n < q.length) (hH0 : Hs H ([(F, some (.cells ([lv, (.i .u32 nx)]) true))] ++ ((qseg lv lc) ++ ((q.flatMap En.seg) ++ (R))))) : Ev tabA spA (.fn (.func 44) [] []) [.p (some (F, 0))] H (fun r H' => ∃ w, r = w ∧ (∀ H' R', Hs H' (qseg lv lc ++ R') → Rw 1 H' w ((q.map En.pr).take n)) ∧ Hs H' ([(F, some (.cells ([lv, (.i .u32 nx)]) true))] ++ ((qseg lv lc) ++ ((q.flatMap En.seg) ++ (R))))) := by
  refine Ev_C (F := x44) rfl ?_
  have hwl : ∀ H' R', Hs H' (qseg lv lc ++ R') → Rw 1 H' lv ((q.map En.pr).take q.length) := fun H' R' hh => by have h9 := hlv.rd hh (pr_lens q) (by decide); rw [List.take_of_length_le (by rw [List.length_map]; exact Nat.le_refl _)]; exact h9
  have htk : (q.map En.e).take q.length = q.map En.e := List.take_of_length_le (by rw [List.length_map]; exact Nat.le_refl _)
  have hfx : (((q.map En.e).take q.length).findIdx fun e => decide (e.st < 3)) = n := by rw [htk, hnn]; rfl
  have hn : n ≤ q.length := by omega
  refine C_seq  (C_region  (pv (.sl none 0 0 0) rfl (O_nil  (C_seq  (C_seq  (C_region  (pv (pT F 0) rfl (O_p (.b false) (r_nilq_s rfl) (O_nil  ?_)))))))))
  refine C_cond (x := false) rfl (fun h => by cases h) (fun _ => ?_)
  refine C_skip  (C_seq  (C_region  (pv (pT F 0) rfl (O_p (pT F 0) (r_nilc rfl) (pf (pT F 0) rfl rfl (O_p lv (r_ld rfl hH0.get0 rfl) ?_))))))
  have hH1 := ((hH0.top2).top2)
  refine O_call (Ev.mono (ixg_ev (P := fun e => decide (e.st < 3)) (n := q.length) (fun _ _ _ h => w67_ev h) hwl (Nat.le_refl _) hql hH1) fun v2 H3 hq4 => ?_)
  obtain ⟨hor, hH5⟩ := hq4
  rw [hfx] at hor; rcases hor with ⟨h1, rfl⟩ | ⟨h1, rfl⟩
  · omega
  refine pv (nI n) rfl (O_nil  (C_seq  (C_seq  (C_region  (pv (nI n) rfl (O_p (.b false) (by exact (by rw [r_lss rfl rfl, decide_eq_false (by omega)])) (O_nil  ?_)))))))
  refine C_cond (x := false) rfl (fun h => by cases h) (fun _ => ?_)
  refine C_skip  (C_seq  (C_region  (pv (pT F 0) rfl (O_p (pT F 0) (r_nilc rfl) (pf (pT F 0) rfl rfl (O_p lv (r_ld rfl hH5.get2 rfl) (pv (nI n) rfl ?_)))))))
  refine O_q (by exact Rw.hi (hlv.rd hH5.top0 (pr_lens q) (by decide)) rfl (i := n) rfl (by rw [List.length_map]; exact hn)) fun v7 hv6 => ?_
  have hw22 : ∀ H' R', Hs H' (qseg lv lc ++ R') → Rw 1 H' v7 ((q.map En.pr).take n) := fun H' R' hh => hv6 H' (hlv.rd hh (pr_lens q) (by decide))
  refine pv v7 rfl (O_nil  (C_ret  ?_))
  have hH8 := (((hH5.top1).top1).top2)
  exact ⟨.inr rfl, _, resL_one (r_tmp (v := v7) rfl), _, rfl, hw22, hH8⟩
theorem done_ev {H : AH} {R : HL} {F : Nat} {lv : AV} {lc : List AV} {nx : Int} {q : List En} {n : Nat} (hlv : Sq 1 lv lc (q.map En.pr).flatten) (hql : q.length ≤ 100000) (hnn : n = fwN (q.map En.e)) (hH0 : Hs H ([(F, some (.cells ([lv, (.i .u32 nx)]) true))] ++ ((qseg lv lc) ++ ((q.flatMap En.seg) ++ (R))))) : Ev tabA spA (.fn (.func 44) [] []) [.p (some (F, 0))] H (fun r H' => ∃ w, r = w ∧ (∀ H' R', Hs H' (qseg lv lc ++ R') → Rw 1 H' w ((q.map En.pr).take n)) ∧ Hs H' ([(F, some (.cells ([lv, (.i .u32 nx)]) true))] ++ ((qseg lv lc) ++ ((q.flatMap En.seg) ++ (R))))) := by
  have h1 := fwN_le (l := q.map En.e)
  rw [List.length_map, ← hnn] at h1
  rcases Nat.lt_or_eq_of_le h1 with h | h
  · exact done_some hlv hql hnn h hH0
  · exact done_all hlv hql hnn h hH0
theorem sk1_ev {H : AH} {R : HL} {hb : Nat} {so si b1 b2 : Int} (hH0 : Hs H ([(hb, some (.cells ([(.i .u16 so), (.i .u16 si)]) true))] ++ (R))) : Ev tabA spA (.fn (.func 46) [] [.p (some (hb, 0))]) [.agg [.i .u16 b1, .i .u16 b2]] H (fun r H' => r = .b (decide (b1 = so)) ∧ Hs H' ([(hb, some (.cells ([(.i .u16 so), (.i .u16 si)]) true))] ++ (R))) := by
 refine Ev_C (F := x46) rfl ?_
 refine C_seq  (C_region  ?_)
 refine O_box (z := [(.i .u16 b1), (.i .u16 b2)]) rfl fun n1 H2 hN3 => ?_
 have hH4 := hH0.new hN3
 refine pv (.b false) rfl (O_nil  (C_seq  (C_region  (pf (pT n1 0) rfl rfl (O_p (.i .u16 b1) (r_ld rfl hH4.get0 rfl) (pf (pT hb 0) rfl rfl (O_p (.i .u16 so) (r_ld rfl hH4.get1 rfl) (O_p (.b (decide (b1 = so))) (r_eql rfl rfl) (pv (.b (decide (b1 = so))) rfl (O_nil  (C_ret  ?_)))))))))))
 have hH5 := (hH4.sub0)
 exact ⟨.inr rfl, _, resL_one (r_tmp (v := (.b (decide (b1 = so)))) rfl), rfl, hH5⟩
theorem ixs_ev {H : AH} {R : HL} {hb : Nat} {so si : Int} {ov : AV} {oc : List AV} {os : List (Int × Int)} (hov : Sq 2 ov oc (os.map skR).flatten) (hol : os.length ≤ 100000) (hH0 : Hs H ([(hb, some (.cells ([(.i .u16 so), (.i .u16 si)]) true))] ++ ((qseg ov oc) ++ (R)))) : Ev tabA spA (.fn (.func 45) [] []) [ov, .fn (.func 46) [] [.p (some (hb, 0))]] H (fun r H' => ((os.length ≤ (os.findIdx (skP so)) ∧ r = .i .i64 (-1)) ∨ ((os.findIdx (skP so)) < os.length ∧ r = .i .i64 (((os.findIdx (skP so)) : Nat) : Int))) ∧ Hs H' ([(hb, some (.cells ([(.i .u16 so), (.i .u16 si)]) true))] ++ ((qseg ov oc) ++ (R)))) := by
 refine Ev_C (F := x45) rfl ?_
 refine C_seq  (C_region  (pv (.i .i64 0) rfl (O_nil  (C_seq  (C_seq  (C_region  (pv ov rfl (O_p (.i .i64 (((os.length : Nat)) : Int)) (by exact (by exact r_lenOf rfl (hov.lenOf ((flat_len (sk_lens os)).trans (by rw [List.length_map])) (by decide)) hov.isSl)) (pv (.i .i64 0) rfl (O_nil  (C_block  ?_)))))))))))
 refine C_while (fun m1 T2 H3 => ∃ j : Nat, m1 = os.length - j ∧ j ≤ os.length ∧ j ≤ (os.findIdx (skP so)) ∧ Hs H3 ([(hb, some (.cells ([(.i .u16 so), (.i .u16 si)]) true))] ++ ((qseg ov oc) ++ (R))) ∧ T2.get 0 = ov ∧ T2.get 1 = (.fn (.func 46) [] [.p (some (hb, 0))]) ∧ T2.get 7 = (.i .i64 (((os.length : Nat)) : Int)) ∧ T2.get 8 = (.i .i64 (((j : Nat)) : Int))) (fun m1 T2 H3 hI4 => ?_) os.length _ _ ⟨0, rfl, Nat.zero_le _, Nat.zero_le _, hH0, rfl, rfl, rfl, rfl⟩
 obtain ⟨j, hm5, hp6, hp7, hH12, hT8, hT9, hT10, hT11⟩ := hI4
 refine C_seq  (C_region  (O_p (.b (decide ((((j : Nat)) : Int) < (((os.length : Nat)) : Int)))) (r_lss hT11 hT10) (O_nil  (C_seq  ?_))))
 refine C_cond (x := (decide ((((j : Nat)) : Int) < (((os.length : Nat)) : Int)))) rfl (fun hc13 => ?_) (fun hc13 => ?_)
 ·
  try simp only [dz1, dz2, dz3, dz4, dz5, dz6, dz7, dz8, dz9] at hc13
  refine C_skip  (C_seq  (C_block  (C_seq  (C_region  ?_))))
  obtain ⟨o, hoi⟩ : ∃ o, os[j]? = some o := ⟨_, List.getElem?_eq_getElem (show j < os.length by omega)⟩
  refine pv (nI j) hT11 (pv (nI j) rfl (O_nil  (C_seq  (C_region  (pv (.fn (.func 46) [] [.p (some (hb, 0))]) hT9 (pv ov hT8 (pv (nI j) rfl ?_)))))))
  refine O_q (by exact Sq.cell hov (sk_lens os) hH12.top1 rfl (i := j) rfl (r := [(.i .u16 o.1), (.i .u16 o.2)]) (sk_get hoi) (by decide)) fun v15 hv14 => ?_
  obtain ⟨rb16, ro17, rfl, hrg18, hrt19, hrb20, hput21, hqs22⟩ := hv14
  refine O_p (.agg [(.i .u16 o.1), (.i .u16 o.2)]) (r_ldRA (q := 0) rfl ⟨_, _, hrg18, hrt19⟩ rfl) ?_
  refine O_call (Ev.mono (sk1_ev hH12) fun v23 H24 hq25 => ?_)
  obtain ⟨rfl, hH26⟩ := hq25
  refine O_nil  ?_
  refine C_cond (x := (decide (o.1 = so))) rfl (fun hc27 => ?_) (fun hc27 => ?_)
  ·
   have hPx : skP so o = true := by simpa using hc27
   refine C_seq  (C_region  (pv (nI j) rfl (pv (nI j) rfl (O_nil  (C_ret  (bk_ret  (nx_ret  (nx_ret  (bk_ret  (nx_ret  ?_))))))))))
   have hH28 := ((hH26.top1).top1)
   have hfj := fx_at hp7 hoi hPx
   exact ⟨.inr rfl, _, resL_one (r_tmp (v := (.i .i64 (((j : Nat)) : Int))) rfl), .inr ⟨by have := (List.getElem?_eq_some_iff.1 hoi).1; omega, by rw [hfj]; rfl⟩, hH28⟩
  ·
   have hPx : skP so o = false := by simpa using hc27
   refine C_skip  (C_region  (O_p (.i .i64 ((((j : Nat)) : Int) + 1)) (by exact (r_addi hT11 rfl (wrap_i64 (by omega) (by omega)))) (pv (.i .i64 ((((j : Nat)) : Int) + 1)) rfl (O_nil  ?_))))
   have hH29 := ((hH26.top1).top1)
   exact ⟨os.length - (j + 1), by omega, (j + 1), rfl, by omega, fx_next hp7 hoi hPx, hH29, hT8, hT9, hT10, rfl⟩
 ·
  try simp only [dz1, dz2, dz3, dz4, dz5, dz6, dz7, dz8, dz9] at hc13
  refine C_exit  (nx_exit  (nx_exit  (bk_hit  (C_seq  (C_region  (pv (.i .i64 (-1)) rfl (O_nil  (C_ret  ?_))))))))
  have hH30 := ((hH12.top1).top1)
  exact ⟨.inr rfl, _, resL_one (r_tmp (v := (.i .i64 (-1))) rfl), .inl ⟨by have := hp7; omega, rfl⟩, hH30⟩
set_option maxHeartbeats 2000000 in
theorem forward_raw {H : AH} {R : HL} {F : Nat} {lv : AV} {lc : List AV} {nx : Int} {q : List En} (hlv : Sq 1 lv lc (q.map En.pr).flatten) (hql : q.length ≤ 100000) (hH0 : Hs H ([(F, some (.cells ([lv, (.i .u32 nx)]) true))] ++ ((qseg lv lc) ++ ((q.flatMap En.seg) ++ (R))))) : Ev tabA spA (.fn (.func 27) [] []) [.p (some (F, 0))] H (fun r H' => ∃ ov oc, r = .tup [.i .u32 (fwM (q.map En.e) nx), ov, .b (decide (0 < fwX (q.map En.e)))] ∧ Sq 2 ov oc ((fwO ((q.map En.e).take (fwX (q.map En.e)))).map skR).flatten ∧ Hs H' (qseg ov oc ++ ([(F, some (.cells ([lv, (.i .u32 nx)]) true))] ++ ((qseg lv lc) ++ ((q.flatMap En.seg) ++ (R)))))) := by
  refine Ev_C (F := x27) rfl ?_
  obtain ⟨n, hnn⟩ : ∃ z, z = fwN (q.map En.e) := ⟨_, rfl⟩
  have hn := fwN_le (l := (q.map En.e))
  rw [List.length_map, ← hnn] at hn
  refine C_seq  (C_region  (pv (.i .u32 0) rfl (pv (.sl none 0 0 0) rfl (pv (.b false) rfl (O_nil  (C_seq  (C_region  (pv (.i .i64 0) rfl (O_nil  (C_seq  (C_seq  (C_region  (pv (pT F 0) rfl ?_)))))))))))))
  have hH1 := (((hH0.top2).top2).top2)
  have hH2 := (((hH1.top2).top2).top2)
  refine O_call (Ev.mono (done_ev hlv hql hnn hH2) fun v3 H4 hq5 => ?_)
  obtain ⟨w, rfl, hw, hH6⟩ := hq5
  refine O_p (.i .i64 (((n : Nat)) : Int)) (by exact (r_lenOf (v := v3) (n := n) rfl ((hw _ _ hH6.top1).lenOf (by rw [List.length_take, List.length_map]; exact Nat.min_eq_left hn)) (hw _ _ hH6.top1).isSl)) (pv (.i .i64 0) rfl (O_nil  (C_block  ?_)))
  have hH7 := (((hH6.top2).top2).top2)
  refine C_while (fun m8 T9 H10 => ∃ j : Nat, m8 = n - j ∧ j ≤ n ∧ Hs H10 ([(F, some (.cells ([lv, (.i .u32 nx)]) true))] ++ ((qseg lv lc) ++ ((q.flatMap En.seg) ++ (R)))) ∧ T9.get 0 = (.p (some (F, 0))) ∧ T9.get 5 = (.i .i64 ((((fwE ((q.map En.e).take j)) : Nat)) : Int)) ∧ T9.get 14 = v3 ∧ T9.get 15 = (.i .i64 (((n : Nat)) : Int)) ∧ T9.get 16 = (.i .i64 (((j : Nat)) : Int))) (fun m8 T9 H10 hI11 => ?_) n _ _ ⟨0, rfl, Nat.zero_le _, hH7, rfl, (by rw [List.take_zero]; rfl), rfl, rfl, rfl⟩
  obtain ⟨j, hm12, hp13, hH19, hT14, hT15, hT16, hT17, hT18⟩ := hI11
  refine C_seq  (C_region  (O_p (.b (decide ((((j : Nat)) : Int) < (((n : Nat)) : Int)))) (r_lss hT18 hT17) (O_nil  (C_seq  ?_))))
  refine C_cond (x := (decide ((((j : Nat)) : Int) < (((n : Nat)) : Int)))) rfl (fun hc20 => ?_) (fun hc20 => ?_)
  ·
    try simp only [dz1, dz2, dz3, dz4, dz5, dz6, dz7, dz8, dz9] at hc20
    refine C_skip  (C_seq  (C_block  (C_seq  (C_region  ?_))))
    have hjl : j < q.length := by omega
    obtain ⟨x, hxj⟩ : ∃ e, q[j]? = some e := ⟨_, List.getElem?_eq_getElem hjl⟩
    have hH21 := (hH19.top2)
    have hH22 := En.out hxj hH21
    refine pv (nI j) hT18 ?_
    refine O_q (by exact Rw.row (hw _ _ hH22.top3) (by exact hT16) (i := j) (by exact hT18) (r := [(.p (some (x.n, 0)))]) ((List.getElem?_take_of_lt (by omega)).trans (pr_get hxj))) fun v24 hv23 => ?_
    obtain ⟨rb25, ro26, rfl, hr27⟩ := hv23
    refine O_p (pT x.n 0) (r_ldR (q := 0) rfl (hr27 _ (hw _ _ hH22.top3)) rfl) (pv (nI j) rfl (pv (pT x.n 0) rfl (O_nil  (C_seq  (C_region  (pv (pT x.n 0) rfl (O_p (pT x.n 0) (r_nilc rfl) (pf (pT x.n 13) rfl rfl (O_p (.i .i64 x.e.st) (r_ld rfl hH22.get0 rfl) (O_p (.b (decide (x.e.st = 4))) (r_eql rfl rfl) (O_nil  ?_)))))))))))
    refine C_cond (x := (decide (x.e.st = 4))) rfl (fun hc28 => ?_) (fun hc28 => ?_)
    ·
      try simp only [dz1, dz2, dz3, dz4, dz5, dz6, dz7, dz8, dz9] at hc28
      refine C_region  (pv (nI j) rfl (O_p (.i .i64 ((((j : Nat)) : Int) + 1)) (by exact (r_addi rfl rfl (wrap_i64 (by omega) (by omega)))) (pv (.i .i64 ((((j : Nat)) : Int) + 1)) rfl (O_nil  (C_region  (O_p (.i .i64 ((((j : Nat)) : Int) + 1)) (by exact (r_addi hT18 rfl (wrap_i64 (by omega) (by omega)))) (pv (.i .i64 ((((j : Nat)) : Int) + 1)) rfl (O_nil  ?_))))))))
      have hH29 := ((hH22.top1).top1)
      have hH30 := En.back0 hxj hH29
      have hH31 := ((hH30.top2).top2)
      exact ⟨n - (j + 1), by omega, (j + 1), rfl, by omega, hH31, hT14, (by rw [fwE_at (en_e hxj), if_pos (by omega)]; exact rfl), hT16, hT17, rfl⟩
    ·
      try simp only [dz1, dz2, dz3, dz4, dz5, dz6, dz7, dz8, dz9] at hc28
      refine C_skip  (C_region  (O_p (.i .i64 ((((j : Nat)) : Int) + 1)) (by exact (r_addi hT18 rfl (wrap_i64 (by omega) (by omega)))) (pv (.i .i64 ((((j : Nat)) : Int) + 1)) rfl (O_nil  ?_))))
      have hH32 := ((hH22.top1).top1)
      have hH33 := En.back0 hxj hH32
      have hH34 := ((hH33.top2).top2)
      exact ⟨n - (j + 1), by omega, (j + 1), rfl, by omega, hH34, hT14, (by rw [fwE_at (en_e hxj), if_neg (by omega)]; exact hT15), hT16, hT17, rfl⟩
  ·
    try simp only [dz1, dz2, dz3, dz4, dz5, dz6, dz7, dz8, dz9] at hc20
    refine C_exit  (nx_exit  (nx_exit  (bk_hit  (C_seq  (C_seq  (C_region  ?_))))))
    have hjn : j = n := by omega
    have hX : fwE ((q.map En.e).take j) = fwX (q.map En.e) := by rw [hjn, hnn]
    have hXn := fwX_le (l := (q.map En.e))
    rw [List.length_map] at hXn
    obtain ⟨en, hen⟩ : ∃ z, z = fwX (q.map En.e) := ⟨_, rfl⟩
    have hT5 := hT15
    rw [hX, ← hen] at hT5
    rw [← hen] at hXn
    refine pv (nI en) hT5 (O_p (.b (decide ((((en : Nat)) : Int) = 0))) (r_eql rfl rfl) (O_nil  ?_))
    refine C_cond (x := (decide ((((en : Nat)) : Int) = 0))) rfl (fun hc35 => ?_) (fun hc35 => ?_)
    ·
      try simp only [dz1, dz2, dz3, dz4, dz5, dz6, dz7, dz8, dz9] at hc35
      refine C_seq  (C_region  (pv (pT F 0) hT14 ?_))
      have hH36 := (((hH19.top2).top2).top2)
      have hH37 := (((hH36.top2).top2).top2)
      refine O_call (Ev.mono (floor_raw hlv hH37) fun v38 H39 hq40 => ?_)
      obtain ⟨rfl, hH41⟩ := hq40
      refine pv (.i .u32 (floorA nx q.length)) rfl (pv (.sl none 0 0 0) rfl (pv (.b false) rfl (O_nil  (C_ret  (nx_ret  ?_)))))
      have hH42 := (((hH41.top2).top2).top2)
      have hM : fwM (q.map En.e) nx = floorA nx q.length := by unfold fwM; rw [if_pos (by omega), List.length_map]
      exact ⟨.inr rfl, _, resL_cons (r_tmp (v := (.i .u32 (floorA nx q.length))) rfl) (resL_cons (r_tmp (v := (.sl none 0 0 0)) rfl) (resL_one (r_tmp (v := (.b false)) rfl))), .sl none 0 0 0, [], by rw [hM, show decide (0 < fwX (q.map En.e)) = false from decide_eq_false (by omega)]; rfl, by rw [show fwX (q.map En.e) = 0 by omega, List.take_zero]; exact Sq.nil, hH42.addnil⟩
    ·
      try simp only [dz1, dz2, dz3, dz4, dz5, dz6, dz7, dz8, dz9] at hc35
      refine C_skip  (C_seq  (C_region  (pv (.sl none 0 0 0) rfl (O_nil  (C_seq  (C_seq  (C_region  (pv (pT F 0) hT14 (O_p (pT F 0) (r_nilc rfl) (pf (pT F 0) rfl rfl (O_p lv (r_ld rfl hH19.get0 rfl) (pv (nI en) hT5 ?_))))))))))))
      refine O_q (by exact Rw.hi (hlv.rd hH19.top1 (pr_lens q) (by decide)) rfl (i := en) rfl (by rw [List.length_map]; exact hXn)) fun v44 hv43 => ?_
      have hw38 : ∀ H' R', Hs H' (qseg lv lc ++ R') → Rw 1 H' v44 ((q.map En.pr).take en) := fun H' R' hh => hv43 H' (hlv.rd hh (pr_lens q) (by decide))
      refine O_p (.i .i64 (((en : Nat)) : Int)) (by exact (r_lenOf (v := v44) (n := en) rfl ((hw38 _ _ hH19.top1).lenOf (by rw [List.length_take, List.length_map]; exact Nat.min_eq_left hXn)) (hw38 _ _ hH19.top1).isSl)) (pv (.i .i64 0) rfl (O_nil  (C_block  ?_)))
      have hH45 := (((hH19.top2).top2).top2)
      have hH46 := hH45.addnil
      refine C_while (fun m47 T48 H49 => ∃ ov : AV, ∃ oc : List AV, ∃ os : List (Int × Int), ∃ k : Nat, m47 = en - k ∧ k ≤ en ∧ Sq 2 ov oc (os.map skR).flatten ∧ os = fwO ((q.map En.e).take k) ∧ Hs H49 ((qseg ov oc) ++ ([(F, some (.cells ([lv, (.i .u32 nx)]) true))] ++ ((qseg lv lc) ++ ((q.flatMap En.seg) ++ (R))))) ∧ T48.get 0 = (.p (some (F, 0))) ∧ T48.get 5 = (.i .i64 (((en : Nat)) : Int)) ∧ T48.get 8 = ov ∧ T48.get 38 = v44 ∧ T48.get 39 = (.i .i64 (((en : Nat)) : Int)) ∧ T48.get 40 = (.i .i64 (((k : Nat)) : Int))) (fun m47 T48 H49 hI50 => ?_) en _ _ ⟨(.sl none 0 0 0), [], [], 0, rfl, Nat.zero_le _, Sq.nil, by rw [List.take_zero]; rfl, hH46, hT14, hT5, rfl, rfl, rfl, rfl⟩
      obtain ⟨ov, oc, os, k, hm51, hp52, hp53, hp54, hH61, hT55, hT56, hT57, hT58, hT59, hT60⟩ := hI50
      refine C_seq  (C_region  (O_p (.b (decide ((((k : Nat)) : Int) < (((en : Nat)) : Int)))) (r_lss hT60 hT59) (O_nil  (C_seq  ?_))))
      refine C_cond (x := (decide ((((k : Nat)) : Int) < (((en : Nat)) : Int)))) rfl (fun hc62 => ?_) (fun hc62 => ?_)
      ·
        try simp only [dz1, dz2, dz3, dz4, dz5, dz6, dz7, dz8, dz9] at hc62
        refine C_skip  (C_seq  (C_block  (C_seq  (C_region  ?_))))
        have hol : os.length ≤ k := by rw [hp54]; exact fwO_len
        have hjl : k < q.length := by omega
        obtain ⟨x, hxj⟩ : ∃ e, q[k]? = some e := ⟨_, List.getElem?_eq_getElem hjl⟩
        have hH63 := (hH61.top3)
        have hH64 := En.out hxj hH63
        have hxe := en_e hxj
        refine O_q (by exact Rw.row (hw38 _ _ hH64.top4) (by exact hT58) (i := k) (by exact hT60) (r := [(.p (some (x.n, 0)))]) ((List.getElem?_take_of_lt (by omega)).trans (pr_get hxj))) fun v66 hv65 => ?_
        obtain ⟨rb67, ro68, rfl, hr69⟩ := hv65
        refine O_p (pT x.n 0) (r_ldR (q := 0) rfl (hr69 _ (hw38 _ _ hH64.top4)) rfl) (pv (pT x.n 0) rfl (O_nil  (C_seq  (C_seq  (C_region  (pv (pT x.n 0) rfl (O_p (pT x.n 0) (r_nilc rfl) (pf (pT x.n 13) rfl rfl (O_p (.i .i64 x.e.st) (r_ld rfl hH64.get0 rfl) (O_p (.b (decide (x.e.st = 3))) (r_eql rfl rfl) (pv (.b (decide (x.e.st = 3))) rfl (O_gx (e := (!(decide (x.e.st = 3)))) (v := (pT x.n 0)) (wf rfl) (fun he => (r_mv rfl)) (O_gx (e := (!(decide (x.e.st = 3)))) (v := (pT x.n 0)) (wf rfl) (fun he => (r_nilc (cond_pos he))) ?_)))))))))))))
        refine O_gx (e := (!(decide (x.e.st = 3)))) (v := (pT x.n 0)) (wf rfl) (fun he => (r_fadd' (cond_pos he) rfl)) (O_gx (e := (!(decide (x.e.st = 3)))) (v := (pT x.n 1)) (wf rfl) (fun he => (r_fadd' (cond_pos he) rfl)) (O_gx (e := (!(decide (x.e.st = 3)))) (v := (.i .u8 x.e.c.f)) (wf rfl) (fun he => (r_ld (cond_pos he) hH64.get0 rfl)) (O_gx (e := (!(decide (x.e.st = 3)))) (v := (.i .u8 (IntKind.u8.wrap ((BitVec.ofInt 8 x.e.c.f &&& BitVec.ofInt 8 4).toNat : Int)))) (wf rfl) (fun he => (r_bin (cond_pos he) rfl rfl)) (O_gx (e := (!(decide (x.e.st = 3)))) (v := (.b (!decide ((IntKind.u8.wrap ((BitVec.ofInt 8 x.e.c.f &&& BitVec.ofInt 8 4).toNat : Int)) = 0)))) (wf rfl) (fun he => (r_neq (cond_pos he) rfl)) (O_p (.b ((decide (x.e.st = 3)) || (!decide ((IntKind.u8.wrap ((BitVec.ofInt 8 x.e.c.f &&& BitVec.ofInt 8 4).toNat : Int)) = 0)))) (r_pick_or rfl rfl rfl rfl) (O_nil  ?_))))))
        refine C_cond (x := ((decide (x.e.st = 3)) || (!decide ((IntKind.u8.wrap ((BitVec.ofInt 8 x.e.c.f &&& BitVec.ofInt 8 4).toNat : Int)) = 0)))) rfl (fun hc70 => ?_) (fun hc70 => ?_)
        ·
          have hskp : x.e.st = 3 ∨ frB x.e.c.f = true := by rcases Bool.or_eq_true_iff.1 hc70 with h9 | h9; exact .inl (of_decide_eq_true h9); exact .inr h9
          refine C_exit  (nx_exit  (bk_hit  (C_region  (O_p (.i .i64 ((((k : Nat)) : Int) + 1)) (by exact (r_addi hT60 rfl (wrap_i64 (by omega) (by omega)))) (pv (.i .i64 ((((k : Nat)) : Int) + 1)) rfl (O_nil  ?_))))))
          have hH71 := ((hH64.top1).top1)
          have hH72 := En.back0 hxj hH71
          have hH73 := (((hH72.top3).top3).top3)
          exact ⟨en - (k + 1), by omega, ov, oc, os, (k + 1), rfl, by omega, hp53, by rw [fwO_at hxe]; rw [← hp54]; unfold fwS; rw [if_pos hskp], hH73, hT55, hT56, hT57, hT58, hT59, rfl⟩
        ·
          have hskp : ¬ (x.e.st = 3 ∨ frB x.e.c.f = true) := by rintro (h9 | h9); have h8 := (Bool.or_eq_false_iff.1 hc70).1; exact absurd h9 (of_decide_eq_false h8); have h8 := (Bool.or_eq_false_iff.1 hc70).2; unfold frB at h9; rw [h8] at h9; cases h9
          refine C_skip  (C_seq  ?_)
          by_cases hfx : (os.findIdx (skP x.e.c.o)) < os.length
          ·
            refine C_draw fun b74 H75 hbase76 hA77 => ?_
            have hH78 : Hs H75 (asideL b74 [11] ++ _) := hH64.aside hA77 [11] hbase76 rfl (by decide)
            have hH79 : Hs H75 ([(b74 + 11, none)] ++ _) := hH78
            refine D_l (v := (pT x.n 0)) rfl rfl rfl (r_mv rfl) (D_l (v := (pT x.n 0)) rfl rfl rfl (r_nilc rfl) (D_l (v := (pT x.n 0)) rfl rfl rfl (r_fadd' rfl rfl) (D_l (v := (pT x.n 4)) rfl rfl rfl (r_fadd' rfl rfl) (D_l (v := (pT x.n 0)) rfl rfl rfl (r_mv rfl) (D_l (v := (pT x.n 0)) rfl rfl rfl (r_nilc rfl) (D_l (v := (pT x.n 0)) rfl rfl rfl (r_fadd' rfl rfl) (D_l (v := (pT x.n 5)) rfl rfl rfl (r_fadd' rfl rfl) (D_r (v := (.i .u16 x.e.c.o)) rfl rfl rfl (r_ld rfl hH79.get1 rfl) (D_r (v := (.i .u16 x.e.c.i)) rfl rfl rfl (r_ld rfl hH79.get1 rfl) (D_l (v := (.agg [(.i .u16 x.e.c.o), (.i .u16 x.e.c.i)])) rfl rfl rfl (r_build rfl) ?_))))))))))
            refine D_m (f := fun n => ((.p (some (n, 0))), .cells [(.i .u16 0), (.i .u16 0)] true)) rfl rfl fun H81 hW82 => ?_
            have hH84 := hH79.wr0 hW82
            generalize hn83 : b74 + 11 = n80 at hW82 hH84 ⊢
            refine And.intro (And.intro (Or.inr (look_run rfl rfl (r_ld rfl hH84.get1 rfl))) (And.intro (Or.inr (look_run rfl rfl (r_ld rfl hH84.get1 rfl))) True.intro)) ?_
            refine D_store (vs := [(.i .u16 x.e.c.o), (.i .u16 x.e.c.i)]) (c' := [(.i .u16 x.e.c.o), (.i .u16 x.e.c.i)]) rfl (by rfl) hH84.get0 rfl (List.cons_ne_nil _ _) (Nat.le_of_ble_eq_true rfl) rfl fun H85 hW86 => ?_
            have hH87 := hH84.wr0 hW86
            refine And.intro (And.intro (Or.inl rfl) (And.intro (Or.inl rfl) True.intro)) (D_nil  (C_seq  (C_seq  (C_region  (pv ov hT57 (O_p (.fn (.func 46) [] [(pT n80 0)]) rfl ?_))))))
            have hH88 := ((hH87.top3).top1)
            have hH89 := ((hH88.top1).top1)
            refine O_call (Ev.mono (ixs_ev hp53 (by omega) hH89) fun v90 H91 hq92 => ?_)
            obtain ⟨hor, hH93⟩ := hq92
            rcases hor with ⟨h1, rfl⟩ | ⟨h1, rfl⟩
            · omega
            refine pv (.i .i64 ((((os.findIdx (skP x.e.c.o)) : Nat)) : Int)) rfl (O_nil  (C_seq  (C_region  (pv (.i .i64 ((((os.findIdx (skP x.e.c.o)) : Nat)) : Int)) rfl (O_p (.b true) (by exact (by rw [r_geq rfl rfl, decide_eq_true (by omega)])) (O_nil  ?_))))))
            refine C_cond (x := true) rfl (fun _ => ?_) (fun h => by cases h)
            refine C_seq  (C_region  (pv ov hT57 (pv (.i .i64 ((((os.findIdx (skP x.e.c.o)) : Nat)) : Int)) rfl (O_p (.agg [(.i .u16 x.e.c.o), (.i .u16 x.e.c.i)]) (r_ldA rfl hH93.get0 rfl) ?_))))
            obtain ⟨o, hoi⟩ : ∃ o, os[(os.findIdx (skP x.e.c.o))]? = some o := ⟨_, List.getElem?_eq_getElem hfx⟩
            refine O_q (by exact Sq.cell hp53 (sk_lens os) hH93.top1 rfl (i := (os.findIdx (skP x.e.c.o))) rfl (r := [(.i .u16 o.1), (.i .u16 o.2)]) (sk_get hoi) (by decide)) fun v95 hv94 => ?_
            obtain ⟨rb96, ro97, rfl, hrg98, hrt99, hrb100, hput101, hqs102⟩ := hv94
            refine O_store (vs := [(.i .u16 x.e.c.o), (.i .u16 x.e.c.i)]) (c' := (putAt oc (ro97 + 0) [(.i .u16 x.e.c.o), (.i .u16 x.e.c.i)])) rfl (by rfl) hrg98 rfl (List.cons_ne_nil _ _) (by have := hrb100; show _ + 2 ≤ _; omega) rfl fun H103 hW104 => ?_
            have hH106 := Hs.cong1 (Hs.wr1 (Hs.cong1 hH93 (hqs102 _)) hW104) (hqs102 _).symm
            have hSq105 := hput101 0 [(.i .u16 x.e.c.o), (.i .u16 x.e.c.i)] [(.i .u16 x.e.c.o), (.i .u16 x.e.c.i)] (Nat.le_of_ble_eq_true rfl) rfl
            refine O_nil  (C_exit  (nx_exit  (bk_hit  (C_region  (O_p (.i .i64 ((((k : Nat)) : Int) + 1)) (by exact (r_addi hT60 rfl (wrap_i64 (by omega) (by omega)))) (pv (.i .i64 ((((k : Nat)) : Int) + 1)) rfl (O_nil  ?_)))))))
            have hH107 := ((hH106.top3).top3)
            have hH108 := En.back0 hxj hH107
            have hH109 := (hH108.sub1)
            have hH110 := (((hH109.top3).top3).top3)
            exact ⟨en - (k + 1), by omega, ov, (putAt oc (ro97 + 0) [(.i .u16 x.e.c.o), (.i .u16 x.e.c.i)]), (os.set (os.findIdx (skP x.e.c.o)) (x.e.c.o, x.e.c.i)), (k + 1), rfl, by omega, by have h9 := hSq105; rw [List.map_set]; exact h9, by rw [fwO_at hxe]; rw [← hp54]; unfold fwS; rw [if_neg hskp, if_pos hfx], hH110, hT55, hT56, hT57, hT58, hT59, rfl⟩
          ·
            refine C_draw fun b111 H112 hbase113 hA114 => ?_
            have hH115 : Hs H112 (asideL b111 [11] ++ _) := hH64.aside hA114 [11] hbase113 rfl (by decide)
            have hH116 : Hs H112 ([(b111 + 11, none)] ++ _) := hH115
            refine D_l (v := (pT x.n 0)) rfl rfl rfl (r_mv rfl) (D_l (v := (pT x.n 0)) rfl rfl rfl (r_nilc rfl) (D_l (v := (pT x.n 0)) rfl rfl rfl (r_fadd' rfl rfl) (D_l (v := (pT x.n 4)) rfl rfl rfl (r_fadd' rfl rfl) (D_l (v := (pT x.n 0)) rfl rfl rfl (r_mv rfl) (D_l (v := (pT x.n 0)) rfl rfl rfl (r_nilc rfl) (D_l (v := (pT x.n 0)) rfl rfl rfl (r_fadd' rfl rfl) (D_l (v := (pT x.n 5)) rfl rfl rfl (r_fadd' rfl rfl) (D_r (v := (.i .u16 x.e.c.o)) rfl rfl rfl (r_ld rfl hH116.get1 rfl) (D_r (v := (.i .u16 x.e.c.i)) rfl rfl rfl (r_ld rfl hH116.get1 rfl) (D_l (v := (.agg [(.i .u16 x.e.c.o), (.i .u16 x.e.c.i)])) rfl rfl rfl (r_build rfl) ?_))))))))))
            refine D_m (f := fun n => ((.p (some (n, 0))), .cells [(.i .u16 0), (.i .u16 0)] true)) rfl rfl fun H118 hW119 => ?_
            have hH121 := hH116.wr0 hW119
            generalize hn120 : b111 + 11 = n117 at hW119 hH121 ⊢
            refine And.intro (And.intro (Or.inr (look_run rfl rfl (r_ld rfl hH121.get1 rfl))) (And.intro (Or.inr (look_run rfl rfl (r_ld rfl hH121.get1 rfl))) True.intro)) ?_
            refine D_store (vs := [(.i .u16 x.e.c.o), (.i .u16 x.e.c.i)]) (c' := [(.i .u16 x.e.c.o), (.i .u16 x.e.c.i)]) rfl (by rfl) hH121.get0 rfl (List.cons_ne_nil _ _) (Nat.le_of_ble_eq_true rfl) rfl fun H122 hW123 => ?_
            have hH124 := hH121.wr0 hW123
            refine And.intro (And.intro (Or.inl rfl) (And.intro (Or.inl rfl) True.intro)) (D_nil  (C_seq  (C_seq  (C_region  (pv ov hT57 (O_p (.fn (.func 46) [] [(pT n117 0)]) rfl ?_))))))
            have hH125 := ((hH124.top3).top1)
            have hH126 := ((hH125.top1).top1)
            refine O_call (Ev.mono (ixs_ev hp53 (by omega) hH126) fun v127 H128 hq129 => ?_)
            obtain ⟨hor, hH130⟩ := hq129
            rcases hor with ⟨h1, rfl⟩ | ⟨h1, rfl⟩
            rotate_left
            · omega
            refine pv (.i .i64 (-1)) rfl (O_nil  (C_seq  (C_region  (pv (.i .i64 (-1)) rfl (O_p (.b false) (by exact (by rw [r_geq rfl rfl, decide_eq_false (by omega)])) (O_nil  ?_))))))
            refine C_cond (x := false) rfl (fun h => by cases h) (fun _ => ?_)
            refine C_skip  (C_region  (pv ov hT57 (O_p (.agg [(.i .u16 x.e.c.o), (.i .u16 x.e.c.i)]) (r_ldA rfl hH130.get0 rfl) ?_)))
            refine O_bslice (c := [(.i .u16 x.e.c.o), (.i .u16 x.e.c.i)]) rfl fun n131 H132 hN133 => ?_
            have hH134 := hH130.new hN133
            refine O_qh (by exact r_appq (n := os.length) (k := 1) (new := [(.i .u16 x.e.c.o), (.i .u16 x.e.c.i)]) hH134.top2 hp53 rfl rfl rfl (src_blk hH134.get0 (by rfl)) rfl (by decide) (by decide) ((flat_len (sk_lens os)).trans (by rw [List.length_map])) (by first | omega | (simp only [List.length_take, List.length_drop, List.length_append, List.length_cons, List.length_nil, beN_len] <;> omega))) fun o135 H136 hA138 => ?_
            obtain ⟨c137, hA138, hH139⟩ := hA138
            refine pv o135 rfl (O_nil  (C_region  (O_p (.i .i64 ((((k : Nat)) : Int) + 1)) (by exact (r_addi hT60 rfl (wrap_i64 (by omega) (by omega)))) (pv (.i .i64 ((((k : Nat)) : Int) + 1)) rfl (O_nil  ?_)))))
            have hH140 := ((hH139.top4).top4)
            have hH141 := En.back0 hxj hH140
            have hH142 := ((hH141.sub2).sub2)
            have hH143 := (((hH142.top3).top3).top3)
            exact ⟨en - (k + 1), by omega, o135, c137, (os ++ [(x.e.c.o, x.e.c.i)]), (k + 1), rfl, by omega, by rw [sk_app]; exact hA138, by rw [fwO_at hxe]; rw [← hp54]; unfold fwS; rw [if_neg hskp, if_neg hfx], hH143, hT55, hT56, rfl, hT58, hT59, rfl⟩
      ·
        try simp only [dz1, dz2, dz3, dz4, dz5, dz6, dz7, dz8, dz9] at hc62
        refine C_exit  (nx_exit  (nx_exit  (bk_hit  (C_seq  (C_region  ?_)))))
        have hen1 : en - 1 < q.length := by omega
        refine pv (pT F 0) hT55 (O_p (pT F 0) (r_nilc rfl) (pf (pT F 0) rfl rfl (O_p lv (r_ld rfl hH61.get1 rfl) (pv (nI en) hT56 (O_p (.i .i64 ((((en - 1) : Nat)) : Int)) (by exact (r_subn (a := en) (b := 1) rfl rfl (by omega) (by omega))) ?_)))))
        obtain ⟨x, hxj⟩ : ∃ e, q[en - 1]? = some e := ⟨_, List.getElem?_eq_getElem hen1⟩
        refine O_q (by exact Rw.row (hlv.rd hH61.top2 (pr_lens q) (by decide)) rfl (i := (en - 1)) rfl (r := [(.p (some (x.n, 0)))]) (pr_get hxj)) fun v145 hv144 => ?_
        obtain ⟨rb146, ro147, rfl, hr148⟩ := hv144
        refine O_p (pT x.n 0) (by exact (r_ldR (q := 0) rfl (hr148 _ (hlv.rd hH61.top2 (pr_lens q) (by decide))) rfl)) ?_
        have hH149 := (hH61.top3)
        have hH150 := En.out hxj hH149
        refine O_p (pT x.n 0) (r_nilc rfl) (pf (pT x.n 0) rfl rfl (pf (pT x.n 2) rfl rfl (O_p (.i .u32 x.e.a) (r_ld rfl hH150.get0 rfl) (pv ov hT57 (pv (.i .u32 x.e.a) rfl (pv ov rfl (pv (.b true) rfl (O_nil  (C_ret  ?_)))))))))
        have hH151 := ((hH150.top1).top1)
        have hH152 := En.back0 hxj hH151
        have hH153 := (((hH152.top3).top3).top3)
        have hken : k = en := by omega
        have hM : fwM (q.map En.e) nx = x.e.a := by unfold fwM; rw [if_neg (by omega), ← hen, en_e hxj]
        exact ⟨.inr rfl, _, resL_cons (r_tmp (v := (.i .u32 x.e.a)) rfl) (resL_cons (r_tmp (v := ov) rfl) (resL_one (r_tmp (v := (.b true)) rfl))), ov, oc, by rw [hM, show decide (0 < fwX (q.map En.e)) = true from decide_eq_true (by omega)]; rfl, by rw [← hen, ← hken, ← hp54]; exact hp53, hH153⟩
set_option linter.unusedVariables false
set_option linter.unusedSimpArgs false
theorem nodata_k {H : AH} {R : HL} {c : Cx} {a : Int} {da : Option (Nat × Nat)} {dc dg : Nat} (hk : ¬ c.k = 0) (hH0 : Hs H R) : Ev tabA spA (.fn (.func 33) [] []) [.agg (cxRow c a (.sl da c.d.length dc dg))] H (fun r H' => r = .b true ∧ Hs H' R) := by
 unfold cxRow
 refine Ev_C (F := x33) rfl ?_
 refine C_seq  (C_region  ?_)
 refine O_box (z := [(.i .u8 c.k), (.i .u8 c.f), (.i .u32 a), (.i .u32 c.b), (.i .u16 c.o), (.i .u16 c.i), (.i .u32 c.p), c.x1, c.x2, c.x3, c.x4, (.sl da c.d.length dc dg)]) rfl fun n1 H2 hN3 => ?_
 have hH4 := hH0.new hN3
 refine pv (.b false) rfl (O_nil  (C_seq  (C_region  (pf (pT n1 0) rfl rfl (O_p (.i .u8 c.k) (r_ld rfl hH4.get0 rfl) (O_p (.b true) (by exact (by rw [r_neq rfl rfl, decide_eq_false hk]; rfl)) (pv (.b true) rfl (O_gf rfl (O_gf rfl (O_gf rfl (O_gf rfl (O_p (.b true) (r_pick_t rfl rfl) (pv (.b true) rfl ?_)))))))))))))
 refine O_nil  (C_ret  ?_)
 have hH5 := (hH4.sub0)
 exact ⟨.inr rfl, _, resL_one (r_tmp (v := (.b true)) rfl), rfl, hH5⟩
theorem nodata_l {H : AH} {R : HL} {c : Cx} {a : Int} {da : Option (Nat × Nat)} {dc dg : Nat} (hk : c.k = 0) (hd : c.d.length = 0) (hH0 : Hs H R) : Ev tabA spA (.fn (.func 33) [] []) [.agg (cxRow c a (.sl da c.d.length dc dg))] H (fun r H' => r = .b true ∧ Hs H' R) := by
 unfold cxRow
 refine Ev_C (F := x33) rfl ?_
 refine C_seq  (C_region  ?_)
 refine O_box (z := [(.i .u8 c.k), (.i .u8 c.f), (.i .u32 a), (.i .u32 c.b), (.i .u16 c.o), (.i .u16 c.i), (.i .u32 c.p), c.x1, c.x2, c.x3, c.x4, (.sl da c.d.length dc dg)]) rfl fun n1 H2 hN3 => ?_
 have hH4 := hH0.new hN3
 refine pv (.b false) rfl (O_nil  (C_seq  (C_region  (pf (pT n1 0) rfl rfl (O_p (.i .u8 c.k) (r_ld rfl hH4.get0 rfl) (O_p (.b false) (by exact (by rw [r_neq rfl rfl, decide_eq_true hk]; rfl)) (pv (.b false) rfl (O_gk rfl (pf (pT n1 11) rfl rfl (O_gk rfl (O_p (.sl da c.d.length dc dg) (r_ld rfl hH4.get0 rfl) (O_gk rfl (O_p (.i .i64 (((c.d.length : Nat)) : Int)) (r_len rfl) ?_)))))))))))))
 refine O_gk rfl (O_p (.b true) (by exact (by rw [r_eql rfl rfl, decide_eq_true (by omega)])) (O_p (.b true) (r_pick_f rfl rfl) (pv (.b true) rfl (O_nil  (C_ret  ?_)))))
 have hH5 := (hH4.sub0)
 exact ⟨.inr rfl, _, resL_one (r_tmp (v := (.b true)) rfl), rfl, hH5⟩
def bdC (c : Cx × Int) : Bool := !(decide (c.1.k = 0) && decide (0 < c.1.d.length))
theorem bdC_no {c : Cx × Int} (h : bdC c = false) : c.1.k = 0 ∧ 0 < c.1.d.length := by
 unfold bdC at h
 rw [Bool.not_eq_false', Bool.and_eq_true] at h
 exact ⟨of_decide_eq_true h.1, of_decide_eq_true h.2⟩
theorem nodata_gen {H : AH} {R : HL} {c : Cx} {a : Int} {da : Option (Nat × Nat)} {dc dg : Nat} (hH : Hs H R) : Ev tabA spA (.fn (.func 33) [] []) [.agg (cxRow c a (.sl da c.d.length dc dg))] H (fun r H' => r = .b (bdC (c, a)) ∧ Hs H' R) := by
  by_cases hk : c.k = 0
  · by_cases hd : 0 < c.d.length
    · rw [show bdC (c, a) = false by unfold bdC; rw [decide_eq_true hk, decide_eq_true hd]; rfl]; exact nodata_ev hk hd hH
    · rw [show bdC (c, a) = true by unfold bdC; rw [decide_eq_false hd, Bool.and_false]; rfl]; exact nodata_l hk (by omega) hH
  · rw [show bdC (c, a) = true by unfold bdC; rw [decide_eq_false hk]; rfl]; exact nodata_k hk hH
theorem ixb_ev {H : AH} {R B : HL} {v : AV} {rows : List (List AV)} {cs : List (Cx × Int)} (hv : ∀ H', Hs H' B → Rw 12 H' v rows) (hcr : CxsR B rows cs) (hbad : ∃ c ∈ cs, bdC c = true) (hcl : cs.length ≤ 1000000) (hH0 : Hs H (B ++ R)) : Ev tabA spA (.fn (.func 58) [] []) [v, .fn (.func 33) [] []] H (fun r H' => ∃ i : Nat, r = .i .i64 ((i : Nat) : Int) ∧ Hs H' (B ++ R)) := by
 refine Ev_C (F := x58) rfl ?_
 refine C_seq  (C_region  (pv (.i .i64 0) rfl (O_nil  (C_seq  (C_seq  (C_region  (pv v rfl (O_p (.i .i64 (((cs.length : Nat)) : Int)) (r_lenOf (v := v) (n := cs.length) rfl ((hv _ hH0.top0.fst).lenOf hcr.1) (hv _ hH0.top0.fst).isSl) (pv (.i .i64 0) rfl (O_nil  (C_block  ?_)))))))))))
 refine C_while (fun m1 T2 H3 => ∃ j : Nat, m1 = cs.length - j ∧ j ≤ cs.length ∧ j ≤ cs.findIdx bdC ∧ Hs H3 (B ++ (R)) ∧ T2.get 0 = v ∧ T2.get 1 = (.fn (.func 33) [] []) ∧ T2.get 7 = (.i .i64 (((cs.length : Nat)) : Int)) ∧ T2.get 8 = (.i .i64 (((j : Nat)) : Int))) (fun m1 T2 H3 hI4 => ?_) cs.length _ _ ⟨0, rfl, Nat.zero_le _, Nat.zero_le _, hH0, rfl, rfl, rfl, rfl⟩
 obtain ⟨j, hm5, hp6, hp7, hH12, hT8, hT9, hT10, hT11⟩ := hI4
 refine C_seq  (C_region  (O_p (.b (decide ((((j : Nat)) : Int) < (((cs.length : Nat)) : Int)))) (r_lss hT11 hT10) (O_nil  (C_seq  ?_))))
 refine C_cond (x := (decide ((((j : Nat)) : Int) < (((cs.length : Nat)) : Int)))) rfl (fun hc13 => ?_) (fun hc13 => ?_)
 ·
  try simp only [dz1, dz2, dz3, dz4, dz5, dz6, dz7, dz8, dz9] at hc13
  refine C_skip  (C_seq  (C_block  (C_seq  (C_region  (pv (nI j) hT11 (pv (nI j) rfl (O_nil  (C_seq  (C_region  (pv (.fn (.func 33) [] []) hT9 (pv v hT8 (pv (nI j) rfl ?_))))))))))))
  have hjl : j < cs.length := by omega
  obtain ⟨x, dv, hxi, hri, hoc⟩ := hcr.get hjl
  obtain ⟨da, dc, dg, de, dhg, dhc, dhm, dhb⟩ := hoc
  subst de
  unfold cxRow at hri
  refine O_q (by exact Rw.row (hv _ hH12.top0.fst) rfl (i := j) rfl (r := [(.i .u8 x.1.k), (.i .u8 x.1.f), (.i .u32 x.2), (.i .u32 x.1.b), (.i .u16 x.1.o), (.i .u16 x.1.i), (.i .u32 x.1.p), x.1.x1, x.1.x2, x.1.x3, x.1.x4, (.sl da x.1.d.length dc dg)]) hri) fun v15 hv14 => ?_
  obtain ⟨rb16, ro17, rfl, hr18⟩ := hv14
  refine O_p (.agg [(.i .u8 x.1.k), (.i .u8 x.1.f), (.i .u32 x.2), (.i .u32 x.1.b), (.i .u16 x.1.o), (.i .u16 x.1.i), (.i .u32 x.1.p), x.1.x1, x.1.x2, x.1.x3, x.1.x4, (.sl da x.1.d.length dc dg)]) (r_ldRA (q := 0) rfl (hr18 _ (hv _ hH12.top0.fst)) rfl) ?_
  refine O_call (Ev.mono (nodata_gen (c := x.1) (a := x.2) hH12) fun v19 H20 hq21 => ?_)
  obtain ⟨rfl, hH22⟩ := hq21
  refine O_nil  ?_
  refine C_cond (x := (bdC (x.1, x.2))) rfl (fun hc23 => ?_) (fun hc23 => ?_)
  ·
   have hPx : bdC x = true := by simpa using hc23
   refine C_seq  (C_region  (pv (nI j) rfl (pv (nI j) rfl (O_nil  (C_ret  (bk_ret  (nx_ret  (nx_ret  (bk_ret  (nx_ret  ?_))))))))))
   exact ⟨.inr rfl, _, resL_one (r_tmp (v := (.i .i64 (((j : Nat)) : Int))) rfl), _, rfl, hH22⟩
  ·
   have hPx : bdC x = false := by simpa using hc23
   refine C_skip  (C_region  (O_p (.i .i64 ((((j : Nat)) : Int) + 1)) (by exact (r_addi hT11 rfl (wrap_i64 (by omega) (by omega)))) (pv (.i .i64 ((((j : Nat)) : Int) + 1)) rfl (O_nil  ?_))))
   exact ⟨cs.length - (j + 1), by omega, (j + 1), rfl, by omega, fx_next hp7 hxi hPx, hH22, hT8, hT9, hT10, rfl⟩
 ·
  try simp only [dz1, dz2, dz3, dz4, dz5, dz6, dz7, dz8, dz9] at hc13
  refine C_exit  (nx_exit  (nx_exit  (bk_hit  (C_seq  (C_region  (pv (.i .i64 (-1)) rfl (O_nil  (C_ret  ?_))))))))
  exact absurd (List.findIdx_lt_length_of_exists hbad) (by have := hp7; omega)
theorem contb_ev {H : AH} {R B : HL} {v : AV} {rows : List (List AV)} {cs : List (Cx × Int)} (hv : ∀ H', Hs H' B → Rw 12 H' v rows) (hcr : CxsR B rows cs) (hbad : ∃ c ∈ cs, bdC c = true) (hcl : cs.length ≤ 1000000) (hH0 : Hs H (B ++ R)) : Ev tabA spA (.fn (.func 32) [] []) [v, .fn (.func 33) [] []] H (fun r H' => r = .b true ∧ Hs H' (B ++ R)) := by
 refine Ev_C (F := x32) rfl ?_
 refine C_seq  (C_region  (pv (.b false) rfl (O_nil  (C_seq  (C_region  (pv v rfl (pv (.fn (.func 33) [] []) rfl ?_)))))))
 refine O_call (Ev.mono (ixb_ev hv hcr hbad hcl hH0) fun v1 H2 hq3 => ?_)
 obtain ⟨i, rfl, hH4⟩ := hq3
 refine O_p (.b true) (by exact (by rw [r_geq rfl rfl, decide_eq_true (by omega)])) (pv (.b true) rfl (O_nil  (C_ret  ?_)))
 exact ⟨.inr rfl, _, resL_one (r_tmp (v := (.b true)) rfl), rfl, hH4⟩
theorem push_none {H : AH} {R B : HL} {F : Nat} {lv v : AV} {lc : List AV} {nx un tr : Int} {q : List En} {rows : List (List AV)} {cs : List (Cx × Int)} (hv : ∀ H', Hs H' B → Rw 12 H' v rows) (hcr : CxsR B rows cs) (hne : cs.length = 0) (hlv : Sq 1 lv lc (q.map En.pr).flatten) (hql : q.length ≤ 100000) (hH0 : Hs H ([(F, some (.cells ([lv, (.i .u32 nx)]) true))] ++ ((qseg lv lc) ++ ((q.flatMap En.seg) ++ (B ++ (R)))))) : Ev tabA spA (.fn (.func 12) [] []) [.p (some (F, 0)), v, .i .i64 un, .i .i64 tr] H (fun r H' => r = .i .i64 1 ∧ Hs H' ([(F, some (.cells ([lv, (.i .u32 nx)]) true))] ++ ((qseg lv lc) ++ ((q.flatMap En.seg) ++ (B ++ (R)))))) := by
 refine Ev_C (F := x12) rfl ?_
 refine C_seq  (C_region  (pv (.i .i64 0) rfl (O_nil  (C_seq  (C_block  (C_seq  (C_region  (pv (pT F 0) rfl (O_p (.b false) (r_nilq_s rfl) (pv (.b false) rfl (O_gk rfl (pv v rfl (O_gk rfl ?_)))))))))))))
 refine O_p (.i .i64 (((cs.length : Nat)) : Int)) (r_lenOf (v := v) (n := cs.length) rfl ((hv _ hH0.top3.fst).lenOf hcr.1) (hv _ hH0.top3.fst).isSl) (O_gk rfl (O_p (.b true) (by exact (by rw [r_eql rfl rfl, decide_eq_true (by omega)])) (O_p (.b true) (r_pick_f rfl rfl) (pv (.b true) rfl (O_gf rfl (O_gf rfl (O_p (.b true) (r_pick_t rfl rfl) (pv (.b true) rfl (O_nil  ?_)))))))))
 refine C_cond (x := true) rfl (fun _ => ?_) (fun h => by cases h)
 refine C_seq  (C_region  (pv (.i .i64 1) rfl (O_nil  (C_ret  (bk_ret  (nx_ret  ?_))))))
 have hH1 := ((((hH0.top3).top3).top3).top3)
 exact ⟨.inr rfl, _, resL_one (r_tmp (v := (.i .i64 1)) rfl), rfl, hH1⟩
theorem push_badc {H : AH} {R B : HL} {F : Nat} {lv v : AV} {lc : List AV} {nx un tr : Int} {q : List En} {rows : List (List AV)} {cs : List (Cx × Int)} (hv : ∀ H', Hs H' B → Rw 12 H' v rows) (hcr : CxsR B rows cs) (hne : 0 < cs.length) (hbad : ∃ c ∈ cs, bdC c = true) (hcl : cs.length ≤ 1000000) (hlv : Sq 1 lv lc (q.map En.pr).flatten) (hql : q.length ≤ 100000) (hH0 : Hs H ([(F, some (.cells ([lv, (.i .u32 nx)]) true))] ++ ((qseg lv lc) ++ ((q.flatMap En.seg) ++ (B ++ (R)))))) : Ev tabA spA (.fn (.func 12) [] []) [.p (some (F, 0)), v, .i .i64 un, .i .i64 tr] H (fun r H' => r = .i .i64 1 ∧ Hs H' ([(F, some (.cells ([lv, (.i .u32 nx)]) true))] ++ ((qseg lv lc) ++ ((q.flatMap En.seg) ++ (B ++ (R)))))) := by
 refine Ev_C (F := x12) rfl ?_
 refine C_seq  (C_region  (pv (.i .i64 0) rfl (O_nil  (C_seq  (C_block  (C_seq  (C_region  (pv (pT F 0) rfl (O_p (.b false) (r_nilq_s rfl) (pv (.b false) rfl (O_gk rfl (pv v rfl (O_gk rfl ?_)))))))))))))
 refine O_p (.i .i64 (((cs.length : Nat)) : Int)) (r_lenOf (v := v) (n := cs.length) rfl ((hv _ hH0.top3.fst).lenOf hcr.1) (hv _ hH0.top3.fst).isSl) (O_gk rfl (O_p (.b false) (by exact (by rw [r_eql rfl rfl, decide_eq_false (by omega)])) (O_p (.b false) (r_pick_f rfl rfl) (pv (.b false) rfl (O_gk rfl (pv v rfl (O_gk rfl ?_)))))))
 have hH1 := (hH0.top3)
 refine O_call (Ev.mono (contb_ev hv hcr hbad hcl hH1) fun v2 H3 hq4 => ?_)
 obtain ⟨rfl, hH5⟩ := hq4
 refine O_p (.b true) (r_pick_f rfl rfl) (pv (.b true) rfl (O_nil  ?_))
 refine C_cond (x := true) rfl (fun _ => ?_) (fun h => by cases h)
 refine C_seq  (C_region  (pv (.i .i64 1) rfl (O_nil  (C_ret  (bk_ret  (nx_ret  ?_))))))
 have hH6 := (((hH5.top3).top3).top3)
 exact ⟨.inr rfl, _, resL_one (r_tmp (v := (.i .i64 1)) rfl), rfl, hH6⟩
theorem next_raw {H : AH} {R : HL} {F : Nat} {lv : AV} {lc : List AV} {nx : Int} {q : List En} (hlv : Sq 1 lv lc (q.map En.pr).flatten) (hH0 : Hs H ([(F, some (.cells ([lv, (.i .u32 nx)]) true))] ++ ((qseg lv lc) ++ ((q.flatMap En.seg) ++ (R))))) : Ev tabA spA (.fn (.func 31) [] []) [.p (some (F, 0))] H (fun r H' => r = .i .u32 nx ∧ Hs H' ([(F, some (.cells ([lv, (.i .u32 nx)]) true))] ++ ((qseg lv lc) ++ ((q.flatMap En.seg) ++ (R))))) := by
 refine Ev_C (F := x31) rfl ?_
 refine C_seq  (C_region  (pv (.i .u32 0) rfl (O_nil  (C_seq  (C_seq  (C_region  (pv (pT F 0) rfl (O_p (.b false) (r_nilq_s rfl) (O_nil  ?_)))))))))
 refine C_cond (x := false) rfl (fun h => by cases h) (fun _ => ?_)
 refine C_skip  (C_seq  (C_region  (pv (pT F 0) rfl (O_p (pT F 0) (r_nilc rfl) (pf (pT F 1) rfl rfl (O_p (.i .u32 nx) (r_ld rfl hH0.get0 rfl) (pv (.i .u32 nx) rfl (O_nil  (C_ret  ?_)))))))))
 have hH1 := (((hH0.top2).top2).top2)
 exact ⟨.inr rfl, _, resL_one (r_tmp (v := (.i .u32 nx)) rfl), rfl, hH1⟩
set_option linter.unusedVariables false
set_option linter.unusedSimpArgs false
theorem Hs.t3 {H : AH} {A B C P Z : HL} (h : Hs H (A ++ (B ++ (C ++ (P ++ Z))))) : Hs H (A ++ (B ++ (C ++ (Z ++ P)))) :=
 Hs.perm h (List.Perm.append_left A (List.Perm.append_left B (List.Perm.append_left C List.perm_append_comm)))
theorem Hs.t4 {H : AH} {A B C E P Z : HL} (h : Hs H (A ++ (B ++ (C ++ (E ++ (P ++ Z)))))) : Hs H (A ++ (B ++ (C ++ (E ++ (Z ++ P))))) :=
 Hs.perm h (List.Perm.append_left A (List.Perm.append_left B (List.Perm.append_left C (List.Perm.append_left E List.perm_append_comm))))
def Qp (F : Nat) (es : List Ea) (ms : List Nat) (pl : List Po) (nx : Int) (D L : HL) : Prop := ∃ (lv : AV) (lc : List AV) (q : List En), q.map En.e = es ∧ q.map En.m = ms ∧ Sq 1 lv lc (q.map En.pr).flatten ∧ (∀ x ∈ q, OctIn D x.dv x.e.c.d) ∧ (∀ m ∈ ms, ∃ p ∈ pl, p.m = m) ∧ L = [(F, some (.cells [lv, .i .u32 nx] true))] ++ (qseg lv lc ++ (q.flatMap En.seg ++ pl.flatMap Po.seg))
section
variable {H : AH} {F : Nat} {es : List Ea} {ms : List Nat} {pl : List Po} {nx : Int} {D L R B : HL}
theorem Qp.len (h : Qp F es ms pl nx D L) : ms.length = es.length := by
 obtain ⟨lv, lc, q, rfl, rfl, _⟩ := h
 rw [List.length_map, List.length_map]
theorem Qp.mem (h : Qp F es ms pl nx D L) : ∀ m ∈ ms, ∃ p ∈ pl, p.m = m := by
 obtain ⟨lv, lc, q, _, _, _, _, h5, _⟩ := h
 exact h5
theorem Qp.qr (h : Qp F es ms pl nx D L) : ∃ L1, Qr F es nx D L1 ∧ ∀ H R, Hs H (L ++ R) ↔ Hs H (L1 ++ (pl.flatMap Po.seg ++ R)) := by
 obtain ⟨lv, lc, q, h1, _, h3, h4, _, rfl⟩ := h
 refine ⟨_, ⟨lv, lc, q, h1, h3, h4, rfl⟩, fun H R => ?_⟩
 rw [List.append_assoc, List.append_assoc, List.append_assoc, List.append_assoc, List.append_assoc]
theorem qp_new0 (a : Int) : Qp F [] [] [] a [] ([(F, some (.cells [.sl none 0 0 0, .i .u32 a] true))] ++ []) := ⟨.sl none 0 0 0, [], [], rfl, rfl, Sq.nil, fun x hx => (by cases hx), fun x hx => (by cases hx), rfl⟩
theorem qp_floor (h : Qp F es ms pl nx D L) (hH : Hs H (L ++ R)) : Ev tabA spA (.fn (.func 17) [] []) [.p (some (F, 0))] H (fun r H' => r = .i .u32 (floorA nx es.length) ∧ Hs H' (L ++ R)) := by
 obtain ⟨L1, h1, h2⟩ := h.qr
 exact Ev.mono (q_floor h1 ((h2 _ _).1 hH)) fun r H2 hq => ⟨hq.1, (h2 _ _).2 hq.2⟩
theorem qp_len (h : Qp F es ms pl nx D L) (hH : Hs H (L ++ R)) : Ev tabA spA (.fn (.func 18) [] []) [.p (some (F, 0))] H (fun r H' => r = .i .i64 ((es.length : Nat) : Int) ∧ Hs H' (L ++ R)) := by
 obtain ⟨L1, h1, h2⟩ := h.qr
 exact Ev.mono (q_len h1 ((h2 _ _).1 hH)) fun r H2 hq => ⟨hq.1, (h2 _ _).2 hq.2⟩
theorem qp_flying (h : Qp F es ms pl nx D L) (hl : es.length ≤ 100000) (hsz : ∀ e ∈ es, e.c.d.length ≤ 1000000) (hH : Hs H (L ++ R)) : Ev tabA spA (.fn (.func 19) [] []) [.p (some (F, 0))] H (fun r H' => r = .i .i64 ((octs [1] es : Nat) : Int) ∧ Hs H' (L ++ R)) := by
 obtain ⟨L1, h1, h2⟩ := h.qr
 exact Ev.mono (q_flying h1 hl hsz ((h2 _ _).1 hH)) fun r H2 hq => ⟨hq.1, (h2 _ _).2 hq.2⟩
theorem qp_left (h : Qp F es ms pl nx D L) (hl : es.length ≤ 100000) (hsz : ∀ e ∈ es, e.c.d.length ≤ 1000000) (hH : Hs H (L ++ R)) : Ev tabA spA (.fn (.func 20) [] []) [.p (some (F, 0))] H (fun r H' => r = .i .i64 ((octs [0, 2] es : Nat) : Int) ∧ Hs H' (L ++ R)) := by
 obtain ⟨L1, h1, h2⟩ := h.qr
 exact Ev.mono (q_left h1 hl hsz ((h2 _ _).1 hH)) fun r H2 hq => ⟨hq.1, (h2 _ _).2 hq.2⟩
theorem qp_next (h : Qp F es ms pl nx D L) (hH : Hs H (L ++ R)) : Ev tabA spA (.fn (.func 31) [] []) [.p (some (F, 0))] H (fun r H' => r = .i .u32 nx ∧ Hs H' (L ++ R)) := by
 obtain ⟨lv, lc, q, rfl, rfl, h3, h4, h5, rfl⟩ := h
 rw [List.append_assoc, List.append_assoc, List.append_assoc] at *
 exact next_raw h3 hH
theorem qp_state_no {a : Int} {n : Nat} (h : Qp F es ms pl nx D L) (hl : es.length ≤ 100000) (hcum : w32 (a - floorA nx es.length) = ((n : Nat) : Int)) (hn : n < 1 ∨ es.length < n) (hH : Hs H (L ++ R)) : Ev tabA spA (.fn (.func 24) [] []) [.p (some (F, 0)), .i .u32 a] H (fun r H' => r = .tup [.i .i64 0, .b false] ∧ Hs H' (L ++ R)) := by
  obtain ⟨lv, lc, q, rfl, rfl, h3, h4, h5, rfl⟩ := h
  rw [List.append_assoc, List.append_assoc, List.append_assoc] at *
  rw [List.length_map] at *
  by_cases h1 : n < 1
  · exact state_low h3 hl hcum h1 hH
  · exact state_far h3 hl hcum (by omega) (by omega) hH
theorem qp_state_yes {a : Int} {n : Nat} {e : Ea} (h : Qp F es ms pl nx D L) (hl : es.length ≤ 100000) (hcum : w32 (a - floorA nx es.length) = ((n : Nat) : Int)) (hn : 1 ≤ n) (he : es[n - 1]? = some e) (hH : Hs H (L ++ R)) : Ev tabA spA (.fn (.func 24) [] []) [.p (some (F, 0)), .i .u32 a] H (fun r H' => r = .tup [.i .i64 e.st, .b true] ∧ Hs H' (L ++ R)) := by
  obtain ⟨lv, lc, q, rfl, rfl, h3, h4, h5, rfl⟩ := h
  rw [List.append_assoc, List.append_assoc, List.append_assoc] at *
  rw [List.length_map] at *
  rw [List.getElem?_map] at he
  cases hx : q[n - 1]? with
  | none => rw [hx] at he; cases he
  | some x =>
    rw [hx] at he
    simp only [Option.map_some, Option.some.injEq] at he
    rw [← he]
    exact state_yes h3 hl hcum hn hx hH
theorem qp_forward (h : Qp F es ms pl nx D L) (hl : es.length ≤ 100000) (hH : Hs H (L ++ R)) : Ev tabA spA (.fn (.func 27) [] []) [.p (some (F, 0))] H (fun r H' => ∃ ov oc, r = .tup [.i .u32 (fwM es nx), ov, .b (decide (0 < fwX es))] ∧ Sq 2 ov oc ((fwO (es.take (fwX es))).map skR).flatten ∧ Hs H' (qseg ov oc ++ (L ++ R))) := by
 obtain ⟨lv, lc, q, rfl, rfl, h3, h4, h5, rfl⟩ := h
 rw [List.append_assoc, List.append_assoc, List.append_assoc] at *
 rw [List.length_map] at *
 exact forward_raw h3 hl hH
theorem qp_take {now room : Int} (h : Qp F es ms pl nx D L) (hl : es.length ≤ 100000) (hsz : ∀ e ∈ es, e.c.d.length ≤ 1000000) (hse : ∀ e ∈ es, 0 ≤ e.sent ∧ e.sent ≤ 1000000) (hrm : room ≤ 9223372036854775807) (hH : Hs H (L ++ (D ++ R))) :
  Ev tabA spA (.fn (.func 14) [] []) [.p (some (F, 0)), .i .i64 now, .i .i64 room] H (fun r H' => ∃ L' D' ov oc rows, r = ov ∧ Qp F (take2 now es room).1 ms pl nx D' L' ∧ Sq 12 ov oc rows.flatten ∧ CxsR D' rows ((take2 now es room).2.map Ea.ca) ∧ (∀ H', Hs H' D' → Hs H' D) ∧ Hs H' (qseg ov oc ++ (L' ++ (D' ++ R)))) := by
 obtain ⟨lv, lc, q, rfl, rfl, h3, h4, h5, rfl⟩ := h
 rw [List.append_assoc, List.append_assoc, List.append_assoc] at hH
 have hH2 := hH.t3
 rw [List.append_assoc] at hH2
 rw [List.length_map] at hl
 refine Ev.mono (take_raw h3 hl h4 hsz hse hrm hH2) fun r H2 hq => ?_
 obtain ⟨q2, ov, oc, rows, D2, rfl, hn, he, ho, hc, hok2, hm, hh⟩ := hq
 refine ⟨_, D2, r, oc, rows, rfl, ⟨lv, lc, q2, he, nm_m hn, by rw [pr_map hn]; exact h3, hok2, h5, rfl⟩, ho, hc, hm, ?_⟩
 rw [List.append_assoc, List.append_assoc, List.append_assoc]
 rw [← List.append_assoc D2 R] at hh
 exact hh.t4
theorem qp_timeout (h : Qp F es ms pl nx D L) (hl : es.length ≤ 100000) (hH : Hs H (L ++ R)) : Ev tabA spA (.fn (.func 22) [] []) [.p (some (F, 0))] H (fun r H' => ∃ L', r = .i .i64 ((tcn es : Nat) : Int) ∧ Qp F (es.map toE) ms pl nx D L' ∧ Hs H' (L' ++ R)) := by
 obtain ⟨lv, lc, q, rfl, rfl, h3, h4, h5, rfl⟩ := h
 rw [List.append_assoc, List.append_assoc, List.append_assoc] at *
 rw [List.length_map] at *
 refine Ev.mono (timeout_raw h3 hl h4 hH) fun r H2 hq => ?_
 obtain ⟨q2, rfl, hn, he, hok2, hh⟩ := hq
 exact ⟨_, rfl, ⟨lv, lc, q2, he, nm_m hn, by rw [pr_map hn]; exact h3, hok2, h5, rfl⟩, by rw [List.append_assoc, List.append_assoc, List.append_assoc]; exact hh⟩
theorem qp_ack {v : AV} {rows : List (List AV)} {bl : List (Int × Int)} {cum now : Int} {n : Nat} (h : Qp F es ms pl nx D L) (hv : ∀ H', Hs H' B → Rw 2 H' v rows) (hbr : BksR rows bl) (hbl : bl.length ≤ 100000) (hl : es.length ≤ 100000) (hsz : ∀ e ∈ es, e.c.d.length ≤ 1000000) (hcum : w32 (cum - floorA nx es.length) = ((n : Nat) : Int)) (hn : n ≤ es.length) (hno : ∀ e ∈ es.take n, ¬ e.st = 0) (hnow : 0 ≤ now ∧ now ≤ 4611686018427387904) (htm : ∀ e ∈ es, 0 ≤ e.tm ∧ e.tm ≤ 4611686018427387904) (hmi : ∀ e ∈ es, 0 ≤ e.mi ∧ e.mi ≤ 1000000) (hH : Hs H (L ++ (B ++ R))) :
  Ev tabA spA (.fn (.func 15) [] []) [.p (some (F, 0)), .i .u32 cum, v, .i .i64 now] H (fun r H' => ∃ L', r = .tup [.agg [.i .i64 ((ackB bl es n : Nat) : Int), .i .i64 (drS now (es.take n) (-1)), .b (ackL bl es n), .b (decide ((0 : Int) < ((n : Nat) : Int)))], .b true] ∧ Qp F (ackE bl es n) (ms.drop n) pl nx D L' ∧ Hs H' (L' ++ (B ++ R))) := by
 obtain ⟨lv, lc, q, rfl, rfl, h3, h4, h5, rfl⟩ := h
 rw [List.append_assoc, List.append_assoc, List.append_assoc] at hH
 have hH2 := hH.t3
 rw [List.append_assoc] at hH2
 rw [List.length_map] at hcum hn hl
 refine Ev.mono (ack_raw h3 hl h4 hsz hv hbr hbl hcum hn hno hnow htm hmi hH2) fun r H2 hq => ?_
 obtain ⟨q2, lv2, lc2, rfl, he, hm2, hl2, hok2, hh⟩ := hq
 refine ⟨_, rfl, ⟨lv2, lc2, q2, he, hm2, hl2, hok2, fun m hm => h5 m (List.mem_of_mem_drop hm), rfl⟩, ?_⟩
 rw [List.append_assoc, List.append_assoc, List.append_assoc]
 rw [← List.append_assoc B R] at hh
 exact hh.t3
theorem qp_ackno {v : AV} {cum now : Int} {n : Nat} (h : Qp F es ms pl nx D L) (hl : es.length ≤ 100000) (hcum : w32 (cum - floorA nx es.length) = ((n : Nat) : Int)) (hno : es.length < n ∨ ∃ e ∈ es.take n, e.st = 0) (hH : Hs H (L ++ R)) :
  Ev tabA spA (.fn (.func 15) [] []) [.p (some (F, 0)), .i .u32 cum, v, .i .i64 now] H (fun r H' => r = .tup [.agg [.i .i64 0, .i .i64 0, .b false, .b false], .b false] ∧ Hs H' (L ++ R)) := by
 obtain ⟨lv, lc, q, rfl, rfl, h3, h4, h5, rfl⟩ := h
 rw [List.append_assoc, List.append_assoc, List.append_assoc] at *
 rw [List.length_map] at *
 exact ackno_raw h3 hl hcum hno hH
theorem qp_pushno {v : AV} {rows : List (List AV)} {cs : List (Cx × Int)} {un tr : Int} (h : Qp F es ms pl nx D L) (hv : ∀ H', Hs H' B → Rw 12 H' v rows) (hcr : CxsR B rows cs) (hcl : cs.length ≤ 1000000) (hl : es.length ≤ 100000) (hbad : cs.length = 0 ∨ ∃ c ∈ cs, bdC c = true) (hH : Hs H (L ++ (B ++ R))) :
    Ev tabA spA (.fn (.func 12) [] []) [.p (some (F, 0)), v, .i .i64 un, .i .i64 tr] H (fun r H' => r = .i .i64 1 ∧ Hs H' (L ++ (B ++ R))) := by
  obtain ⟨lv, lc, q, rfl, rfl, h3, h4, h5, rfl⟩ := h
  rw [List.append_assoc, List.append_assoc, List.append_assoc] at hH ⊢
  have hH2 := hH.t3
  rw [List.append_assoc] at hH2
  rw [List.length_map] at hl
  have fin : ∀ r H2, (r = AV.i .i64 1 ∧ Hs H2 ([(F, some (.cells [lv, .i .u32 nx] true))] ++ (qseg lv lc ++ (q.flatMap En.seg ++ (B ++ (R ++ pl.flatMap Po.seg)))))) → (r = AV.i .i64 1 ∧ Hs H2 ([(F, some (.cells [lv, .i .u32 nx] true))] ++ (qseg lv lc ++ (q.flatMap En.seg ++ (pl.flatMap Po.seg ++ (B ++ R)))))) := fun r H2 hq => by
    obtain ⟨h8, hh⟩ := hq
    rw [← List.append_assoc B R] at hh
    exact ⟨h8, hh.t3⟩
  by_cases h0 : cs.length = 0
  · exact Ev.mono (push_none hv hcr h0 h3 hl hH2) fin
  · exact Ev.mono (push_badc hv hcr (by omega) (hbad.resolve_left h0) hcl h3 hl hH2) fin
theorem qp_push {v : AV} {rows : List (List AV)} {cs : List (Cx × Int)} {un tr : Int} (h : Qp F es ms pl nx D L) (hv : ∀ H', Hs H' B → Rw 12 H' v rows) (hcr : CxsR B rows cs) (hgood : ∀ c ∈ cs, bdC c = false) (hne : 0 < cs.length) (hfit : es.length + cs.length ≤ 1024) (hsz : ∀ c ∈ cs, c.1.d.length ≤ 1000000) (hnx : 0 ≤ nx ∧ nx < 4294967296) (hH : Hs H (L ++ (D ++ (B ++ R)))) :
    Ev tabA spA (.fn (.func 12) [] []) [.p (some (F, 0)), v, .i .i64 un, .i .i64 tr] H (fun r H' => ∃ L' D' m, r = .i .i64 0 ∧ Qp F (es ++ pushA cs nx) (ms ++ List.replicate cs.length m) (pl ++ [⟨m, un, tr, false⟩]) (w32 (nx + ((cs.length : Nat) : Int))) D' L' ∧ (∀ H', Hs H' D' → Hs H' D) ∧ Hs H' (L' ++ (D' ++ (B ++ R)))) := by
  obtain ⟨lv, lc, q, rfl, rfl, h3, h4, h5, rfl⟩ := h
  rw [List.append_assoc, List.append_assoc, List.append_assoc] at hH
  have hH2 := hH.t3
  rw [List.append_assoc, List.append_assoc] at hH2
  rw [List.length_map] at hfit
  refine Ev.mono (push_raw hv hcr (fun c hc => bdC_no (hgood c hc)) hne hfit hsz hnx h3 h4 hH2) fun r H2 hq => ?_
  obtain ⟨q2, lv2, lc2, m, D2, rfl, he, hm2, hl2, hok2, hm, hh⟩ := hq
  refine ⟨_, D2, m, rfl, ⟨lv2, lc2, q2, he, hm2, hl2, hok2, fun k hk => ?_, rfl⟩, hm, ?_⟩
  · rcases List.mem_append.1 hk with h9 | h9
    · obtain ⟨p, h7, h8⟩ := h5 k h9
      exact ⟨p, List.mem_append_left _ h7, h8⟩
    · exact ⟨_, List.mem_append_right _ (List.mem_singleton.2 rfl), (List.eq_of_mem_replicate h9).symm⟩
  · rw [List.append_assoc, List.append_assoc, List.append_assoc, List.flatMap_append, List.append_assoc]
    have h9 := hh.top3
    rw [← List.append_assoc B R, ← List.append_assoc D2] at h9
    have h8 : Hs H2 ([(F, some (.cells [lv2, .i .u32 (w32 (nx + ((cs.length : Nat) : Int)))] true))] ++ (qseg lv2 lc2 ++ (q2.flatMap En.seg ++ (([(m, some (.cells [.i .i64 un, .i .i64 tr, .b false] true))] ++ (D2 ++ (B ++ R))) ++ pl.flatMap Po.seg)))) := by
      rw [List.append_assoc, List.append_assoc, List.append_assoc]; exact hh
    exact h8.t3
end
def exP (mp : List Nat) (now : Int) (s : List Po × Nat) (z : Ea × Nat) : List Po × Nat := exStep mp now s ⟨z.1, 0, z.2, .sl none 0 0 0⟩
def exE (pl : List Po) (z : Ea × Nat) : Ea := if z.1.st ∈ [0, 1, 2, 3] ∧ gvOf pl z.2 = true then z.1.setSt 4 else z.1
theorem en_zip : ∀ (q : List En), (q.map En.e).zip (q.map En.m) = q.map fun x => (x.e, x.m)
  | [] => rfl
  | x :: q => by rw [List.map_cons, List.map_cons, List.zip_cons_cons, en_zip q]; rfl
theorem exN_e {pl : List Po} {x : En} : (exN pl x).e = exE pl (x.e, x.m) := by
  unfold exN exE
  split
  · rfl
  · rfl
theorem qp_expire {H : AH} {F : Nat} {es : List Ea} {ms : List Nat} {pl : List Po} {nx now : Int} {D L R : HL} (h : Qp F es ms pl nx D L) (hl : es.length ≤ 100000) (hH : Hs H (L ++ R)) : Ev tabA spA (.fn (.func 26) [] []) [.p (some (F, 0)), .i .i64 now] H (fun r H' => ∃ (mp : List Nat) (pl2 : List Po) (n2 : Nat) (L' : HL), r = .i .i64 ((n2 : Nat) : Int) ∧ (∀ k, k ∈ mp ↔ ∃ z ∈ es.zip ms, z.1.st ∈ [0, 1, 2] ∧ z.2 = k) ∧ (es.zip ms).foldl (exP mp now) (pl, 0) = (pl2, n2) ∧ pl2.map Po.m = pl.map Po.m ∧ Qp F ((es.zip ms).map (exE pl2)) ms pl2 nx D L' ∧ Hs H' (L' ++ R)) := by
  obtain ⟨lv, lc, q, rfl, rfl, h3, h4, h5, rfl⟩ := h
  rw [List.append_assoc, List.append_assoc, List.append_assoc] at *
  rw [List.length_map] at *
  refine Ev.mono (expire_raw (now := now) h3 hl h4 (fun x hx => h5 _ (List.mem_map_of_mem hx)) hH) fun r H2 hq => ?_
  obtain ⟨mp, pl2, n2, q1, rfl, hmp, hf, hpm, rfl, hnm, hok, hh⟩ := hq
  refine ⟨mp, pl2, n2, _, rfl, fun k => (hmp k).trans ?_, ?_, hpm, ⟨lv, lc, _, ?_, nm_m hnm, by rw [pr_map hnm]; exact h3, hok, fun m hm => po_ms hpm (h5 m hm), rfl⟩, by rw [List.append_assoc, List.append_assoc, List.append_assoc]; exact hh⟩
  · rw [en_zip]
    constructor
    · rintro ⟨i, x, h1, h2, h3⟩
      exact ⟨(x.e, x.m), List.mem_map.2 ⟨x, List.mem_of_getElem? h1, rfl⟩, h2, h3⟩
    · rintro ⟨z, hz, h2, h3⟩
      obtain ⟨x, hx, rfl⟩ := List.mem_map.1 hz
      obtain ⟨i, hi⟩ := List.getElem?_of_mem hx
      exact ⟨i, x, hi, h2, h3⟩
  · rw [en_zip, List.foldl_map]; exact hf
  · rw [en_zip, List.map_map, List.map_map]
    exact List.map_congr_left fun x _ => exN_e
set_option linter.unusedVariables false
set_option linter.unusedSimpArgs false
def U16Q (r : List AV) : Prop := ∃ a b : Int, r = [.i .u16 a, .i .u16 b]
def U32Q (r : List AV) : Prop := ∃ a : Int, r = [.i .u32 a]
def PmQ (B : HL) (r : List AV) : Prop := ∃ (k : Int) (a : Option (Nat × Nat)) (c : Nat) (d : List UInt8), r = [.i .u16 k, .sl a d.length c 0] ∧ d.length ≤ 9223372036854775807 ∧ ∀ H', Hs H' B → Bs H' (.sl a d.length c 0) d
def SlQ (z : Nat) (B : HL) (Q : List AV → Prop) (v : AV) : Prop := ∃ (a : Option (Nat × Nat)) (n c : Nat) (rows : List (List AV)), v = .sl a n c 0 ∧ n ≤ 9223372036854775807 ∧ rows.length = n ∧ (∀ H', Hs H' B → Rw z H' v rows) ∧ ∀ (i : Nat) (r : List AV), rows[i]? = some r → Q r
structure CxG (B : HL) (c : Cx) : Prop where
  b : SlQ 2 B U16Q c.x1
  d : SlQ 1 B U32Q c.x2
  s : SlQ 2 B U16Q c.x3
  p : SlQ 2 B (PmQ B) c.x4
  f : 0 ≤ c.f ∧ c.f < 256
structure Op where
  w : Int
  n : Int
  m : Int
  lv : AV
  cu : Int
  bv : AV
  cs : List (Cx × Int)
  bl : List (Int × Int)
abbrev opRow (o : Op) : List AV := [.i .i64 o.w, .i .i64 o.n, .i .i64 o.m, o.lv, .i .u32 o.cu, o.bv]
structure OpG (B : HL) (o : Op) : Prop where
  l : ∃ rows, (∀ H', Hs H' B → Rw 12 H' o.lv rows) ∧ CxsR B rows o.cs
  b : ∃ rows, (∀ H', Hs H' B → Rw 2 H' o.bv rows) ∧ BksR rows o.bl
  c : ∀ c ∈ o.cs, CxG B c.1
  cu : 0 ≤ o.cu ∧ o.cu < 4294967296
  m : o.m ≤ 9223372036854775807
def OpsR (B : HL) (rows : List (List AV)) (ol : List Op) : Prop := rows.length = ol.length ∧ ∀ (i : Nat) (o : Op), ol[i]? = some o → rows[i]? = some (opRow o) ∧ OpG B o
theorem rows_ex {α : Type} {P : List AV → α → Prop} : ∀ {rows : List (List AV)}, (∀ (i : Nat) (r : List AV), rows[i]? = some r → ∃ o, P r o) → ∃ ol : List α, rows.length = ol.length ∧ ∀ (i : Nat) (o : α), ol[i]? = some o → ∃ r, rows[i]? = some r ∧ P r o
  | [], _ => ⟨[], rfl, fun i o h => by simp at h⟩
  | r :: rows, h => by
    obtain ⟨o, ho⟩ := h 0 r rfl
    obtain ⟨ol, h1, h2⟩ := rows_ex (P := P) (rows := rows) fun i r hi => h (i + 1) r (by simpa using hi)
    refine ⟨o :: ol, by rw [List.length_cons, List.length_cons, h1], fun i p hp => ?_⟩
    cases i with
    | zero =>
      simp only [List.getElem?_cons_zero, Option.some.injEq] at hp
      subst hp
      exact ⟨r, rfl, ho⟩
    | succ i => exact h2 i p (by simpa using hp)
theorem ops_ex {B : HL} {rows : List (List AV)} (h : ∀ (i : Nat) (r : List AV), rows[i]? = some r → ∃ o, r = opRow o ∧ OpG B o) : ∃ ol, OpsR B rows ol := by
 obtain ⟨ol, h1, h2⟩ := rows_ex h
 exact ⟨ol, h1, fun i o hi => by obtain ⟨r, h3, rfl, h4⟩ := h2 i o hi; exact ⟨h3, h4⟩⟩
theorem cxs_ex {B : HL} {rows : List (List AV)} (h : ∀ (i : Nat) (r : List AV), rows[i]? = some r → ∃ x : Cx × Int, (∃ dv, r = cxRow x.1 x.2 dv ∧ OctIn B dv x.1.d) ∧ CxG B x.1) : ∃ cs, CxsR B rows cs ∧ ∀ c ∈ cs, CxG B c.1 := by
  obtain ⟨ol, h1, h2⟩ := rows_ex h
  refine ⟨ol, ⟨h1, fun i o hi => ?_⟩, fun c hc => ?_⟩
  · obtain ⟨r, h3, ⟨dv, rfl, h4⟩, _⟩ := h2 i o hi; exact ⟨dv, h3, h4⟩
  · obtain ⟨i, hi⟩ := List.getElem?_of_mem hc
    obtain ⟨r, h3, _, h4⟩ := h2 i c hi; exact h4
def OpF (o : Op) : Prop := o.cs.length ≤ 10 ∧ o.bl.length ≤ 20 ∧ ∀ c ∈ o.cs, c.1.d.length ≤ 1200
def FewP (ol : List Op) : Prop := ol.length ≤ 40 ∧ ∀ o ∈ ol, OpF o
theorem wf_i64 {a : Int} (h : (Lit.int .i64 a).wf = true) : a ≤ 9223372036854775807 := by simp [Lit.wf, IntKind.wrap, IntKind.signed, IntKind.bits, IntKind.min, IntKind.max] at h; omega
theorem wf_u32 {a : Int} (h : (Lit.int .u32 a).wf = true) : 0 ≤ a ∧ a < 4294967296 := by simp [Lit.wf, IntKind.wrap, IntKind.signed, IntKind.bits, IntKind.min, IntKind.max] at h; omega
theorem wf_u8 {a : Int} (h : (Lit.int .u8 a).wf = true) : 0 ≤ a ∧ a < 256 := by simp [Lit.wf, IntKind.wrap, IntKind.signed, IntKind.bits, IntKind.min, IntKind.max] at h; omega
set_option maxRecDepth 100000
theorem bkT {H : AH} {k : Nat} {r : List AV} (h : Typed Try.prog H (k + 3) 119 r) : U16Q r := by
  obtain ⟨hl, hq⟩ := struct_parts (qs := [(29, 0, 1), (29, 1, 1)]) Try.underlying119 h (by kernel_rfl)
  rw [show Try.prog.cellsOf 119 = 2 by kernel_rfl] at hl
  obtain ⟨x0, x1, rfl⟩ : ∃ a b, r = [a, b] := by
    match r, hl with
    | [a, b], _ => exact ⟨a, b, rfl⟩
  simp only [List.forall_mem_cons, List.drop_zero, List.drop_succ_cons, List.take_succ_cons, List.take_zero] at hq
  obtain ⟨q0, q1, _⟩ := hq
  obtain ⟨n0, e0, w0⟩ := typed_int Try.underlying29 q0
  obtain ⟨n1, e1, w1⟩ := typed_int Try.underlying29 q1
  cases e0; cases e1
  exact ⟨n0, n1, rfl⟩
theorem skT {H : AH} {k : Nat} {r : List AV} (h : Typed Try.prog H (k + 3) 63 r) : U16Q r := by
  obtain ⟨hl, hq⟩ := struct_parts (qs := [(29, 0, 1), (29, 1, 1)]) Try.underlying63 h (by kernel_rfl)
  rw [show Try.prog.cellsOf 63 = 2 by kernel_rfl] at hl
  obtain ⟨x0, x1, rfl⟩ : ∃ a b, r = [a, b] := by
    match r, hl with
    | [a, b], _ => exact ⟨a, b, rfl⟩
  simp only [List.forall_mem_cons, List.drop_zero, List.drop_succ_cons, List.take_succ_cons, List.take_zero] at hq
  obtain ⟨q0, q1, _⟩ := hq
  obtain ⟨n0, e0, w0⟩ := typed_int Try.underlying29 q0
  obtain ⟨n1, e1, w1⟩ := typed_int Try.underlying29 q1
  cases e0; cases e1
  exact ⟨n0, n1, rfl⟩
set_option maxRecDepth 100000 in
theorem blT {H : AH} {k : Nat} {r : List AV} (h : Typed Try.prog H (k + 3) 119 r) : ∃ b : Int × Int, r = [.i .u16 b.1, .i .u16 b.2] ∧ (0 ≤ b.1 ∧ b.1 < 65536) ∧ 0 ≤ b.2 ∧ b.2 < 65536 := by
  obtain ⟨hl, hq⟩ := struct_parts (qs := [(29, 0, 1), (29, 1, 1)]) Try.underlying119 h (by kernel_rfl)
  rw [show Try.prog.cellsOf 119 = 2 by kernel_rfl] at hl
  obtain ⟨x0, x1, rfl⟩ : ∃ a b, r = [a, b] := by
    match r, hl with
    | [a, b], _ => exact ⟨a, b, rfl⟩
  simp only [List.forall_mem_cons, List.drop_zero, List.drop_succ_cons, List.take_succ_cons, List.take_zero] at hq
  obtain ⟨q0, q1, _⟩ := hq
  obtain ⟨n0, e0, w0⟩ := typed_int Try.underlying29 q0
  obtain ⟨n1, e1, w1⟩ := typed_int Try.underlying29 q1
  cases e0; cases e1
  exact ⟨(n0, n1), rfl, by simp [Lit.wf, IntKind.wrap, IntKind.signed, IntKind.bits, IntKind.min, IntKind.max] at w0; omega, by simp [Lit.wf, IntKind.wrap, IntKind.signed, IntKind.bits, IntKind.min, IntKind.max] at w1; omega⟩
theorem pmT {H : AH} {k : Nat} (hok : H.Ok) {r : List AV} (h : Typed Try.prog H (k + 3) 127 r) : PmQ (allL H) r := by
  obtain ⟨hl, hq⟩ := struct_parts (qs := [(29, 0, 1), (33, 1, 1)]) Try.underlying127 h (by kernel_rfl)
  rw [show Try.prog.cellsOf 127 = 2 by kernel_rfl] at hl
  obtain ⟨x0, x1, rfl⟩ : ∃ a b, r = [a, b] := by
    match r, hl with
    | [a, b], _ => exact ⟨a, b, rfl⟩
  simp only [List.forall_mem_cons, List.drop_zero, List.drop_succ_cons, List.take_succ_cons, List.take_zero] at hq
  obtain ⟨q0, q1, _⟩ := hq
  obtain ⟨n0, e0, w0⟩ := typed_int Try.underlying29 q0
  cases e0
  obtain ⟨da, dn, dc, d, rfl, hb, rfl, hc, hm⟩ := typed_bytes Try.underlying33 Try.underlying5 (by kernel_rfl) q1
  exact ⟨n0, da, dc, d, rfl, Nat.le_trans (Nat.le_trans hc hm) (by decide), fun H' hh => Bs.ro (R := []) hb hok (by rw [List.append_nil]; exact hh)⟩
theorem slB {H : AH} (hok : H.Ok) {v : AV} (h : Typed Try.prog H 5 23 [v]) : SlQ 2 (allL H) U16Q v := by
 obtain ⟨a, n, c, rfl, hnc, hcm, hr⟩ := typed_recs (z := 2) Try.underlying23 (by kernel_rfl) h
 obtain ⟨rows, hrw, hrl, hr⟩ := Rw.given hnc hr
 exact ⟨a, n, c, rows, rfl, Nat.le_trans (Nat.le_trans hnc hcm) (by decide), hrl, fun H' hh => hrw.ro (R := []) hok (by rw [List.append_nil]; exact hh), fun i r hi => bkT (k := 1) (hr i r hi)⟩
theorem slD {H : AH} (hok : H.Ok) {v : AV} (h : Typed Try.prog H 5 30 [v]) : SlQ 1 (allL H) U32Q v := by
 obtain ⟨a, n, c, rfl, hnc, hcm, hr⟩ := typed_recs (z := 1) Try.underlying30 (by kernel_rfl) h
 obtain ⟨rows, hrw, hrl, hr⟩ := Rw.given hnc hr
 exact ⟨a, n, c, rows, rfl, Nat.le_trans (Nat.le_trans hnc hcm) (by decide), hrl, fun H' hh => hrw.ro (R := []) hok (by rw [List.append_nil]; exact hh), fun i r hi => (by obtain ⟨x, e, _⟩ := typed_int Try.underlying22 (hr i r hi); exact ⟨x, e⟩)⟩
theorem slS {H : AH} (hok : H.Ok) {v : AV} (h : Typed Try.prog H 5 31 [v]) : SlQ 2 (allL H) U16Q v := by
 obtain ⟨a, n, c, rfl, hnc, hcm, hr⟩ := typed_recs (z := 2) Try.underlying31 (by kernel_rfl) h
 obtain ⟨rows, hrw, hrl, hr⟩ := Rw.given hnc hr
 exact ⟨a, n, c, rows, rfl, Nat.le_trans (Nat.le_trans hnc hcm) (by decide), hrl, fun H' hh => hrw.ro (R := []) hok (by rw [List.append_nil]; exact hh), fun i r hi => skT (k := 1) (hr i r hi)⟩
theorem slP {H : AH} (hok : H.Ok) {v : AV} (h : Typed Try.prog H 5 32 [v]) : SlQ 2 (allL H) (PmQ (allL H)) v := by
 obtain ⟨a, n, c, rfl, hnc, hcm, hr⟩ := typed_recs (z := 2) Try.underlying32 (by kernel_rfl) h
 obtain ⟨rows, hrw, hrl, hr⟩ := Rw.given hnc hr
 exact ⟨a, n, c, rows, rfl, Nat.le_trans (Nat.le_trans hnc hcm) (by decide), hrl, fun H' hh => hrw.ro (R := []) hok (by rw [List.append_nil]; exact hh), fun i r hi => pmT (k := 1) hok (hr i r hi)⟩
theorem chT {H : AH} (hok : H.Ok) {r : List AV} (h : Typed Try.prog H 6 35 r) : ∃ x : Cx × Int, (∃ dv, r = cxRow x.1 x.2 dv ∧ OctIn (allL H) dv x.1.d) ∧ CxG (allL H) x.1 := by
  obtain ⟨hl, hq⟩ := struct_parts (qs := [(5, 0, 1), (5, 1, 1), (22, 2, 1), (22, 3, 1), (29, 4, 1), (29, 5, 1), (22, 6, 1), (23, 7, 1), (30, 8, 1), (31, 9, 1), (32, 10, 1), (33, 11, 1)]) Try.underlying35 h (by kernel_rfl)
  rw [show Try.prog.cellsOf 35 = 12 by kernel_rfl] at hl
  obtain ⟨x0, x1, x2, x3, x4, x5, x6, x7, x8, x9, x10, x11, rfl⟩ : ∃ a b c d e f g h i j k l, r = [a, b, c, d, e, f, g, h, i, j, k, l] := by
    match r, hl with
    | [a, b, c, d, e, f, g, h, i, j, k, l], _ => exact ⟨a, b, c, d, e, f, g, h, i, j, k, l, rfl⟩
  simp only [List.forall_mem_cons, List.drop_zero, List.drop_succ_cons, List.take_succ_cons, List.take_zero] at hq
  obtain ⟨q0, q1, q2, q3, q4, q5, q6, q7, q8, q9, q10, q11, _⟩ := hq
  obtain ⟨n0, e0, w0⟩ := typed_int Try.underlying5 q0
  cases e0
  obtain ⟨n1, e1, w1⟩ := typed_int Try.underlying5 q1
  cases e1
  obtain ⟨n2, e2, w2⟩ := typed_int Try.underlying22 q2
  cases e2
  obtain ⟨n3, e3, w3⟩ := typed_int Try.underlying22 q3
  cases e3
  obtain ⟨n4, e4, w4⟩ := typed_int Try.underlying29 q4
  cases e4
  obtain ⟨n5, e5, w5⟩ := typed_int Try.underlying29 q5
  cases e5
  obtain ⟨n6, e6, w6⟩ := typed_int Try.underlying22 q6
  cases e6
  obtain ⟨da, dn, dc, d, rfl, hb, rfl, hc, hm⟩ := typed_bytes Try.underlying33 Try.underlying5 (by kernel_rfl) q11
  exact ⟨(⟨n0, n1, n3, n4, n5, n6, x7, x8, x9, x10, d⟩, n2), ⟨_, rfl, da, dc, 0, rfl, .inl rfl, hc, Nat.le_trans hm (by decide), fun H' hh => Bs.ro (R := []) hb hok (by rw [List.append_nil]; exact hh)⟩, ⟨slB hok q7, slD hok q8, slS hok q9, slP hok q10, wf_u8 w1⟩⟩
theorem opT {H : AH} (hok : H.Ok) {r : List AV} (h : Typed Try.prog H 8 55 r) : ∃ o, r = opRow o ∧ OpG (allL H) o := by
  obtain ⟨hl, hq⟩ := struct_parts (qs := [(3, 0, 1), (3, 1, 1), (3, 2, 1), (37, 3, 1), (22, 4, 1), (23, 5, 1)]) Try.underlying55 h (by kernel_rfl)
  rw [show Try.prog.cellsOf 55 = 6 by kernel_rfl] at hl
  obtain ⟨x0, x1, x2, x3, x4, x5, rfl⟩ : ∃ a b c d e f, r = [a, b, c, d, e, f] := by
    match r, hl with
    | [a, b, c, d, e, f], _ => exact ⟨a, b, c, d, e, f, rfl⟩
  simp only [List.forall_mem_cons, List.drop_zero, List.drop_succ_cons, List.take_succ_cons, List.take_zero] at hq
  obtain ⟨q0, q1, q2, q3, q4, q5, _⟩ := hq
  obtain ⟨n0, e0, w0⟩ := typed_int Try.underlying3 q0
  cases e0
  obtain ⟨n1, e1, w1⟩ := typed_int Try.underlying3 q1
  cases e1
  obtain ⟨n2, e2, w2⟩ := typed_int Try.underlying3 q2
  cases e2
  obtain ⟨n4, e4, w4⟩ := typed_int Try.underlying22 q4
  cases e4
  obtain ⟨la, ln, lc, rfl, hlc, _, hlr⟩ := typed_recs (z := 12) Try.underlying37 (by kernel_rfl) q3
  obtain ⟨lrows, hlw, _, hlt⟩ := Rw.given hlc hlr
  obtain ⟨cs, hcs, hcg⟩ := cxs_ex fun i r hi => chT hok (hlt i r hi)
  obtain ⟨ba, bn, bc, rfl, hbc, _, hbr⟩ := typed_recs (z := 2) Try.underlying23 (by kernel_rfl) q5
  obtain ⟨brows, hbw, _, hbt⟩ := Rw.given hbc hbr
  obtain ⟨bl, hbl⟩ := blks_ex fun i r hi => blT (k := 3) (hbt i r hi)
  exact ⟨⟨n0, n1, n2, _, n4, _, cs, bl⟩, rfl, ⟨⟨lrows, fun H' hh => hlw.ro (R := []) hok (by rw [List.append_nil]; exact hh), hcs⟩, ⟨brows, fun H' hh => hbw.ro (R := []) hok (by rw [List.append_nil]; exact hh), hbl⟩, hcg, wf_u32 w4, wf_i64 w2⟩⟩
set_option maxHeartbeats 1000000 in
theorem few_ev {H : AH} {R B : HL} {v : AV} {rows : List (List AV)} {ol : List Op} (hv : ∀ H', Hs H' B → Rw 6 H' v rows) (hol : OpsR B rows ol) (hH0 : Hs H (B ++ R)) : Ev tabA spA (.fn (.func 23) [] []) [v] H (fun r H' => ∃ b, r = .b b ∧ (b = true → FewP ol) ∧ Hs H' (B ++ R)) := by
 refine Ev_C (F := x23) rfl ?_
 refine C_seq  (C_region  (pv (.b false) rfl (O_nil  (C_seq  (C_seq  (C_region  (pv v rfl (O_p (.i .i64 (((ol.length : Nat)) : Int)) (r_lenOf (v := v) (n := ol.length) rfl ((hv _ hH0.top0.fst).lenOf hol.1) (hv _ hH0.top0.fst).isSl) (O_p (.b (decide (40 < (((ol.length : Nat)) : Int)))) (r_gtr rfl rfl) (O_nil  ?_))))))))))
 refine C_cond (x := (decide (40 < (((ol.length : Nat)) : Int)))) rfl (fun hc1 => ?_) (fun hc1 => ?_)
 ·
  have hol40 : ¬ ol.length ≤ 40 := by have h9 := hc1; simp only [decide_eq_true_eq, decide_eq_false_iff_not] at h9; omega
  refine C_seq  (C_region  (pv (.b false) rfl (O_nil  (C_ret  (nx_ret  ?_)))))
  exact ⟨.inr rfl, _, resL_one (r_tmp (v := .b false) rfl), false, rfl, fun h => (by cases h), hH0⟩
 ·
  have hol40 : ol.length ≤ 40 := by have h9 := hc1; simp only [decide_eq_true_eq, decide_eq_false_iff_not] at h9; omega
  refine C_skip  (C_seq  (C_seq  (C_region  (pv (.i .i64 0) rfl (O_nil  (C_block  ?_))))))
  refine C_while (fun m2 T3 H4 => ∃ i : Nat, m2 = ol.length - i ∧ i ≤ ol.length ∧ (∀ (k : Nat) (p : Op), k < i → ol[k]? = some p → OpF p) ∧ Hs H4 (B ++ (R)) ∧ T3.get 0 = v ∧ T3.get 3 = (.i .i64 (((i : Nat)) : Int))) (fun m2 T3 H4 hI5 => ?_) ol.length _ _ ⟨0, rfl, Nat.zero_le _, fun k p hk => absurd hk (Nat.not_lt_zero _), hH0, rfl, rfl⟩
  obtain ⟨i, hm6, hp7, hp8, hH11, hT9, hT10⟩ := hI5
  refine C_seq  (C_seq  (C_region  (pv (nI i) hT10 (pv v hT9 (O_p (.i .i64 (((ol.length : Nat)) : Int)) (r_lenOf (v := v) (n := ol.length) rfl ((hv _ hH11.top0.fst).lenOf hol.1) (hv _ hH11.top0.fst).isSl) (O_p (.b (decide ((((i : Nat)) : Int) < (((ol.length : Nat)) : Int)))) (r_lss rfl rfl) (O_nil  ?_)))))))
  refine C_cond (x := (decide ((((i : Nat)) : Int) < (((ol.length : Nat)) : Int)))) rfl (fun hc12 => ?_) (fun hc12 => ?_)
  ·
   try simp only [dz1, dz2, dz3, dz4, dz5, dz6, dz7, dz8, dz9] at hc12
   refine C_skip  (C_seq  (C_block  (C_seq  (C_seq  ?_))))
   have hiol : i < ol.length := by omega
   obtain ⟨o, hoi⟩ : ∃ o, ol[i]? = some o := ⟨_, List.getElem?_eq_getElem hiol⟩
   obtain ⟨hor, hog⟩ := hol.2 _ _ hoi
   obtain ⟨crows, hvl, hcr⟩ := hog.l
   obtain ⟨brows, hvb, hbr⟩ := hog.b
   by_cases hcsl : o.cs.length ≤ 10
   ·
    by_cases hbll : o.bl.length ≤ 20
    ·
     refine C_region  (pv v hT9 (pv (nI i) hT10 ?_))
     refine O_q (by exact Rw.row (hv _ hH11.top0.fst) rfl (i := i) rfl (r := [(.i .i64 o.w), (.i .i64 o.n), (.i .i64 o.m), o.lv, (.i .u32 o.cu), o.bv]) hor) fun v14 hv13 => ?_
     obtain ⟨rb15, ro16, rfl, hr17⟩ := hv13
     refine pf (.p (some (rb15, (ro16 + 3)))) rfl rfl (O_p o.lv (r_ldR (q := 3) rfl (hr17 _ (hv _ hH11.top0.fst)) rfl) (O_p (.i .i64 (((o.cs.length : Nat)) : Int)) (r_lenOf (v := o.lv) (n := o.cs.length) rfl ((hvl _ hH11.top0.fst).lenOf hcr.1) (hvl _ hH11.top0.fst).isSl) (O_p (.b false) (by exact (by rw [r_gtr rfl rfl, decide_eq_false (by omega)])) (pv (.b false) rfl (O_gk rfl (pv v hT9 (O_gk rfl (pv (nI i) hT10 (O_gk rfl ?_)))))))))
     refine O_q (by exact Rw.row (hv _ hH11.top0.fst) rfl (i := i) rfl (r := [(.i .i64 o.w), (.i .i64 o.n), (.i .i64 o.m), o.lv, (.i .u32 o.cu), o.bv]) hor) fun v19 hv18 => ?_
     obtain ⟨rb20, ro21, rfl, hr22⟩ := hv18
     refine O_gk rfl (pf (.p (some (rb20, (ro21 + 5)))) rfl rfl (O_gk rfl (O_p o.bv (r_ldR (q := 5) rfl (hr22 _ (hv _ hH11.top0.fst)) rfl) (O_gk rfl (O_p (.i .i64 (((o.bl.length : Nat)) : Int)) (by exact (r_lenOf (v := o.bv) (n := o.bl.length) rfl ((hvb _ hH11.top0.fst).lenOf (by rw [hbr.1, List.length_map])) (hvb _ hH11.top0.fst).isSl)) (O_gk rfl (O_p (.b false) (by exact (by rw [r_gtr rfl rfl, decide_eq_false (by omega)])) (O_p (.b false) (r_pick_f rfl rfl) (O_nil  ?_)))))))))
     refine C_cond (x := false) rfl (fun h => by cases h) (fun _ => ?_)
     refine C_skip  (C_seq  (C_region  (pv (.i .i64 0) rfl (O_nil  (C_block  ?_)))))
     refine C_while (fun m23 T24 H25 => ∃ j : Nat, m23 = o.cs.length - j ∧ j ≤ o.cs.length ∧ (∀ c ∈ o.cs.take j, c.1.d.length ≤ 1200) ∧ Hs H25 (B ++ (R)) ∧ T24.get 0 = v ∧ T24.get 3 = (.i .i64 (((i : Nat)) : Int)) ∧ T24.get 4 = (.i .i64 (((j : Nat)) : Int))) (fun m23 T24 H25 hI26 => ?_) o.cs.length _ _ ⟨0, rfl, Nat.zero_le _, (fun c hc => by rw [List.take_zero] at hc; cases hc), hH11, hT9, hT10, rfl⟩
     obtain ⟨j, hm27, hp28, hp29, hH33, hT30, hT31, hT32⟩ := hI26
     refine C_seq  (C_seq  (C_region  (pv (nI j) hT32 (pv v hT30 (pv (nI i) hT31 ?_)))))
     refine O_q (by exact Rw.row (hv _ hH33.top0.fst) rfl (i := i) rfl (r := [(.i .i64 o.w), (.i .i64 o.n), (.i .i64 o.m), o.lv, (.i .u32 o.cu), o.bv]) hor) fun v35 hv34 => ?_
     obtain ⟨rb36, ro37, rfl, hr38⟩ := hv34
     refine pf (.p (some (rb36, (ro37 + 3)))) rfl rfl (O_p o.lv (r_ldR (q := 3) rfl (hr38 _ (hv _ hH33.top0.fst)) rfl) (O_p (.i .i64 (((o.cs.length : Nat)) : Int)) (r_lenOf (v := o.lv) (n := o.cs.length) rfl ((hvl _ hH33.top0.fst).lenOf hcr.1) (hvl _ hH33.top0.fst).isSl) (O_p (.b (decide ((((j : Nat)) : Int) < (((o.cs.length : Nat)) : Int)))) (r_lss rfl rfl) (O_nil  ?_))))
     refine C_cond (x := (decide ((((j : Nat)) : Int) < (((o.cs.length : Nat)) : Int)))) rfl (fun hc39 => ?_) (fun hc39 => ?_)
     ·
      try simp only [dz1, dz2, dz3, dz4, dz5, dz6, dz7, dz8, dz9] at hc39
      refine C_skip  (C_seq  (C_block  (C_seq  ?_)))
      have hjl : j < o.cs.length := by omega
      obtain ⟨x, dv, hxi, hri, hoc⟩ := hcr.get hjl
      obtain ⟨da, dc, dg, de, dhg, dhc, dhm, dhb⟩ := hoc
      subst de
      unfold cxRow at hri
      have hcg := hog.c x (List.mem_of_getElem? hxi)
      obtain ⟨a7, n7, c7, r7, e7, m7, l7, _⟩ := hcg.b
      rw [e7] at hri
      obtain ⟨a8, n8, c8, r8, e8, m8, l8, _⟩ := hcg.d
      rw [e8] at hri
      obtain ⟨a9, n9, c9, r9, e9, m9, l9, _⟩ := hcg.s
      rw [e9] at hri
      obtain ⟨a10, n10, c10, r10, e10, m10, l10, _⟩ := hcg.p
      rw [e10] at hri
      by_cases hdl : x.1.d.length ≤ 1200
      ·
       refine C_draw fun b40 H41 hbase42 hA43 => ?_
       have hH44 := hH33.keep (by have := hA43.1; omega) (fun q _ => hA43.2 q) ((hH33.old).aside hA43).ok
       refine D_l (v := v) rfl rfl rfl (r_mv hT30) (D_l (v := (nI i)) rfl rfl rfl (r_mv hT31) ?_)
       refine D_q rfl rfl rfl (by exact Rw.row (hv _ hH44.top0.fst) rfl (i := i) rfl (r := [(.i .i64 o.w), (.i .i64 o.n), (.i .i64 o.m), o.lv, (.i .u32 o.cu), o.bv]) hor) fun v46 hv45 => ?_
       obtain ⟨rb47, ro48, rfl, hr49⟩ := hv45
       refine D_l (v := (.p (some (rb47, (ro48 + 3))))) rfl rfl rfl (r_fadd' rfl rfl) (D_l (v := (nI j)) rfl rfl rfl (r_mv hT32) (D_r (v := o.lv) rfl rfl rfl (r_ldR (q := 3) rfl (hr49 _ (hv _ hH44.top0.fst)) rfl) ?_))
       refine D_q rfl rfl rfl (by exact Rw.row (hvl _ hH44.top0.fst) rfl (i := j) rfl (r := [(.i .u8 x.1.k), (.i .u8 x.1.f), (.i .u32 x.2), (.i .u32 x.1.b), (.i .u16 x.1.o), (.i .u16 x.1.i), (.i .u32 x.1.p), (.sl a7 n7 c7 0), (.sl a8 n8 c8 0), (.sl a9 n9 c9 0), (.sl a10 n10 c10 0), (.sl da x.1.d.length dc dg)]) hri) fun v51 hv50 => ?_
       obtain ⟨rb52, ro53, rfl, hr54⟩ := hv50
       refine D_l (v := (.p (some (rb52, (ro53 + 11))))) rfl rfl rfl (r_fadd' rfl rfl) (D_r (v := (.sl da x.1.d.length dc dg)) rfl rfl rfl (r_ldR (q := 11) rfl (hr54 _ (hvl _ hH44.top0.fst)) rfl) (D_l (v := (.i .i64 (((x.1.d.length : Nat)) : Int))) rfl rfl rfl (r_len rfl) (D_l (v := (.b false)) rfl rfl rfl (by exact (by rw [r_gtr rfl rfl, decide_eq_false (by omega)])) (D_l (v := (.b false)) rfl rfl rfl (r_mv rfl) (D_gk rfl (D_l (v := v) rfl rfl rfl (r_mv hT30) (D_gk rfl (D_l (v := (nI i)) rfl rfl rfl (r_mv hT31) (D_gk rfl ?_)))))))))
       refine D_q rfl rfl rfl (by exact Rw.row (hv _ hH44.top0.fst) rfl (i := i) rfl (r := [(.i .i64 o.w), (.i .i64 o.n), (.i .i64 o.m), o.lv, (.i .u32 o.cu), o.bv]) hor) fun v56 hv55 => ?_
       obtain ⟨rb57, ro58, rfl, hr59⟩ := hv55
       refine D_gk rfl (D_l (v := (.p (some (rb57, (ro58 + 3))))) rfl rfl rfl (r_fadd' rfl rfl) (D_gk rfl (D_l (v := (nI j)) rfl rfl rfl (r_mv hT32) (D_gk rfl (D_l (v := v) rfl rfl rfl (r_mv hT30) (D_gk rfl (D_l (v := (nI i)) rfl rfl rfl (r_mv hT31) (D_gk rfl ?_))))))))
       refine D_q rfl rfl rfl (by exact Rw.row (hv _ hH44.top0.fst) rfl (i := i) rfl (r := [(.i .i64 o.w), (.i .i64 o.n), (.i .i64 o.m), o.lv, (.i .u32 o.cu), o.bv]) hor) fun v61 hv60 => ?_
       obtain ⟨rb62, ro63, rfl, hr64⟩ := hv60
       refine D_gk rfl (D_l (v := (.p (some (rb62, (ro63 + 3))))) rfl rfl rfl (r_fadd' rfl rfl) (D_gk rfl (D_l (v := (nI j)) rfl rfl rfl (r_mv hT32) (D_gk rfl (D_l (v := v) rfl rfl rfl (r_mv hT30) (D_gk rfl (D_l (v := (nI i)) rfl rfl rfl (r_mv hT31) (D_gk rfl ?_))))))))
       refine D_q rfl rfl rfl (by exact Rw.row (hv _ hH44.top0.fst) rfl (i := i) rfl (r := [(.i .i64 o.w), (.i .i64 o.n), (.i .i64 o.m), o.lv, (.i .u32 o.cu), o.bv]) hor) fun v66 hv65 => ?_
       obtain ⟨rb67, ro68, rfl, hr69⟩ := hv65
       refine D_gk rfl (D_l (v := (.p (some (rb67, (ro68 + 3))))) rfl rfl rfl (r_fadd' rfl rfl) (D_gk rfl (D_l (v := (nI j)) rfl rfl rfl (r_mv hT32) (D_gk rfl (D_l (v := v) rfl rfl rfl (r_mv hT30) (D_gk rfl (D_l (v := (nI i)) rfl rfl rfl (r_mv hT31) (D_gk rfl ?_))))))))
       refine D_q rfl rfl rfl (by exact Rw.row (hv _ hH44.top0.fst) rfl (i := i) rfl (r := [(.i .i64 o.w), (.i .i64 o.n), (.i .i64 o.m), o.lv, (.i .u32 o.cu), o.bv]) hor) fun v71 hv70 => ?_
       obtain ⟨rb72, ro73, rfl, hr74⟩ := hv70
       refine D_gk rfl (D_l (v := (.p (some (rb72, (ro73 + 3))))) rfl rfl rfl (r_fadd' rfl rfl) (D_gk rfl (D_l (v := (nI j)) rfl rfl rfl (r_mv hT32) (D_gk rfl (D_r (v := o.lv) rfl rfl rfl (r_ldR (q := 3) rfl (hr59 _ (hv _ hH44.top0.fst)) rfl) (D_gk rfl ?_))))))
       refine D_q rfl rfl rfl (by exact Rw.row (hvl _ hH44.top0.fst) rfl (i := j) rfl (r := [(.i .u8 x.1.k), (.i .u8 x.1.f), (.i .u32 x.2), (.i .u32 x.1.b), (.i .u16 x.1.o), (.i .u16 x.1.i), (.i .u32 x.1.p), (.sl a7 n7 c7 0), (.sl a8 n8 c8 0), (.sl a9 n9 c9 0), (.sl a10 n10 c10 0), (.sl da x.1.d.length dc dg)]) hri) fun v76 hv75 => ?_
       obtain ⟨rb77, ro78, rfl, hr79⟩ := hv75
       refine D_gk rfl (D_l (v := (.p (some (rb77, (ro78 + 10))))) rfl rfl rfl (r_fadd' rfl rfl) (D_gk rfl (D_r (v := (.sl a10 n10 c10 0)) rfl rfl rfl (r_ldR (q := 10) rfl (hr79 _ (hvl _ hH44.top0.fst)) rfl) (D_gk rfl (D_l (v := (nI n10)) rfl rfl rfl (r_len rfl) (D_gk rfl (D_r (v := o.lv) rfl rfl rfl (r_ldR (q := 3) rfl (hr64 _ (hv _ hH44.top0.fst)) rfl) (D_gk rfl ?_))))))))
       refine D_q rfl rfl rfl (by exact Rw.row (hvl _ hH44.top0.fst) rfl (i := j) rfl (r := [(.i .u8 x.1.k), (.i .u8 x.1.f), (.i .u32 x.2), (.i .u32 x.1.b), (.i .u16 x.1.o), (.i .u16 x.1.i), (.i .u32 x.1.p), (.sl a7 n7 c7 0), (.sl a8 n8 c8 0), (.sl a9 n9 c9 0), (.sl a10 n10 c10 0), (.sl da x.1.d.length dc dg)]) hri) fun v81 hv80 => ?_
       obtain ⟨rb82, ro83, rfl, hr84⟩ := hv80
       refine D_gk rfl (D_l (v := (.p (some (rb82, (ro83 + 7))))) rfl rfl rfl (r_fadd' rfl rfl) (D_gk rfl (D_r (v := (.sl a7 n7 c7 0)) rfl rfl rfl (r_ldR (q := 7) rfl (hr84 _ (hvl _ hH44.top0.fst)) rfl) (D_gk rfl (D_l (v := (nI n7)) rfl rfl rfl (r_len rfl) (D_gk rfl (D_l (v := (.i .i64 (IntKind.i64.wrap ((((n10 : Nat)) : Int) + (((n7 : Nat)) : Int))))) rfl rfl rfl (r_bin rfl rfl rfl) (D_gk rfl (D_r (v := o.lv) rfl rfl rfl (r_ldR (q := 3) rfl (hr69 _ (hv _ hH44.top0.fst)) rfl) (D_gk rfl ?_))))))))))
       refine D_q rfl rfl rfl (by exact Rw.row (hvl _ hH44.top0.fst) rfl (i := j) rfl (r := [(.i .u8 x.1.k), (.i .u8 x.1.f), (.i .u32 x.2), (.i .u32 x.1.b), (.i .u16 x.1.o), (.i .u16 x.1.i), (.i .u32 x.1.p), (.sl a7 n7 c7 0), (.sl a8 n8 c8 0), (.sl a9 n9 c9 0), (.sl a10 n10 c10 0), (.sl da x.1.d.length dc dg)]) hri) fun v86 hv85 => ?_
       obtain ⟨rb87, ro88, rfl, hr89⟩ := hv85
       refine D_gk rfl (D_l (v := (.p (some (rb87, (ro88 + 8))))) rfl rfl rfl (r_fadd' rfl rfl) (D_gk rfl (D_r (v := (.sl a8 n8 c8 0)) rfl rfl rfl (r_ldR (q := 8) rfl (hr89 _ (hvl _ hH44.top0.fst)) rfl) (D_gk rfl (D_l (v := (nI n8)) rfl rfl rfl (r_len rfl) (D_gk rfl (D_l (v := (.i .i64 (IntKind.i64.wrap ((IntKind.i64.wrap ((((n10 : Nat)) : Int) + (((n7 : Nat)) : Int))) + (((n8 : Nat)) : Int))))) rfl rfl rfl (r_bin rfl rfl rfl) (D_gk rfl (D_r (v := o.lv) rfl rfl rfl (r_ldR (q := 3) rfl (hr74 _ (hv _ hH44.top0.fst)) rfl) (D_gk rfl ?_))))))))))
       refine D_q rfl rfl rfl (by exact Rw.row (hvl _ hH44.top0.fst) rfl (i := j) rfl (r := [(.i .u8 x.1.k), (.i .u8 x.1.f), (.i .u32 x.2), (.i .u32 x.1.b), (.i .u16 x.1.o), (.i .u16 x.1.i), (.i .u32 x.1.p), (.sl a7 n7 c7 0), (.sl a8 n8 c8 0), (.sl a9 n9 c9 0), (.sl a10 n10 c10 0), (.sl da x.1.d.length dc dg)]) hri) fun v91 hv90 => ?_
       obtain ⟨rb92, ro93, rfl, hr94⟩ := hv90
       refine D_gk rfl (D_l (v := (.p (some (rb92, (ro93 + 9))))) rfl rfl rfl (r_fadd' rfl rfl) (D_gk rfl (D_r (v := (.sl a9 n9 c9 0)) rfl rfl rfl (r_ldR (q := 9) rfl (hr94 _ (hvl _ hH44.top0.fst)) rfl) (D_gk rfl (D_l (v := (nI n9)) rfl rfl rfl (r_len rfl) (D_gk rfl (D_l (v := (.i .i64 (IntKind.i64.wrap ((IntKind.i64.wrap ((IntKind.i64.wrap ((((n10 : Nat)) : Int) + (((n7 : Nat)) : Int))) + (((n8 : Nat)) : Int))) + (((n9 : Nat)) : Int))))) rfl rfl rfl (r_bin rfl rfl rfl) (D_gk rfl (D_l (v := (.b (decide (20 < (IntKind.i64.wrap ((IntKind.i64.wrap ((IntKind.i64.wrap ((((n10 : Nat)) : Int) + (((n7 : Nat)) : Int))) + (((n8 : Nat)) : Int))) + (((n9 : Nat)) : Int))))))) rfl rfl rfl (r_gtr rfl rfl) (D_l (v := (.b (decide (20 < (IntKind.i64.wrap ((IntKind.i64.wrap ((IntKind.i64.wrap ((((n10 : Nat)) : Int) + (((n7 : Nat)) : Int))) + (((n8 : Nat)) : Int))) + (((n9 : Nat)) : Int))))))) rfl rfl rfl (r_pick_f rfl rfl) (D_nil  ?_)))))))))))
       refine C_cond (x := (decide (20 < (IntKind.i64.wrap ((IntKind.i64.wrap ((IntKind.i64.wrap ((((n10 : Nat)) : Int) + (((n7 : Nat)) : Int))) + (((n8 : Nat)) : Int))) + (((n9 : Nat)) : Int)))))) rfl (fun hc95 => ?_) (fun hc95 => ?_)
       ·
        try simp only [dz1, dz2, dz3, dz4, dz5, dz6, dz7, dz8, dz9] at hc95
        refine C_seq  (C_region  (pv (.b false) rfl (O_nil  (C_ret  (bk_ret  (nx_ret  (nx_ret  (bk_ret  (bk_ret  (nx_ret  (nx_ret  (bk_ret  (nx_ret  ?_)))))))))))))
        exact ⟨.inr rfl, _, resL_one (r_tmp (v := .b false) rfl), false, rfl, fun h => (by cases h), hH44⟩
       ·
        try simp only [dz1, dz2, dz3, dz4, dz5, dz6, dz7, dz8, dz9] at hc95
        refine C_skip  (C_region  (pv (nI j) hT32 (O_p (.i .i64 ((((j : Nat)) : Int) + 1)) (by exact (r_addi rfl rfl (wrap_i64 (by omega) (by omega)))) (pv (.i .i64 ((((j : Nat)) : Int) + 1)) rfl (O_nil  ?_)))))
        exact ⟨o.cs.length - (j + 1), by omega, (j + 1), rfl, by omega, fun c hc => by rw [take_at hxi] at hc; rcases List.mem_append.1 hc with h9 | h9; exact hp29 c h9; rw [List.mem_singleton.1 h9]; exact hdl, hH44, hT30, hT31, rfl⟩
      ·
       refine C_draw fun b96 H97 hbase98 hA99 => ?_
       have hH100 := hH33.keep (by have := hA99.1; omega) (fun q _ => hA99.2 q) ((hH33.old).aside hA99).ok
       refine D_l (v := v) rfl rfl rfl (r_mv hT30) (D_l (v := (nI i)) rfl rfl rfl (r_mv hT31) ?_)
       refine D_q rfl rfl rfl (by exact Rw.row (hv _ hH100.top0.fst) rfl (i := i) rfl (r := [(.i .i64 o.w), (.i .i64 o.n), (.i .i64 o.m), o.lv, (.i .u32 o.cu), o.bv]) hor) fun v102 hv101 => ?_
       obtain ⟨rb103, ro104, rfl, hr105⟩ := hv101
       refine D_l (v := (.p (some (rb103, (ro104 + 3))))) rfl rfl rfl (r_fadd' rfl rfl) (D_l (v := (nI j)) rfl rfl rfl (r_mv hT32) (D_r (v := o.lv) rfl rfl rfl (r_ldR (q := 3) rfl (hr105 _ (hv _ hH100.top0.fst)) rfl) ?_))
       refine D_q rfl rfl rfl (by exact Rw.row (hvl _ hH100.top0.fst) rfl (i := j) rfl (r := [(.i .u8 x.1.k), (.i .u8 x.1.f), (.i .u32 x.2), (.i .u32 x.1.b), (.i .u16 x.1.o), (.i .u16 x.1.i), (.i .u32 x.1.p), (.sl a7 n7 c7 0), (.sl a8 n8 c8 0), (.sl a9 n9 c9 0), (.sl a10 n10 c10 0), (.sl da x.1.d.length dc dg)]) hri) fun v107 hv106 => ?_
       obtain ⟨rb108, ro109, rfl, hr110⟩ := hv106
       refine D_l (v := (.p (some (rb108, (ro109 + 11))))) rfl rfl rfl (r_fadd' rfl rfl) (D_r (v := (.sl da x.1.d.length dc dg)) rfl rfl rfl (r_ldR (q := 11) rfl (hr110 _ (hvl _ hH100.top0.fst)) rfl) (D_l (v := (.i .i64 (((x.1.d.length : Nat)) : Int))) rfl rfl rfl (r_len rfl) (D_l (v := (.b true)) rfl rfl rfl (by exact (by rw [r_gtr rfl rfl, decide_eq_true (by omega)])) (D_l (v := (.b true)) rfl rfl rfl (r_mv rfl) (D_gf rfl (D_gf rfl (D_gf rfl (D_gf rfl (D_gf rfl (D_gf rfl (D_gf rfl (D_gf rfl (D_gf rfl ?_)))))))))))))
       refine D_gf rfl (D_gf rfl (D_gf rfl (D_gf rfl (D_gf rfl (D_gf rfl (D_gf rfl (D_gf rfl (D_gf rfl (D_gf rfl (D_gf rfl (D_gf rfl (D_gf rfl (D_gf rfl ?_)))))))))))))
       refine D_gf rfl (D_gf rfl (D_gf rfl (D_gf rfl (D_gf rfl (D_gf rfl (D_gf rfl (D_gf rfl (D_gf rfl (D_gf rfl (D_gf rfl (D_gf rfl (D_gf rfl (D_gf rfl ?_)))))))))))))
       refine D_gf rfl (D_gf rfl (D_gf rfl (D_gf rfl (D_gf rfl (D_gf rfl (D_gf rfl (D_l (v := (.b true)) rfl rfl rfl (r_pick_t rfl rfl) (D_nil  ?_))))))))
       refine C_cond (x := true) rfl (fun _ => ?_) (fun h => by cases h)
       refine C_seq  (C_region  (pv (.b false) rfl (O_nil  (C_ret  (bk_ret  (nx_ret  (nx_ret  (bk_ret  (bk_ret  (nx_ret  (nx_ret  (bk_ret  (nx_ret  ?_)))))))))))))
       exact ⟨.inr rfl, _, resL_one (r_tmp (v := .b false) rfl), false, rfl, fun h => (by cases h), hH100⟩
     ·
      try simp only [dz1, dz2, dz3, dz4, dz5, dz6, dz7, dz8, dz9] at hc39
      refine C_exit  (nx_exit  (nx_exit  (bk_hit  (C_region  (pv (nI i) hT31 (O_p (.i .i64 ((((i : Nat)) : Int) + 1)) (by exact (r_addi rfl rfl (wrap_i64 (by omega) (by omega)))) (pv (.i .i64 ((((i : Nat)) : Int) + 1)) rfl (O_nil  ?_))))))))
      have hjl9 : j = o.cs.length := by omega
      exact ⟨ol.length - (i + 1), by omega, (i + 1), rfl, by omega, fun k p hk hp => by rcases Nat.lt_succ_iff_lt_or_eq.1 hk with h9 | rfl; exact hp8 k p h9 hp; rw [hoi] at hp; cases hp; exact ⟨hcsl, hbll, by have h9 := hp29; rw [hjl9, List.take_length] at h9; exact h9⟩, hH33, hT30, rfl⟩
    ·
     refine C_region  (pv v hT9 (pv (nI i) hT10 ?_))
     refine O_q (by exact Rw.row (hv _ hH11.top0.fst) rfl (i := i) rfl (r := [(.i .i64 o.w), (.i .i64 o.n), (.i .i64 o.m), o.lv, (.i .u32 o.cu), o.bv]) hor) fun v112 hv111 => ?_
     obtain ⟨rb113, ro114, rfl, hr115⟩ := hv111
     refine pf (.p (some (rb113, (ro114 + 3)))) rfl rfl (O_p o.lv (r_ldR (q := 3) rfl (hr115 _ (hv _ hH11.top0.fst)) rfl) (O_p (.i .i64 (((o.cs.length : Nat)) : Int)) (r_lenOf (v := o.lv) (n := o.cs.length) rfl ((hvl _ hH11.top0.fst).lenOf hcr.1) (hvl _ hH11.top0.fst).isSl) (O_p (.b false) (by exact (by rw [r_gtr rfl rfl, decide_eq_false (by omega)])) (pv (.b false) rfl (O_gk rfl (pv v hT9 (O_gk rfl (pv (nI i) hT10 (O_gk rfl ?_)))))))))
     refine O_q (by exact Rw.row (hv _ hH11.top0.fst) rfl (i := i) rfl (r := [(.i .i64 o.w), (.i .i64 o.n), (.i .i64 o.m), o.lv, (.i .u32 o.cu), o.bv]) hor) fun v117 hv116 => ?_
     obtain ⟨rb118, ro119, rfl, hr120⟩ := hv116
     refine O_gk rfl (pf (.p (some (rb118, (ro119 + 5)))) rfl rfl (O_gk rfl (O_p o.bv (r_ldR (q := 5) rfl (hr120 _ (hv _ hH11.top0.fst)) rfl) (O_gk rfl (O_p (.i .i64 (((o.bl.length : Nat)) : Int)) (by exact (r_lenOf (v := o.bv) (n := o.bl.length) rfl ((hvb _ hH11.top0.fst).lenOf (by rw [hbr.1, List.length_map])) (hvb _ hH11.top0.fst).isSl)) (O_gk rfl (O_p (.b true) (by exact (by rw [r_gtr rfl rfl, decide_eq_true (by omega)])) (O_p (.b true) (r_pick_f rfl rfl) (O_nil  ?_)))))))))
     refine C_cond (x := true) rfl (fun _ => ?_) (fun h => by cases h)
     refine C_seq  (C_region  (pv (.b false) rfl (O_nil  (C_ret  (nx_ret  (bk_ret  (nx_ret  (nx_ret  (bk_ret  (nx_ret  ?_))))))))))
     exact ⟨.inr rfl, _, resL_one (r_tmp (v := .b false) rfl), false, rfl, fun h => (by cases h), hH11⟩
   ·
    refine C_region  (pv v hT9 (pv (nI i) hT10 ?_))
    refine O_q (by exact Rw.row (hv _ hH11.top0.fst) rfl (i := i) rfl (r := [(.i .i64 o.w), (.i .i64 o.n), (.i .i64 o.m), o.lv, (.i .u32 o.cu), o.bv]) hor) fun v122 hv121 => ?_
    obtain ⟨rb123, ro124, rfl, hr125⟩ := hv121
    refine pf (.p (some (rb123, (ro124 + 3)))) rfl rfl (O_p o.lv (r_ldR (q := 3) rfl (hr125 _ (hv _ hH11.top0.fst)) rfl) (O_p (.i .i64 (((o.cs.length : Nat)) : Int)) (r_lenOf (v := o.lv) (n := o.cs.length) rfl ((hvl _ hH11.top0.fst).lenOf hcr.1) (hvl _ hH11.top0.fst).isSl) (O_p (.b true) (by exact (by rw [r_gtr rfl rfl, decide_eq_true (by omega)])) (pv (.b true) rfl (O_gf rfl (O_gf rfl (O_gf rfl (O_gf rfl (O_gf rfl (O_gf rfl (O_gf rfl (O_p (.b true) (r_pick_t rfl rfl) (O_nil  ?_)))))))))))))
    refine C_cond (x := true) rfl (fun _ => ?_) (fun h => by cases h)
    refine C_seq  (C_region  (pv (.b false) rfl (O_nil  (C_ret  (nx_ret  (bk_ret  (nx_ret  (nx_ret  (bk_ret  (nx_ret  ?_))))))))))
    exact ⟨.inr rfl, _, resL_one (r_tmp (v := .b false) rfl), false, rfl, fun h => (by cases h), hH11⟩
  ·
   try simp only [dz1, dz2, dz3, dz4, dz5, dz6, dz7, dz8, dz9] at hc12
   refine C_exit  (nx_exit  (nx_exit  (bk_hit  (C_seq  (C_region  (pv (.b true) rfl (O_nil  (C_ret  ?_))))))))
   have hio : i = ol.length := by omega
   exact ⟨.inr rfl, _, resL_one (r_tmp (v := .b true) rfl), true, rfl, fun _ => ⟨hol40, fun o ho => by obtain ⟨k, hk⟩ := List.getElem?_of_mem ho; exact hp8 k o (by rw [hio]; exact (List.getElem?_eq_some_iff.1 hk).1) hk⟩, hH11⟩
set_option linter.unusedVariables false
set_option linter.unusedSimpArgs false
def Ga (i : Nat) (e : Ea) : Prop := e.c.d.length ≤ 1200 ∧ (0 ≤ e.sent ∧ e.sent ≤ ((i : Nat) : Int)) ∧ (0 ≤ e.tm ∧ e.tm ≤ 1099511627775) ∧ 0 ≤ e.mi ∧ e.mi ≤ ((i : Nat) : Int)
theorem Ga.up {i : Nat} {e : Ea} (h : Ga i e) : Ga (i + 1) e := by
 obtain ⟨h1, h2, h3, h4, h5⟩ := h
 exact ⟨h1, ⟨h2.1, by omega⟩, h3, h4, by omega⟩
structure Fi (i : Nat) (es : List Ea) (nx : Int) : Prop where
 len : es.length ≤ 10 * i
 r : 0 ≤ nx ∧ nx < 4294967296
 a : ∀ (k : Nat) (e : Ea), es[k]? = some e → e.a = w32 (nx - ((es.length : Nat) : Int) + ((k : Nat) : Int))
 g : ∀ e ∈ es, Ga i e
theorem pushA_get : ∀ {cs : List (Cx × Int)} {a : Int} {k : Nat} {e : Ea}, (pushA cs a)[k]? = some e → ∃ c, cs[k]? = some c ∧ e = ⟨c.1, w32 (a + ((k : Nat) : Int)), 0, 0, 0, 0⟩
  | [], _, _, _, h => by cases h
  | c :: cs, a, 0, e, h => by
    have h1 : (⟨c.1, w32 a, 0, 0, 0, 0⟩ : Ea) = e := by simpa [pushA] using h
    exact ⟨c, rfl, by rw [← h1]; show (⟨c.1, w32 a, 0, 0, 0, 0⟩ : Ea) = ⟨c.1, w32 (a + 0), 0, 0, 0, 0⟩; rw [Int.add_zero]⟩
  | c :: cs, a, k + 1, e, h => by
    have h1 : (pushA cs (a + 1))[k]? = some e := h
    obtain ⟨d, h2, h3⟩ := pushA_get h1
    exact ⟨d, h2, by rw [h3, show a + 1 + ((k : Nat) : Int) = a + ((k + 1 : Nat) : Int) by omega]⟩
theorem floorA_eq2 {nx : Int} {n : Nat} : floorA nx n = w32 (nx - ((n : Nat) : Int) - 1) := by unfold floorA; rw [w32_subr, w32_subl]
theorem Fi.mono {i : Nat} {es : List Ea} {nx : Int} (h : Fi i es nx) : Fi (i + 1) es nx := ⟨by have := h.len; omega, h.r, h.a, fun e he => (h.g e he).up⟩
theorem w32_push {nx : Int} {n l k : Nat} : w32 (w32 (nx + ((l : Nat) : Int)) - ((n + l : Nat) : Int) + ((k : Nat) : Int)) = w32 (nx - ((n : Nat) : Int) + ((k : Nat) : Int)) := by
 rw [show w32 (nx + ((l : Nat) : Int)) - ((n + l : Nat) : Int) + ((k : Nat) : Int) = w32 (nx + ((l : Nat) : Int)) + (((k : Nat) : Int) - ((n + l : Nat) : Int)) by omega, w32_addl]
 congr 1; omega
theorem Fi.push {i : Nat} {es : List Ea} {nx : Int} {cs : List (Cx × Int)} (h : Fi i es nx) (hl : cs.length ≤ 10) (hc : ∀ c ∈ cs, c.1.d.length ≤ 1200) : Fi (i + 1) (es ++ pushA cs nx) (w32 (nx + ((cs.length : Nat) : Int))) ∧ floorA (w32 (nx + ((cs.length : Nat) : Int))) (es ++ pushA cs nx).length = floorA nx es.length := by
  refine ⟨⟨by rw [List.length_append, pushA_len]; have := h.len; omega, w32_r _, fun k e he => ?_, fun e he => ?_⟩, ?_⟩
  · rw [List.length_append, pushA_len, w32_push]
    by_cases hk : k < es.length
    · rw [List.getElem?_append_left hk] at he
      exact h.a k e he
    · rw [List.getElem?_append_right (by omega)] at he
      obtain ⟨c, _, rfl⟩ := pushA_get he
      show w32 _ = _
      congr 1; omega
  · rcases List.mem_append.1 he with h9 | h9
    · exact (h.g e h9).up
    · obtain ⟨k, hk⟩ := List.getElem?_of_mem h9
      obtain ⟨c, h8, rfl⟩ := pushA_get hk
      exact ⟨hc c (List.mem_of_getElem? h8), ⟨Int.le_refl _, by show (0 : Int) ≤ _; omega⟩, ⟨Int.le_refl _, by show (0 : Int) ≤ _; decide⟩, Int.le_refl _, by show (0 : Int) ≤ _; omega⟩
  · rw [floorA_eq2, floorA_eq2, List.length_append, pushA_len]
    rw [show w32 (nx + ((cs.length : Nat) : Int)) - ((es.length + cs.length : Nat) : Int) - 1 = w32 (nx + ((cs.length : Nat) : Int)) + (-((es.length + cs.length : Nat) : Int) - 1) by omega, w32_addl]
    congr 1; omega
def Pw (S : Ea → Ea → Prop) (l l' : List Ea) : Prop := l'.length = l.length ∧ ∀ (k : Nat) (e' : Ea), l'[k]? = some e' → ∃ e, l[k]? = some e ∧ S e e'
section
variable {S T : Ea → Ea → Prop} {l l' l2 : List Ea}
theorem Pw.nil : Pw S [] [] := ⟨rfl, fun k e h => by simp at h⟩
theorem Pw.cons {e e' : Ea} (h : S e e') (t : Pw S l l') : Pw S (e :: l) (e' :: l') := ⟨by rw [List.length_cons, List.length_cons, t.1], fun k x hx => by
  cases k with
  | zero =>
    simp only [List.getElem?_cons_zero, Option.some.injEq] at hx
    exact ⟨e, rfl, hx ▸ h⟩
  | succ k => exact t.2 k x (by simpa using hx)⟩
theorem Pw.refl (h : ∀ e, S e e) : Pw S l l := ⟨rfl, fun k e hk => ⟨e, hk, h e⟩⟩
theorem Pw.trans {U : Ea → Ea → Prop} (h1 : Pw S l l') (h2 : Pw T l' l2) (h : ∀ a b c, S a b → T b c → U a c) : Pw U l l2 := ⟨h2.1.trans h1.1, fun k e hk => by
 obtain ⟨b, hb, h3⟩ := h2.2 k e hk
 obtain ⟨a, ha, h4⟩ := h1.2 k b hb
 exact ⟨a, ha, h a b e h4 h3⟩⟩
theorem Pw.weak (h : Pw S l l') (hs : ∀ a b, S a b → T a b) : Pw T l l' := ⟨h.1, fun k e hk => by obtain ⟨a, h1, h2⟩ := h.2 k e hk; exact ⟨a, h1, hs _ _ h2⟩⟩
theorem Pw.map (f : Ea → Ea) (h : ∀ e, S e (f e)) : Pw S l (l.map f) := ⟨List.length_map .., fun k e hk => by
  rw [List.getElem?_map] at hk
  cases hx : l[k]? with
  | none => rw [hx] at hk; cases hk
  | some x =>
    rw [hx] at hk
    simp only [Option.map_some, Option.some.injEq] at hk
    exact ⟨x, rfl, hk ▸ h x⟩⟩
theorem Pw.append {m m' : List Ea} (h1 : Pw S l l') (h2 : Pw S m m') : Pw S (l ++ m) (l' ++ m') := ⟨by rw [List.length_append, List.length_append, h1.1, h2.1], fun k e hk => by
  by_cases h : k < l'.length
  · rw [List.getElem?_append_left h] at hk
    obtain ⟨a, h3, h4⟩ := h1.2 k e hk
    exact ⟨a, by rw [List.getElem?_append_left (by rw [← h1.1]; exact h)]; exact h3, h4⟩
  · rw [List.getElem?_append_right (by omega)] at hk
    obtain ⟨a, h3, h4⟩ := h2.2 _ e hk
    exact ⟨a, by rw [List.getElem?_append_right (by rw [← h1.1]; omega), ← h1.1]; exact h3, h4⟩⟩
end
theorem Fi.pw {S : Ea → Ea → Prop} {i : Nat} {es es2 : List Ea} {nx : Int} (h : Fi i es nx) (hp : Pw S es es2) (hs : ∀ e e', S e e' → e'.a = e.a ∧ (Ga i e → Ga (i + 1) e')) : Fi (i + 1) es2 nx := by
  refine ⟨by rw [hp.1]; have := h.len; omega, h.r, fun k e he => ?_, fun e he => ?_⟩
  · obtain ⟨x, h1, h2⟩ := hp.2 k e he
    rw [(hs _ _ h2).1, hp.1]
    exact h.a k x h1
  · obtain ⟨k, hk⟩ := List.getElem?_of_mem he
    obtain ⟨x, h1, h2⟩ := hp.2 k e hk
    exact (hs _ _ h2).2 (h.g x (List.mem_of_getElem? h1))
theorem Fi.drop {i : Nat} {es : List Ea} {nx : Int} (h : Fi i es nx) {n : Nat} (hn : n ≤ es.length) : Fi i (es.drop n) nx := by
 refine ⟨by rw [List.length_drop]; have := h.len; omega, h.r, fun k e he => ?_, fun e he => h.g e (List.mem_of_mem_drop he)⟩
 rw [List.getElem?_drop] at he
 rw [h.a _ e he, List.length_drop]
 congr 1; omega
abbrev flS (s now : Int) (e e' : Ea) : Prop := e' = e ∨ (e.st = s ∧ e' = e.fly now)
theorem takeL_pw {s now : Int} : ∀ {l : List Ea} {r : Int}, Pw (flS s now) l (takeL s now l r).1
  | [], r => Pw.nil
  | e :: l, r => by
    by_cases h : e.st = s
    · by_cases hr : r < (e.c.d.length : Int)
      · rw [takeL_full h hr]; exact Pw.refl fun _ => .inl rfl
      · rw [takeL_fit h hr]; exact Pw.cons (.inr ⟨h, rfl⟩) takeL_pw
    · rw [takeL_ne h]; exact Pw.cons (.inl rfl) takeL_pw
theorem takeL_told {s now : Int} : ∀ {l : List Ea} {r : Int}, ∀ x ∈ (takeL s now l r).2.1, x.st = s ∧ ∃ k : Nat, l[k]? = some x ∧ (takeL s now l r).1[k]? = some (x.fly now)
  | [], r, x, hx => by cases hx
  | e :: l, r, x, hx => by
    by_cases h : e.st = s
    · by_cases hr : r < (e.c.d.length : Int)
      · rw [takeL_full h hr] at hx; cases hx
      · rw [takeL_fit h hr] at hx ⊢
        rcases List.mem_cons.1 hx with rfl | hx
        · exact ⟨h, 0, rfl, rfl⟩
        · obtain ⟨h1, k, h2, h3⟩ := takeL_told x hx
          exact ⟨h1, k + 1, h2, h3⟩
    · rw [takeL_ne h] at hx ⊢
      obtain ⟨h1, k, h2, h3⟩ := takeL_told x hx
      exact ⟨h1, k + 1, h2, h3⟩
theorem takeL_keeps {s now : Int} : ∀ {l : List Ea} {r : Int} {k : Nat} {e : Ea}, l[k]? = some e → ¬ e.st = s → (takeL s now l r).1[k]? = some e
  | [], r, k, e, h, hs => by cases h
  | x :: l, r, k, e, h, hs => by
    by_cases h1 : x.st = s
    · by_cases hr : r < (x.c.d.length : Int)
      · rw [takeL_full h1 hr]; exact h
      · rw [takeL_fit h1 hr]
        cases k with
        | zero =>
          simp only [List.getElem?_cons_zero, Option.some.injEq] at h
          subst h; exact absurd h1 hs
        | succ k => exact takeL_keeps (l := l) (by simpa using h) hs
    · rw [takeL_ne h1]
      cases k with
      | zero => exact h
      | succ k => exact takeL_keeps (l := l) (by simpa using h) hs
abbrev flT (now : Int) (e e' : Ea) : Prop := e' = e ∨ e' = e.fly now
theorem take2_pw {now room : Int} {es : List Ea} : Pw (flT now) es (take2 now es room).1 := by
  unfold take2
  split
  · exact takeL_pw.weak fun a b h => h.imp id (·.2)
  · refine takeL_pw.trans (T := flS 0 now) takeL_pw fun a b c h1 h2 => ?_
    rcases h1 with rfl | ⟨h1, rfl⟩
    · exact h2.imp id (·.2)
    · rcases h2 with rfl | ⟨h2, rfl⟩
      · exact .inr rfl
      · exact absurd h2 (by show ¬ (1 : Int) = 0; decide)
theorem take2_told {now room : Int} {es : List Ea} : ∀ x ∈ (take2 now es room).2, ∃ k : Nat, es[k]? = some x ∧ (take2 now es room).1[k]? = some (x.fly now) := by
  unfold take2
  split
  · intro x hx
    obtain ⟨_, h⟩ := takeL_told x hx
    exact h
  · intro x hx
    rcases List.mem_append.1 hx with h | h
    · obtain ⟨_, k, h1, h2⟩ := takeL_told x h
      exact ⟨k, h1, takeL_keeps h2 (by show ¬ (1 : Int) = 0; decide)⟩
    · obtain ⟨h0, k, h1, h2⟩ := takeL_told x h
      obtain ⟨y, h3, h4⟩ := takeL_pw.2 k x h1
      rcases h4 with rfl | ⟨h4, rfl⟩
      · exact ⟨k, h3, h2⟩
      · exact absurd h0 (by show ¬ (1 : Int) = 0; decide)
theorem Fi.take {i : Nat} {es : List Ea} {nx now room : Int} (h : Fi i es nx) (hn : 0 ≤ now ∧ now ≤ 1099511627775) : Fi (i + 1) (take2 now es room).1 nx := by
  refine h.pw take2_pw fun e e' hs => ?_
  rcases hs with rfl | rfl
  · exact ⟨rfl, Ga.up⟩
  · exact ⟨rfl, fun ⟨h1, h2, h3, h4, h5⟩ => ⟨h1, ⟨by show 0 ≤ e.sent + 1; omega, by show e.sent + 1 ≤ _; omega⟩, hn, by show (0 : Int) ≤ 0; decide, by show (0 : Int) ≤ _; omega⟩⟩
theorem Fi.timeout {i : Nat} {es : List Ea} {nx : Int} (h : Fi i es nx) : Fi (i + 1) (es.map toE) nx := by
  refine h.pw (S := fun e e' => e' = toE e) (Pw.map toE fun _ => rfl) fun e e' hs => ?_
  subst hs
  unfold toE
  split
  · exact ⟨rfl, fun h => Ga.up h⟩
  · exact ⟨rfl, Ga.up⟩
theorem zip_pw {S : Ea → Ea → Prop} (f : Ea × Nat → Ea) (h : ∀ e m, S e (f (e, m))) : ∀ {es : List Ea} {ms : List Nat}, ms.length = es.length → Pw S es ((es.zip ms).map f)
  | [], _, _ => by rw [List.zip_nil_left]; exact Pw.nil
  | e :: es, [], hl => by cases hl
  | e :: es, m :: ms, hl => Pw.cons (h e m) (zip_pw f h (by simpa using hl))
theorem Fi.expire {i : Nat} {es : List Ea} {ms : List Nat} {nx : Int} {pl : List Po} (h : Fi i es nx) (hl : ms.length = es.length) : Fi (i + 1) ((es.zip ms).map (exE pl)) nx := by
  refine h.pw (S := fun e e' => e' = e ∨ e' = e.setSt 4) (zip_pw _ (fun e m => ?_) hl) fun e e' hs => ?_
  · unfold exE
    split
    · exact .inr rfl
    · exact .inl rfl
  · rcases hs with rfl | rfl
    · exact ⟨rfl, Ga.up⟩
    · exact ⟨rfl, fun h => Ga.up h⟩
theorem mkd_pw {bl : List (Int × Int)} : ∀ {l : List Ea} {k : Nat}, Pw (fun e e' => ∃ c, e' = mk1 c e) l (mkd bl k l)
  | [], k => Pw.nil
  | e :: l, k => Pw.cons ⟨_, rfl⟩ mkd_pw
theorem ackE_pw {bl : List (Int × Int)} {es : List Ea} {n : Nat} : Pw (fun e e' => ∃ c, e' = mk1 c e ∨ e' = msE (mk1 c e)) (es.drop n) (ackE bl es n) := by
  refine (mkd_pw (bl := bl) (k := 0)).trans (T := fun e e' => e' = e ∨ e' = msE e) ?_ fun a b c ⟨z, h1⟩ h2 => ⟨z, ?_⟩
  · unfold ackE
    have h := (Pw.map (S := fun e e' => e' = e ∨ e' = msE e) (l := (mkd bl 0 (es.drop n)).take (mkt bl 0 (es.drop n) 0)) msE fun _ => .inr rfl).append (Pw.refl (l := (mkd bl 0 (es.drop n)).drop (mkt bl 0 (es.drop n) 0)) fun _ => .inl rfl)
    rw [List.take_append_drop] at h
    exact h
  · rcases h2 with rfl | rfl
    · exact .inl h1
    · exact .inr (by rw [h1])
theorem Fi.ack {i n : Nat} {es : List Ea} {nx : Int} {bl : List (Int × Int)} (h : Fi i es nx) (hn : n ≤ es.length) : Fi (i + 1) (ackE bl es n) nx := by
  refine (h.drop hn).pw ackE_pw fun e e' ⟨c, hs⟩ => ?_
  have hm : (mk1 c e).a = e.a ∧ (Ga i e → Ga i (mk1 c e)) := by
    unfold mk1
    split
    · exact ⟨rfl, fun h => h⟩
    · split
      · exact ⟨rfl, fun ⟨h1, h2, h3, h4, h5⟩ => ⟨h1, h2, h3, by show (0 : Int) ≤ 0; decide, by show (0 : Int) ≤ _; omega⟩⟩
      · exact ⟨rfl, fun h => h⟩
  rcases hs with rfl | rfl
  · exact ⟨hm.1, fun h => (hm.2 h).up⟩
  · have h2 : (msE (mk1 c e)).a = (mk1 c e).a ∧ (Ga i (mk1 c e) → Ga (i + 1) (msE (mk1 c e))) := by
      unfold msE
      split
      · split
        · exact ⟨rfl, fun ⟨h1, h2, h3, h4, h5⟩ => ⟨h1, ⟨h2.1, by show (mk1 c e).sent ≤ _; omega⟩, h3, by show 0 ≤ (mk1 c e).mi + 1; omega, by show (mk1 c e).mi + 1 ≤ _; omega⟩⟩
        · exact ⟨rfl, fun ⟨h1, h2, h3, h4, h5⟩ => ⟨h1, ⟨h2.1, by show (mk1 c e).sent ≤ _; omega⟩, h3, by show 0 ≤ (mk1 c e).mi + 1; omega, by show (mk1 c e).mi + 1 ≤ _; omega⟩⟩
      · exact ⟨rfl, Ga.up⟩
    exact ⟨h2.1.trans hm.1, fun h => h2.2 (hm.2 h)⟩
theorem Fi.sz {i : Nat} {es : List Ea} {nx : Int} (h : Fi i es nx) : ∀ e ∈ es, e.c.d.length ≤ 1000000 := fun e he => Nat.le_trans (h.g e he).1 (by decide)
theorem num_at {nx : Int} {n k : Nat} (hk : k < n) (hn : n ≤ 1000000) : w32 (w32 (nx - ((n : Nat) : Int) + ((k : Nat) : Int)) - floorA nx n) = ((k + 1 : Nat) : Int) := by
 rw [floorA_eq2, w32_subl, w32_subr, show nx - ((n : Nat) : Int) + ((k : Nat) : Int) - (nx - ((n : Nat) : Int) - 1) = ((k + 1 : Nat) : Int) by omega]
 exact w32_small ⟨by omega, by omega⟩
theorem ack_nat (cum : Int) (nx : Int) (n : Nat) : ∃ k : Nat, w32 (cum - floorA nx n) = ((k : Nat) : Int) := ⟨(w32 (cum - floorA nx n)).toNat, by have := (w32_r (cum - floorA nx n)).1; omega⟩
def AckOK (es : List Ea) (n : Nat) : Prop := n ≤ es.length ∧ ∀ e ∈ es.take n, ¬ e.st = 0
theorem ack_refused {es : List Ea} {n : Nat} (h : ¬ AckOK es n) : es.length < n ∨ ∃ e ∈ es.take n, e.st = 0 := by
  by_cases h1 : n ≤ es.length
  · by_cases h2 : ∃ e ∈ es.take n, e.st = 0
    · exact .inr h2
    · exact absurd ⟨h1, fun e he h3 => h2 ⟨e, he, h3⟩⟩ h
  · exact .inl (by omega)
set_option linter.unusedVariables false
set_option linter.unusedSimpArgs false
section
variable {u a : Int} {m1 m2 k : Nat} {c : Cx} {z : Ea} {mp : List Nat}
end
end Go.Proofs.Ytipcacpaadgagaa.E
