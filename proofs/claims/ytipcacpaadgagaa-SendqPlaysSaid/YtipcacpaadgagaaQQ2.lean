/- Queues of chunks: how far an answer reaches. It bears no condition. -/
import Derived.Test.YtipcacpaadgagaaQQ1
namespace Go.Proofs.Ytipcacpaadgagaa.E
set_option linter.unusedVariables false
set_option linter.unusedSimpArgs false
def floorA (nx : Int) (n : Nat) : Int := w32 (w32 (nx - w32 ((n : Nat) : Int)) - 1)
def drB : List Ea → Nat
  | [] => 0
  | e :: l => (if e.st = 3 ∨ e.st = 4 then 0 else e.c.d.length) + drB l
def drS (now : Int) : List Ea → Int → Int
  | [], s => s
  | e :: l, s => drS now l (if e.st = 3 ∨ e.st = 4 then s else if e.sent = 1 then now - e.tm else s)
theorem drB_app {l2 : List Ea} : ∀ {l1 : List Ea}, drB (l1 ++ l2) = drB l1 + drB l2
  | [] => (Nat.zero_add _).symm
  | e :: l1 => by show _ + drB (l1 ++ l2) = _ + drB l1 + _; rw [drB_app, Nat.add_assoc]
theorem drS_app {now : Int} {l2 : List Ea} : ∀ {l1 : List Ea} {s : Int}, drS now (l1 ++ l2) s = drS now l2 (drS now l1 s)
  | [], s => rfl
  | e :: l1, s => by show drS now (l1 ++ l2) _ = _; rw [drS_app]; rfl
theorem drB_le : ∀ {l : List Ea}, (∀ e ∈ l, e.c.d.length ≤ 1000000) → drB l ≤ l.length * 1000000
  | [], _ => Nat.zero_le _
  | e :: l, h => by
    have h1 := drB_le (l := l) fun x hx => h x (List.mem_cons_of_mem _ hx)
    have h2 := h e (List.mem_cons_self ..)
    show (if _ then 0 else _) + drB l ≤ (l.length + 1) * 1000000
    split <;> omega
section
variable {es : List Ea} {j : Nat} {e : Ea} {now s : Int}
theorem drB_skip (h : es[j]? = some e) (hs : e.st = 3 ∨ e.st = 4) : drB (es.take (j + 1)) = drB (es.take j) := by
 rw [take_at h, drB_app]
 show _ + ((if e.st = 3 ∨ e.st = 4 then 0 else _) + 0) = _
 rw [if_pos hs]; omega
theorem drB_take (h : es[j]? = some e) (hs : ¬ (e.st = 3 ∨ e.st = 4)) : drB (es.take (j + 1)) = drB (es.take j) + e.c.d.length := by
 rw [take_at h, drB_app]
 show _ + ((if e.st = 3 ∨ e.st = 4 then 0 else _) + 0) = _
 rw [if_neg hs]; omega
theorem drS_skip (h : es[j]? = some e) (hs : e.st = 3 ∨ e.st = 4) : drS now (es.take (j + 1)) s = drS now (es.take j) s := by
 rw [take_at h, drS_app]
 show (if e.st = 3 ∨ e.st = 4 then _ else _ : Int) = _
 rw [if_pos hs]
theorem drS_one (h : es[j]? = some e) (hs : ¬ (e.st = 3 ∨ e.st = 4)) (h1 : e.sent = 1) : drS now (es.take (j + 1)) s = now - e.tm := by
 rw [take_at h, drS_app]
 show (if e.st = 3 ∨ e.st = 4 then _ else if e.sent = 1 then _ else _ : Int) = _
 rw [if_neg hs, if_pos h1]
theorem drS_more (h : es[j]? = some e) (hs : ¬ (e.st = 3 ∨ e.st = 4)) (h1 : ¬ e.sent = 1) : drS now (es.take (j + 1)) s = drS now (es.take j) s := by
 rw [take_at h, drS_app]
 show (if e.st = 3 ∨ e.st = 4 then _ else if e.sent = 1 then _ else _ : Int) = _
 rw [if_neg hs, if_neg h1]
end
theorem En.cut {H : AH} {R : HL} {q : List En} (n : Nat) (hH : Hs H (q.flatMap En.seg ++ R)) : Hs H ((q.drop n).flatMap En.seg ++ R) := by
 have e : q.flatMap En.seg = (q.take n).flatMap En.seg ++ (q.drop n).flatMap En.seg := by rw [← List.flatMap_append, List.take_append_drop]
 rw [e, List.append_assoc] at hH
 exact hH.sub
theorem Rw.isNone {H : AH} {w : AV} {rows : List (List AV)} {sz : Nat} (h : Rw sz H w rows) : ∃ a n c g, w = .sl a n c g ∧ (a = Option.none → rows = []) := by
  cases h with
  | none hg => exact ⟨_, _, _, _, rfl, fun _ => rfl⟩
  | mk => exact ⟨_, _, _, _, rfl, fun h => by cases h⟩
theorem w32_nat {x : Int} {n : Nat} (h : w32 x = ((n : Nat) : Int)) : n < 4294967296 := by have := (w32_r x).2; omega
theorem floor_raw {H : AH} {R : HL} {F : Nat} {lv : AV} {lc : List AV} {nx : Int} {q : List En} (hlv : Sq 1 lv lc (q.map En.pr).flatten) (hH0 : Hs H ([(F, some (.cells ([lv, (.i .u32 nx)]) true))] ++ ((qseg lv lc) ++ ((q.flatMap En.seg) ++ (R))))) : Ev tabA spA (.fn (.func 17) [] []) [.p (some (F, 0))] H (fun r H' => r = .i .u32 (floorA nx q.length) ∧ Hs H' ([(F, some (.cells ([lv, (.i .u32 nx)]) true))] ++ ((qseg lv lc) ++ ((q.flatMap En.seg) ++ (R))))) := by
 refine Ev_C (F := x17) rfl ?_
 refine C_seq  (C_region  (pv (.i .u32 0) rfl (O_nil  (C_seq  (C_seq  (C_region  (pv (pT F 0) rfl (O_p (.b false) (r_nilq_s rfl) (O_nil  ?_)))))))))
 refine C_cond (x := false) rfl (fun h => by cases h) (fun _ => ?_)
 refine C_skip  (C_seq  ?_)
 refine C_draw fun b1 H2 hbase3 hA4 => ?_
 have hH5 := hH0.keep (by have := hA4.1; omega) (fun q _ => hA4.2 q) ((hH0.old).aside hA4).ok
 refine D_l (v := (pT F 0)) rfl rfl rfl (r_mv rfl) (D_l (v := (pT F 0)) rfl rfl rfl (r_nilc rfl) (D_l (v := (pT F 1)) rfl rfl rfl (r_fadd' rfl rfl) (D_l (v := (pT F 0)) rfl rfl rfl (r_mv rfl) (D_l (v := (pT F 0)) rfl rfl rfl (r_nilc rfl) (D_l (v := (pT F 0)) rfl rfl rfl (r_fadd' rfl rfl) (D_r (v := (.i .u32 nx)) rfl rfl rfl (r_ld rfl hH5.get0 rfl) (D_r (v := lv) rfl rfl rfl (r_ld rfl hH5.get0 rfl) (D_l (v := (.i .i64 (((q.length : Nat)) : Int))) rfl rfl rfl (by exact (r_lenOf (v := lv) (n := q.length) rfl ((hlv.rd hH5.top1 (pr_lens q) (by decide)).lenOf (List.length_map ..)) (hlv.rd hH5.top1 (pr_lens q) (by decide)).isSl)) (D_l (v := (.i .u32 (IntKind.u32.wrap (((q.length : Nat)) : Int)))) rfl rfl rfl (r_cint rfl) (D_l (v := (.i .u32 (IntKind.u32.wrap (nx - (IntKind.u32.wrap (((q.length : Nat)) : Int)))))) rfl rfl rfl (r_bin rfl rfl rfl) (D_l (v := (.i .u32 (IntKind.u32.wrap ((IntKind.u32.wrap (nx - (IntKind.u32.wrap (((q.length : Nat)) : Int)))) - 1)))) rfl rfl rfl (r_bin rfl rfl rfl) (D_l (v := (.i .u32 (IntKind.u32.wrap ((IntKind.u32.wrap (nx - (IntKind.u32.wrap (((q.length : Nat)) : Int)))) - 1)))) rfl rfl rfl (r_mv rfl) (D_nil  ?_)))))))))))))
 refine C_ret  ?_
 have hH6 := (((hH5.top2).top2).top2)
 exact ⟨.inr rfl, _, resL_one (r_tmp (v := (.i .u32 (IntKind.u32.wrap ((IntKind.u32.wrap (nx - (IntKind.u32.wrap (((q.length : Nat)) : Int)))) - 1)))) rfl), rfl, hH6⟩
theorem len_raw {H : AH} {R : HL} {F : Nat} {lv : AV} {lc : List AV} {nx : Int} {q : List En} (hlv : Sq 1 lv lc (q.map En.pr).flatten) (hH0 : Hs H ([(F, some (.cells ([lv, (.i .u32 nx)]) true))] ++ ((qseg lv lc) ++ ((q.flatMap En.seg) ++ (R))))) : Ev tabA spA (.fn (.func 18) [] []) [.p (some (F, 0))] H (fun r H' => r = .i .i64 ((q.length : Nat) : Int) ∧ Hs H' ([(F, some (.cells ([lv, (.i .u32 nx)]) true))] ++ ((qseg lv lc) ++ ((q.flatMap En.seg) ++ (R))))) := by
 refine Ev_C (F := x18) rfl ?_
 refine C_seq  (C_region  (pv (.i .i64 0) rfl (O_nil  (C_seq  (C_seq  (C_region  (pv (pT F 0) rfl (O_p (.b false) (r_nilq_s rfl) (O_nil  ?_)))))))))
 refine C_cond (x := false) rfl (fun h => by cases h) (fun _ => ?_)
 refine C_skip  (C_seq  (C_region  (pv (pT F 0) rfl (O_p (pT F 0) (r_nilc rfl) (pf (pT F 0) rfl rfl (O_p lv (r_ld rfl hH0.get0 rfl) (O_p (.i .i64 (((q.length : Nat)) : Int)) (by exact (r_lenOf (v := lv) (n := q.length) rfl ((hlv.rd hH0.top1 (pr_lens q) (by decide)).lenOf (List.length_map ..)) (hlv.rd hH0.top1 (pr_lens q) (by decide)).isSl)) (pv (.i .i64 (((q.length : Nat)) : Int)) rfl (O_nil  (C_ret  ?_))))))))))
 have hH1 := (((hH0.top2).top2).top2)
 exact ⟨.inr rfl, _, resL_one (r_tmp (v := (.i .i64 (((q.length : Nat)) : Int))) rfl), rfl, hH1⟩
theorem dist_ev {H : AH} {R : HL} {a b : Int} (hH0 : Hs H R) : Ev tabA spA (.fn (.func 21) [] []) [.i .u32 a, .i .u32 b] H (fun r H' => r = .i .u32 (w32 (b - a)) ∧ Hs H' R) := by
 refine Ev_C (F := x21) rfl ?_
 refine C_seq  (C_region  (pv (.i .u32 0) rfl (O_nil  (C_seq  (C_region  (pv (.i .u32 b) rfl (pv (.i .u32 a) rfl (O_p (.i .u32 (IntKind.u32.wrap (b - a))) (r_bin rfl rfl rfl) (pv (.i .u32 (IntKind.u32.wrap (b - a))) rfl (O_nil  (C_ret  ?_)))))))))))
 exact ⟨.inr rfl, _, resL_one (r_tmp (v := (.i .u32 (IntKind.u32.wrap (b - a)))) rfl), rfl, hH0⟩
theorem waits_ev {H : AH} {R : HL} {x : En} (hno : ¬ x.e.st = 0) (hH0 : Hs H ([(x.n, some (.cells ([(.i .u8 x.e.c.k), (.i .u8 x.e.c.f), (.i .u32 x.e.a), (.i .u32 x.e.c.b), (.i .u16 x.e.c.o), (.i .u16 x.e.c.i), (.i .u32 x.e.c.p), x.e.c.x1, x.e.c.x2, x.e.c.x3, x.e.c.x4, x.dv, (.p (some (x.m, 0))), (.i .i64 x.e.st), (.i .i64 x.e.sent), (.i .i64 x.e.tm), (.i .i64 x.e.mi)]) true))] ++ (R))) : Ev tabA spA (.fn (.func 62) [] []) [.p (some (x.n, 0))] H (fun r H' => r = .b false ∧ Hs H' ([(x.n, some (.cells ([(.i .u8 x.e.c.k), (.i .u8 x.e.c.f), (.i .u32 x.e.a), (.i .u32 x.e.c.b), (.i .u16 x.e.c.o), (.i .u16 x.e.c.i), (.i .u32 x.e.c.p), x.e.c.x1, x.e.c.x2, x.e.c.x3, x.e.c.x4, x.dv, (.p (some (x.m, 0))), (.i .i64 x.e.st), (.i .i64 x.e.sent), (.i .i64 x.e.tm), (.i .i64 x.e.mi)]) true))] ++ (R))) := by
 refine Ev_C (F := x62) rfl ?_
 refine C_seq  (C_region  (pv (.b false) rfl (O_nil  (C_seq  (C_region  (pv (pT x.n 0) rfl (O_p (pT x.n 0) (r_nilc rfl) (pf (pT x.n 13) rfl rfl (O_p (.i .i64 x.e.st) (r_ld rfl hH0.get0 rfl) (O_p (.b false) (by exact (by rw [r_eql rfl rfl, decide_eq_false hno])) (pv (.b false) rfl (O_nil  (C_ret  ?_)))))))))))))
 exact ⟨.inr rfl, _, resL_one (r_tmp (v := (.b false)) rfl), rfl, hH0⟩
theorem ixp_ev {H : AH} {R : HL} {lv w : AV} {lc : List AV} {q : List En} {n : Nat} (hw : ∀ H' R', Hs H' (qseg lv lc ++ R') → Rw 1 H' w ((q.map En.pr).take n)) (hn : n ≤ q.length) (hql : q.length ≤ 100000) (hno : ∀ e ∈ (q.map En.e).take n, ¬ e.st = 0) (hH0 : Hs H ((qseg lv lc) ++ ((q.flatMap En.seg) ++ (R)))) : Ev tabA spA (.fn (.func 66) [] []) [w, .fn (.func 62) [] []] H (fun r H' => r = .i .i64 (-1) ∧ Hs H' ((qseg lv lc) ++ ((q.flatMap En.seg) ++ (R)))) := by
 refine Ev_C (F := x66) rfl ?_
 refine C_seq  (C_region  (pv (.i .i64 0) rfl (O_nil  (C_seq  (C_seq  (C_region  (pv w rfl (O_p (.i .i64 (((n : Nat)) : Int)) (by exact (r_lenOf (v := w) (n := n) rfl ((hw _ _ hH0.top0).lenOf (by rw [List.length_take, List.length_map]; exact Nat.min_eq_left hn)) (hw _ _ hH0.top0).isSl)) (pv (.i .i64 0) rfl (O_nil  (C_block  ?_)))))))))))
 refine C_while (fun m1 T2 H3 => ∃ j : Nat, m1 = n - j ∧ j ≤ n ∧ Hs H3 ((qseg lv lc) ++ ((q.flatMap En.seg) ++ (R))) ∧ T2.get 0 = w ∧ T2.get 1 = (.fn (.func 62) [] []) ∧ T2.get 7 = (.i .i64 (((n : Nat)) : Int)) ∧ T2.get 8 = (.i .i64 (((j : Nat)) : Int))) (fun m1 T2 H3 hI4 => ?_) n _ _ ⟨0, rfl, Nat.zero_le _, hH0, rfl, rfl, rfl, rfl⟩
 obtain ⟨j, hm5, hp6, hH11, hT7, hT8, hT9, hT10⟩ := hI4
 refine C_seq  (C_region  (O_p (.b (decide ((((j : Nat)) : Int) < (((n : Nat)) : Int)))) (r_lss hT10 hT9) (O_nil  (C_seq  ?_))))
 refine C_cond (x := (decide ((((j : Nat)) : Int) < (((n : Nat)) : Int)))) rfl (fun hc12 => ?_) (fun hc12 => ?_)
 ·
  try simp only [dz1, dz2, dz3, dz4, dz5, dz6, dz7, dz8, dz9] at hc12
  refine C_skip  (C_seq  (C_block  (C_seq  (C_region  ?_))))
  have hjl : j < q.length := by omega
  obtain ⟨x, hxj⟩ : ∃ e, q[j]? = some e := ⟨_, List.getElem?_eq_getElem hjl⟩
  have hH13 := (hH11.top1)
  have hH14 := En.out hxj hH13
  refine pv (nI j) hT10 (pv (nI j) rfl (O_nil  (C_seq  (C_region  (pv (.fn (.func 62) [] []) hT8 (pv w hT7 (pv (nI j) rfl ?_)))))))
  refine O_q (by exact Rw.row (hw _ _ hH14.top2) rfl (i := j) rfl (r := [(.p (some (x.n, 0)))]) ((List.getElem?_take_of_lt (by omega)).trans (pr_get hxj))) fun v16 hv15 => ?_
  obtain ⟨rb17, ro18, rfl, hr19⟩ := hv15
  refine O_p (pT x.n 0) (r_ldR (q := 0) rfl (hr19 _ (hw _ _ hH14.top2)) rfl) ?_
  refine O_call (Ev.mono (waits_ev (hno x.e (List.mem_of_getElem? (i := j) (by rw [List.getElem?_take_of_lt (by omega)]; exact en_e hxj))) hH14) fun v20 H21 hq22 => ?_)
  obtain ⟨rfl, hH23⟩ := hq22
  refine O_nil  ?_
  refine C_cond (x := false) rfl (fun h => by cases h) (fun _ => ?_)
  refine C_skip  (C_region  (O_p (.i .i64 ((((j : Nat)) : Int) + 1)) (by exact (r_addi hT10 rfl (wrap_i64 (by omega) (by omega)))) (pv (.i .i64 ((((j : Nat)) : Int) + 1)) rfl (O_nil  ?_))))
  have hH24 := ((hH23.top1).top1)
  have hH25 := En.back0 hxj hH24
  have hH26 := (hH25.top1)
  exact ⟨n - (j + 1), by omega, (j + 1), rfl, by omega, hH26, hT7, hT8, hT9, rfl⟩
 ·
  try simp only [dz1, dz2, dz3, dz4, dz5, dz6, dz7, dz8, dz9] at hc12
  refine C_exit  (nx_exit  (nx_exit  (bk_hit  (C_seq  (C_region  (pv (.i .i64 (-1)) rfl (O_nil  (C_ret  ?_))))))))
  have hH27 := ((hH11.top1).top1)
  exact ⟨.inr rfl, _, resL_one (r_tmp (v := (.i .i64 (-1))) rfl), rfl, hH27⟩
theorem contp_ev {H : AH} {R : HL} {lv w : AV} {lc : List AV} {q : List En} {n : Nat} (hw : ∀ H' R', Hs H' (qseg lv lc ++ R') → Rw 1 H' w ((q.map En.pr).take n)) (hn : n ≤ q.length) (hql : q.length ≤ 100000) (hno : ∀ e ∈ (q.map En.e).take n, ¬ e.st = 0) (hH0 : Hs H ((qseg lv lc) ++ ((q.flatMap En.seg) ++ (R)))) : Ev tabA spA (.fn (.func 61) [] []) [w, .fn (.func 62) [] []] H (fun r H' => r = .b false ∧ Hs H' ((qseg lv lc) ++ ((q.flatMap En.seg) ++ (R)))) := by
 refine Ev_C (F := x61) rfl ?_
 refine C_seq  (C_region  (pv (.b false) rfl (O_nil  (C_seq  (C_region  (pv w rfl (pv (.fn (.func 62) [] []) rfl ?_)))))))
 have hH1 := ((hH0.top1).top1)
 refine O_call (Ev.mono (ixp_ev hw hn hql hno hH1) fun v2 H3 hq4 => ?_)
 obtain ⟨rfl, hH5⟩ := hq4
 refine O_p (.b false) (by exact (by rw [r_geq rfl rfl, decide_eq_false (by decide)])) (pv (.b false) rfl (O_nil  (C_ret  ?_)))
 have hH6 := ((hH5.top1).top1)
 exact ⟨.inr rfl, _, resL_one (r_tmp (v := (.b false)) rfl), rfl, hH6⟩
theorem reached_raw {H : AH} {R : HL} {F : Nat} {lv : AV} {lc : List AV} {nx : Int} {q : List En} {cum : Int} {n : Nat} (hlv : Sq 1 lv lc (q.map En.pr).flatten) (hql : q.length ≤ 100000) (hcum : w32 (cum - (floorA nx q.length)) = ((n : Nat) : Int)) (hn : n ≤ q.length) (hno : ∀ e ∈ (q.map En.e).take n, ¬ e.st = 0) (hH0 : Hs H ([(F, some (.cells ([lv, (.i .u32 nx)]) true))] ++ ((qseg lv lc) ++ ((q.flatMap En.seg) ++ (R))))) : Ev tabA spA (.fn (.func 37) [] []) [.p (some (F, 0)), .i .u32 cum] H (fun r H' => r = .tup [.i .i64 ((n : Nat) : Int), .b true] ∧ Hs H' ([(F, some (.cells ([lv, (.i .u32 nx)]) true))] ++ ((qseg lv lc) ++ ((q.flatMap En.seg) ++ (R))))) := by
 refine Ev_C (F := x37) rfl ?_
 refine C_seq  (C_region  (pv (.i .i64 0) rfl (pv (.b false) rfl (O_nil  (C_seq  (C_region  (pv (pT F 0) rfl ?_)))))))
 have hH1 := (((hH0.top2).top2).top2)
 have hH2 := (((hH1.top2).top2).top2)
 refine O_call (Ev.mono (floor_raw hlv hH2) fun v3 H4 hq5 => ?_)
 obtain ⟨rfl, hH6⟩ := hq5
 refine pv (.i .u32 cum) rfl ?_
 refine O_call (Ev.mono (dist_ev hH6) fun v7 H8 hq9 => ?_)
 obtain ⟨rfl, hH10⟩ := hq9
 refine O_p (.i .i64 (((n : Nat)) : Int)) (by exact (by rw [show AV.i IntKind.i64 ((n : Nat) : Int) = .i .i64 (IntKind.i64.wrap (w32 (cum - (floorA nx q.length)))) by rw [hcum, wrap_i64 (by omega) (by omega)]]; exact r_cint rfl)) (pv (nI n) rfl (O_nil  (C_seq  (C_seq  (C_region  (pv (pT F 0) rfl (O_p (.b false) (r_nilq_s rfl) (pv (.b false) rfl (O_gk rfl (pv (nI n) rfl (O_gk rfl (pv (pT F 0) rfl (O_gk rfl ?_)))))))))))))
 refine O_p (pT F 0) (r_nilc rfl) (O_gk rfl (pf (pT F 0) rfl rfl (O_gk rfl (O_p lv (r_ld rfl hH10.get0 rfl) (O_gk rfl (O_p (.i .i64 (((q.length : Nat)) : Int)) (by exact (r_lenOf (v := lv) (n := q.length) rfl ((hlv.rd hH10.top1 (pr_lens q) (by decide)).lenOf (List.length_map ..)) (hlv.rd hH10.top1 (pr_lens q) (by decide)).isSl)) (O_gk rfl (O_p (.b false) (by exact (by rw [r_gtr rfl rfl, decide_eq_false (by omega)])) (O_p (.b false) (r_pick_f rfl rfl) (O_nil  ?_))))))))))
 refine C_cond (x := false) rfl (fun h => by cases h) (fun _ => ?_)
 refine C_skip  (C_seq  (C_region  (pv (nI n) rfl (pv (pT F 0) rfl (O_p (pT F 0) (r_nilc rfl) (pf (pT F 0) rfl rfl (O_p lv (r_ld rfl hH10.get0 rfl) (pv (nI n) rfl ?_))))))))
 refine O_q (by exact Rw.hi (hlv.rd hH10.top1 (pr_lens q) (by decide)) rfl (i := n) rfl (by rw [List.length_map]; exact hn)) fun v12 hv11 => ?_
 have hw29 : ∀ H' R', Hs H' (qseg lv lc ++ R') → Rw 1 H' v12 ((q.map En.pr).take n) := fun H' R' hh => hv11 H' (hlv.rd hh (pr_lens q) (by decide))
 have hH13 := ((hH10.top2).top2)
 refine O_call (Ev.mono (contp_ev hw29 hn hql hno hH13) fun v14 H15 hq16 => ?_)
 obtain ⟨rfl, hH17⟩ := hq16
 refine O_p (.b true) (r_un rfl rfl) (pv (nI n) rfl (pv (.b true) rfl (O_nil  (C_ret  ?_))))
 have hH18 := (((hH17.top1).top1).top2)
 exact ⟨.inr rfl, _, resL_cons (r_tmp (v := (.i .i64 (((n : Nat)) : Int))) rfl) (resL_one (r_tmp (v := (.b true)) rfl)), rfl, hH18⟩
theorem clonep_ev {H : AH} {R : HL} {lv : AV} {lc : List AV} {rows : List (List AV)} {wa : Option (Nat × Nat)} {wn wc wg : Nat} (hw : ∀ H' R', Hs H' (qseg lv lc ++ R') → Rw 1 H' (.sl wa wn wc wg) rows) (hr1 : ∀ r ∈ rows, r.length = 1) (hrl : rows.length ≤ 100000) (hH0 : Hs H (qseg lv lc ++ R)) : Ev tabA spA (.fn (.func 63) [] []) [(.sl wa wn wc wg)] H (fun z H' => ∃ c, Sq 1 z c rows.flatten ∧ Hs H' (qseg z c ++ (qseg lv lc ++ R))) := by
  refine Ev_C (F := x63) rfl ?_
  refine C_seq  (C_region  (pv (.sl none 0 0 0) rfl (O_nil  (C_seq  (C_seq  (C_region  (pv (.sl wa wn wc wg) rfl (O_p (.b (if false = true then !wa.isNone else wa.isNone)) (r_nils rfl) (O_nil  ?_)))))))))
  refine C_cond (x := (if false = true then !wa.isNone else wa.isNone)) rfl (fun hc1 => ?_) (fun hc1 => ?_)
  ·
    have hcx := hc1
    refine C_seq  (C_region  (pv (.sl none 0 0 0) rfl (O_nil  (C_ret  (nx_ret  ?_)))))
    have hnil : wa = none := by simpa using hcx
    obtain ⟨_, _, _, _, he, hz⟩ := (hw _ _ hH0.top0).isNone
    cases he
    have hr0 := hz hnil
    exact ⟨.inr rfl, _, resL_one (r_tmp (v := .sl none 0 0 0) rfl), [], by rw [hr0]; exact Sq.nil, hH0.addnil⟩
  ·
    have hcx := hc1
    refine C_skip  (C_seq  (C_region  ?_))
    refine O_bslice (c := []) rfl fun n2 H3 hN4 => ?_
    have hH5 := hH0.new hN4
    refine pv (.sl wa wn wc wg) rfl ?_
    refine O_qh (by exact r_appq (n := 0) (k := rows.length) (new := rows.flatten) hH5.top0 (Sq.full (b := n2) (n := 0) (g := 0) (sz := 1) (l := []) (.inl rfl) rfl) rfl rfl ((hw _ _ hH5.top1).lenOf rfl) (hw _ _ hH5.top1).src (flat_len hr1) (by decide) (by decide) rfl (by first | omega | (simp only [List.length_take, List.length_drop, List.length_append, List.length_cons, List.length_nil, beN_len] <;> omega))) fun o6 H7 hA9 => ?_
    obtain ⟨c8, hA9, hH10⟩ := hA9
    refine pv o6 rfl (O_nil  (C_ret  ?_))
    have hH11 := ((hH10.top1).top1)
    exact ⟨.inr rfl, _, resL_one (r_tmp (v := o6) rfl), c8, by have h := hA9; rw [List.nil_append] at h; exact h, hH11⟩
set_option linter.unusedVariables false
set_option linter.unusedSimpArgs false
def cov (bl : List (Int × Int)) (h : Int) : Bool := bl.any fun b => decide (b.1 ≤ h ∧ h ≤ b.2)
def hit (c : Bool) (e : Ea) : Prop := c = true ∧ (e.st = 1 ∨ e.st = 2)
instance (c : Bool) (e : Ea) : Decidable (hit c e) := by unfold hit; exact inferInstance
def Ea.setSt (e : Ea) (s : Int) : Ea := ⟨e.c, e.a, s, e.sent, e.tm, e.mi⟩
def Ea.re (e : Ea) : Ea := ⟨e.c, e.a, 1, e.sent, e.tm, 0⟩
def mk1 (c : Bool) (e : Ea) : Ea := if hit c e then e.setSt 3 else if c = false ∧ e.st = 3 then e.re else e
def mkd (bl : List (Int × Int)) : Nat → List Ea → List Ea
  | _, [] => []
  | k, e :: l => mk1 (cov bl (((k : Nat) : Int) + 1)) e :: mkd bl (k + 1) l
def mkb (bl : List (Int × Int)) : Nat → List Ea → Nat
  | _, [] => 0
  | k, e :: l => (if hit (cov bl (((k : Nat) : Int) + 1)) e then e.c.d.length else 0) + mkb bl (k + 1) l
def mkt (bl : List (Int × Int)) : Nat → List Ea → Nat → Nat
  | _, [], t => t
  | k, e :: l, t => mkt bl (k + 1) l (if hit (cov bl (((k : Nat) : Int) + 1)) e then k else t)
theorem mkd_len {bl : List (Int × Int)} : ∀ {l : List Ea} {k : Nat}, (mkd bl k l).length = l.length
  | [], k => rfl
  | e :: l, k => by show (mkd bl (k + 1) l).length + 1 = _; rw [mkd_len]; rfl
theorem mkd_snoc {bl : List (Int × Int)} {x : Ea} : ∀ {l : List Ea} {k : Nat}, mkd bl k (l ++ [x]) = mkd bl k l ++ [mk1 (cov bl (((k + l.length : Nat) : Int) + 1)) x]
  | [], k => rfl
  | e :: l, k => by
    show _ :: mkd bl (k + 1) (l ++ [x]) = _ :: (mkd bl (k + 1) l ++ _)
    rw [mkd_snoc, show k + 1 + l.length = k + (e :: l).length by simp only [List.length_cons]; omega]
theorem mkb_snoc {bl : List (Int × Int)} {x : Ea} : ∀ {l : List Ea} {k : Nat}, mkb bl k (l ++ [x]) = mkb bl k l + (if hit (cov bl (((k + l.length : Nat) : Int) + 1)) x then x.c.d.length else 0)
  | [], k => by show _ + 0 = 0 + _; rw [Nat.add_zero, Nat.zero_add]; rfl
  | e :: l, k => by
    show _ + mkb bl (k + 1) (l ++ [x]) = _ + mkb bl (k + 1) l + _
    rw [mkb_snoc, show k + 1 + l.length = k + (e :: l).length by simp only [List.length_cons]; omega, Nat.add_assoc]
theorem mkt_snoc {bl : List (Int × Int)} {x : Ea} : ∀ {l : List Ea} {k t : Nat}, mkt bl k (l ++ [x]) t = if hit (cov bl (((k + l.length : Nat) : Int) + 1)) x then k + l.length else mkt bl k l t
  | [], k, t => rfl
  | e :: l, k, t => by
    show mkt bl (k + 1) (l ++ [x]) _ = _
    rw [mkt_snoc, show k + 1 + l.length = k + (e :: l).length by simp only [List.length_cons]; omega]
    rfl
theorem mkb_le {bl : List (Int × Int)} : ∀ {l : List Ea} {k : Nat}, (∀ e ∈ l, e.c.d.length ≤ 1000000) → mkb bl k l ≤ l.length * 1000000
  | [], k, _ => Nat.zero_le _
  | e :: l, k, h => by
    have h1 := mkb_le (bl := bl) (l := l) (k := k + 1) fun x hx => h x (List.mem_cons_of_mem _ hx)
    have h2 := h e (List.mem_cons_self ..)
    show (if _ then _ else 0) + mkb bl (k + 1) l ≤ (l.length + 1) * 1000000
    split <;> omega
theorem mkt_lt {bl : List (Int × Int)} : ∀ {l : List Ea} {k t : Nat}, mkt bl k l t = t ∨ (k ≤ mkt bl k l t ∧ mkt bl k l t < k + l.length)
  | [], k, t => .inl rfl
  | e :: l, k, t => by
    show mkt bl (k + 1) l _ = t ∨ (k ≤ mkt bl (k + 1) l _ ∧ mkt bl (k + 1) l _ < k + (l.length + 1))
    rcases mkt_lt (bl := bl) (l := l) (k := k + 1) (t := if hit (cov bl (((k : Nat) : Int) + 1)) e then k else t) with h | h
    · rw [h]
      split
      · right; omega
      · left; rfl
    · right; omega
section
variable {bl : List (Int × Int)} {es : List Ea} {j : Nat} {e : Ea}
theorem mkd_at (h : es[j]? = some e) : mkd bl 0 (es.take (j + 1)) = mkd bl 0 (es.take j) ++ [mk1 (cov bl (((j : Nat) : Int) + 1)) e] := by
 have hj := (List.getElem?_eq_some_iff.1 h).1
 rw [take_at h, mkd_snoc, List.length_take, Nat.min_eq_left (Nat.le_of_lt hj), Nat.zero_add]
theorem mkb_at (h : es[j]? = some e) : mkb bl 0 (es.take (j + 1)) = mkb bl 0 (es.take j) + (if hit (cov bl (((j : Nat) : Int) + 1)) e then e.c.d.length else 0) := by
 have hj := (List.getElem?_eq_some_iff.1 h).1
 rw [take_at h, mkb_snoc, List.length_take, Nat.min_eq_left (Nat.le_of_lt hj), Nat.zero_add]
theorem mkt_at (h : es[j]? = some e) : mkt bl 0 (es.take (j + 1)) 0 = if hit (cov bl (((j : Nat) : Int) + 1)) e then j else mkt bl 0 (es.take j) 0 := by
 have hj := (List.getElem?_eq_some_iff.1 h).1
 rw [take_at h, mkt_snoc, List.length_take, Nat.min_eq_left (Nat.le_of_lt hj), Nat.zero_add]
theorem mkd_tlen {q : List En} : (mkd bl 0 ((q.map En.e).take j)).length = min j q.length := by rw [mkd_len, List.length_take, List.length_map]
end
def msE (e : Ea) : Ea := if e.st = 1 then (if 3 ≤ e.mi + 1 then ⟨e.c, e.a, 2, e.sent, e.tm, e.mi + 1⟩ else ⟨e.c, e.a, 1, e.sent, e.tm, e.mi + 1⟩) else e
def msL (e : Ea) : Bool := decide (e.st = 1 ∧ 3 ≤ e.mi + 1)
theorem ms_at {es : List Ea} {j : Nat} {e : Ea} (h : es[j]? = some e) : (es.take (j + 1)).map msE = (es.take j).map msE ++ [msE e] := by rw [take_at h, List.map_append]; rfl
theorem msl_at {es : List Ea} {j : Nat} {e : Ea} (h : es[j]? = some e) : (es.take (j + 1)).any msL = ((es.take j).any msL || msL e) := by rw [take_at h, List.any_append]; simp only [List.any_cons, List.any_nil, Bool.or_false]
theorem ms_tlen {q : List En} {j : Nat} : (((q.map En.e).take j).map msE).length = min j q.length := by rw [List.length_map, List.length_take, List.length_map]
def BksR (rows : List (List AV)) (bl : List (Int × Int)) : Prop := rows = bl.map (fun b => [.i .u16 b.1, .i .u16 b.2]) ∧ ∀ b ∈ bl, (0 ≤ b.1 ∧ b.1 < 65536) ∧ 0 ≤ b.2 ∧ b.2 < 65536
theorem BksR.row {rows : List (List AV)} {bl : List (Int × Int)} (h : BksR rows bl) {i : Nat} {b : Int × Int} (hi : bl[i]? = some b) : rows[i]? = some [.i .u16 b.1, .i .u16 b.2] := by rw [h.1, List.getElem?_map, hi]; rfl
theorem fx_ne {α : Type} {P : α → Bool} {w : List α} {i : Nat} {x : α} (hi : i < w.findIdx P) (h : w[i]? = some x) : P x = false := by
 have hn := List.not_of_lt_findIdx hi
 rw [(List.getElem?_eq_some_iff.1 h).2] at hn
 simpa using hn
theorem cov_no {bl : List (Int × Int)} {h : Int} (hi : bl.length ≤ bl.findIdx fun b => decide (b.1 ≤ h ∧ h ≤ b.2)) : cov bl h = false := by
 unfold cov
 rw [List.any_eq_false]
 intro b hb
 obtain ⟨k, hk⟩ := List.getElem?_of_mem hb
 have := fx_ne (P := fun b : Int × Int => decide (b.1 ≤ h ∧ h ≤ b.2)) (by have := (List.getElem?_eq_some_iff.1 hk).1; omega) hk
 simp only [this, Bool.false_eq_true, not_false_eq_true]
theorem cov_yes {bl : List (Int × Int)} {h : Int} {b : Int × Int} {i : Nat} (hi : bl[i]? = some b) (hb : decide (b.1 ≤ h ∧ h ≤ b.2) = true) : cov bl h = true := by
 unfold cov
 exact List.any_eq_true.2 ⟨b, List.mem_of_getElem? hi, hb⟩
set_option maxHeartbeats 2000000 in
theorem drop_raw {H : AH} {R D : HL} {F : Nat} {lv : AV} {lc : List AV} {nx : Int} {q : List En} {now : Int} {n : Nat} (hlv : Sq 1 lv lc (q.map En.pr).flatten) (hql : q.length ≤ 100000) (hok : ∀ x ∈ q, OctIn D x.dv x.e.c.d) (hsz : ∀ e ∈ q.map En.e, e.c.d.length ≤ 1000000) (hn : n ≤ q.length) (hnow : 0 ≤ now ∧ now ≤ 4611686018427387904) (htm : ∀ e ∈ q.map En.e, 0 ≤ e.tm ∧ e.tm ≤ 4611686018427387904) (hH0 : Hs H ([(F, some (.cells ([lv, (.i .u32 nx)]) true))] ++ ((qseg lv lc) ++ ((q.flatMap En.seg) ++ (R))))) : Ev tabA spA (.fn (.func 38) [] []) [.p (some (F, 0)), .i .i64 ((n : Nat) : Int), .i .i64 now] H (fun r H' => ∃ lv' lc', r = .agg [(.i .i64 ((((drB ((q.map En.e).take n)) : Nat)) : Int)), (.i .i64 (drS now ((q.map En.e).take n) (-1))), (.b false), (.b (decide ((0 : Int) < ((n : Nat) : Int))))] ∧ Sq 1 lv' lc' ((q.drop n).map En.pr).flatten ∧ Hs H' ([(F, some (.cells [lv', .i .u32 nx] true))] ++ (qseg lv' lc' ++ ((q.drop n).flatMap En.seg ++ R)))) := by
 refine Ev_C (F := x38) rfl ?_
 refine C_seq  (C_region  ?_)
 refine O_alloc fun n1 H2 hN3 => ?_
 have hH4 := hH0.new hN3
 refine O_nil  (C_seq  (C_region  (pv (nI n) rfl (O_p (.b (decide (0 < (((n : Nat)) : Int)))) (r_gtr rfl rfl) (O_p (.agg [(.i .i64 0), (.i .i64 (-1)), (.b false), (.b (decide (0 < (((n : Nat)) : Int))))]) (r_build rfl) ?_)))))
 refine O_alloc fun n5 H6 hN7 => ?_
 have hH8 := hH4.new hN7
 refine O_store (vs := [(.i .i64 0), (.i .i64 (-1)), (.b false), (.b (decide (0 < (((n : Nat)) : Int))))]) (c' := [(.i .i64 0), (.i .i64 (-1)), (.b false), (.b (decide (0 < (((n : Nat)) : Int))))]) rfl (by rfl) hH8.get0 rfl (List.cons_ne_nil _ _) (Nat.le_of_ble_eq_true rfl) rfl fun H9 hW10 => ?_
 have hH11 := hH8.wr0 hW10
 refine O_nil  (C_seq  (C_seq  (C_region  (pv (pT F 0) rfl (O_p (pT F 0) (r_nilc rfl) (pf (pT F 0) rfl rfl (O_p lv (r_ld rfl hH11.get2 rfl) (pv (nI n) rfl ?_))))))))
 refine O_q (by exact Rw.hi (hlv.rd hH11.top3 (pr_lens q) (by decide)) rfl (i := n) rfl (by rw [List.length_map]; exact hn)) fun v13 hv12 => ?_
 have hw18 : ∀ H' R', Hs H' (qseg lv lc ++ R') → Rw 1 H' v13 ((q.map En.pr).take n) := fun H' R' hh => hv12 H' (hlv.rd hh (pr_lens q) (by decide))
 refine O_p (.i .i64 (((n : Nat)) : Int)) (by exact (r_lenOf (v := v13) (n := n) rfl ((hw18 _ _ hH11.top3).lenOf (by rw [List.length_take, List.length_map]; exact Nat.min_eq_left hn)) (hw18 _ _ hH11.top3).isSl)) (pv (.i .i64 0) rfl (O_nil  (C_block  ?_)))
 have hH14 := ((((hH11.top1).top4).top4).top4)
 refine C_while (fun m15 T16 H17 => ∃ j : Nat, m15 = n - j ∧ j ≤ n ∧ Hs H17 ([(F, some (.cells ([lv, (.i .u32 nx)]) true))] ++ ((qseg lv lc) ++ ((q.flatMap En.seg) ++ ([(n1, some (.cells ([(.i .i64 0), (.i .i64 0), (.b false), (.b false)]) true))] ++ ([(n5, some (.cells ([(.i .i64 ((((drB ((q.map En.e).take j)) : Nat)) : Int)), (.i .i64 (drS now ((q.map En.e).take j) (-1))), (.b false), (.b (decide ((0 : Int) < ((n : Nat) : Int))))]) true))] ++ (R)))))) ∧ T16.get 0 = (.p (some (F, 0))) ∧ T16.get 1 = (.i .i64 (((n : Nat)) : Int)) ∧ T16.get 2 = (.i .i64 now) ∧ T16.get 6 = (.p (some (n1, 0))) ∧ T16.get 7 = (.p (some (n5, 0))) ∧ T16.get 18 = v13 ∧ T16.get 19 = (.i .i64 (((n : Nat)) : Int)) ∧ T16.get 20 = (.i .i64 (((j : Nat)) : Int))) (fun m15 T16 H17 hI18 => ?_) n _ _ ⟨0, rfl, Nat.zero_le _, hH14, rfl, rfl, rfl, rfl, rfl, rfl, rfl, rfl⟩
 obtain ⟨j, hm19, hp20, hH29, hT21, hT22, hT23, hT24, hT25, hT26, hT27, hT28⟩ := hI18
 refine C_seq  (C_region  (O_p (.b (decide ((((j : Nat)) : Int) < (((n : Nat)) : Int)))) (r_lss hT28 hT27) (O_nil  (C_seq  ?_))))
 refine C_cond (x := (decide ((((j : Nat)) : Int) < (((n : Nat)) : Int)))) rfl (fun hc30 => ?_) (fun hc30 => ?_)
 ·
  try simp only [dz1, dz2, dz3, dz4, dz5, dz6, dz7, dz8, dz9] at hc30
  refine C_skip  (C_seq  (C_block  (C_seq  ?_)))
  have hjl : j < q.length := by omega
  obtain ⟨x, hxj⟩ : ∃ e, q[j]? = some e := ⟨_, List.getElem?_eq_getElem hjl⟩
  have hH31 := (hH29.top2)
  have hH32 := En.out hxj hH31
  obtain ⟨da, dc, dg, de, dhg, dhc, dhm, dhb⟩ := (hok x (List.mem_of_getElem? hxj))
  rw [de] at hH32
  have hxs := hsz x.e (List.mem_of_getElem? (en_e hxj))
  have hxt := htm x.e (List.mem_of_getElem? (en_e hxj))
  have hdb := drB_le (l := (q.map En.e).take j) (fun e he => hsz e (List.mem_of_mem_take he))
  rw [List.length_take, List.length_map] at hdb
  have hmin : min j q.length ≤ 100000 := Nat.le_trans (Nat.min_le_right _ _) hql
  by_cases hdn : x.e.st = 3 ∨ x.e.st = 4
  ·
   by_cases his3 : x.e.st = 3
   ·
    refine C_region  ?_
    refine O_q (by exact Rw.row (hw18 _ _ hH32.top3) (by exact hT26) (i := j) (by exact hT28) (r := [(.p (some (x.n, 0)))]) ((List.getElem?_take_of_lt (by omega)).trans (pr_get hxj))) fun v34 hv33 => ?_
    obtain ⟨rb35, ro36, rfl, hr37⟩ := hv33
    refine O_p (pT x.n 0) (r_ldR (q := 0) rfl (hr37 _ (hw18 _ _ hH32.top3)) rfl) (pv (pT x.n 0) rfl (O_nil  (C_seq  (C_seq  (C_region  (pv (pT x.n 0) rfl (O_p (pT x.n 0) (r_nilc rfl) (pf (pT x.n 13) rfl rfl (O_p (.i .i64 x.e.st) (r_ld rfl hH32.get0 rfl) (O_p (.b true) (by exact (by rw [r_eql rfl rfl, decide_eq_true (by omega)])) (pv (.b true) rfl (O_gf rfl (O_gf rfl ?_)))))))))))))
    refine O_gf rfl (O_gf rfl (O_gf rfl (O_p (.b true) (r_pick_t rfl rfl) (O_nil  ?_))))
    refine C_cond (x := true) rfl (fun _ => ?_) (fun h => by cases h)
    refine C_exit  (nx_exit  (bk_hit  (C_region  (O_p (.i .i64 ((((j : Nat)) : Int) + 1)) (by exact (r_addi hT28 rfl (wrap_i64 (by omega) (by omega)))) (pv (.i .i64 ((((j : Nat)) : Int) + 1)) rfl (O_nil  ?_))))))
    have hH38 := ((hH32.top1).top1)
    rw [← de] at hH38
    have hH39 := ((hH38.top1).top1)
    have hH40 := En.back0 hxj hH39
    have hH41 := (((((hH40.top4).top4).top2).top4).top4)
    have hH42 := hH41
    rw [← drB_skip (en_e hxj) hdn, ← drS_skip (now := now) (s := -1) (en_e hxj) hdn] at hH42
    exact ⟨n - (j + 1), by omega, (j + 1), rfl, by omega, hH42, hT21, hT22, hT23, hT24, hT25, hT26, hT27, rfl⟩
   ·
    refine C_region  ?_
    refine O_q (by exact Rw.row (hw18 _ _ hH32.top3) (by exact hT26) (i := j) (by exact hT28) (r := [(.p (some (x.n, 0)))]) ((List.getElem?_take_of_lt (by omega)).trans (pr_get hxj))) fun v44 hv43 => ?_
    obtain ⟨rb45, ro46, rfl, hr47⟩ := hv43
    refine O_p (pT x.n 0) (r_ldR (q := 0) rfl (hr47 _ (hw18 _ _ hH32.top3)) rfl) (pv (pT x.n 0) rfl (O_nil  (C_seq  (C_seq  (C_region  (pv (pT x.n 0) rfl (O_p (pT x.n 0) (r_nilc rfl) (pf (pT x.n 13) rfl rfl (O_p (.i .i64 x.e.st) (r_ld rfl hH32.get0 rfl) (O_p (.b false) (by exact (by rw [r_eql rfl rfl, decide_eq_false (by omega)])) (pv (.b false) rfl (O_gk rfl (pv (pT x.n 0) rfl ?_)))))))))))))
    refine O_gk rfl (O_p (pT x.n 0) (r_nilc rfl) (O_gk rfl (pf (pT x.n 13) rfl rfl (O_gk rfl (O_p (.i .i64 x.e.st) (r_ld rfl hH32.get0 rfl) (O_gk rfl (O_p (.b true) (by exact (by rw [r_eql rfl rfl, decide_eq_true (by omega)])) (O_p (.b true) (r_pick_f rfl rfl) (O_nil  ?_)))))))))
    refine C_cond (x := true) rfl (fun _ => ?_) (fun h => by cases h)
    refine C_exit  (nx_exit  (bk_hit  (C_region  (O_p (.i .i64 ((((j : Nat)) : Int) + 1)) (by exact (r_addi hT28 rfl (wrap_i64 (by omega) (by omega)))) (pv (.i .i64 ((((j : Nat)) : Int) + 1)) rfl (O_nil  ?_))))))
    have hH48 := ((hH32.top1).top1)
    rw [← de] at hH48
    have hH49 := ((hH48.top1).top1)
    have hH50 := En.back0 hxj hH49
    have hH51 := (((((hH50.top4).top4).top2).top4).top4)
    have hH52 := hH51
    rw [← drB_skip (en_e hxj) hdn, ← drS_skip (now := now) (s := -1) (en_e hxj) hdn] at hH52
    exact ⟨n - (j + 1), by omega, (j + 1), rfl, by omega, hH52, hT21, hT22, hT23, hT24, hT25, hT26, hT27, rfl⟩
  ·
   by_cases hone : x.e.sent = 1
   ·
    refine C_region  ?_
    refine O_q (by exact Rw.row (hw18 _ _ hH32.top3) (by exact hT26) (i := j) (by exact hT28) (r := [(.p (some (x.n, 0)))]) ((List.getElem?_take_of_lt (by omega)).trans (pr_get hxj))) fun v54 hv53 => ?_
    obtain ⟨rb55, ro56, rfl, hr57⟩ := hv53
    refine O_p (pT x.n 0) (r_ldR (q := 0) rfl (hr57 _ (hw18 _ _ hH32.top3)) rfl) (pv (pT x.n 0) rfl (O_nil  (C_seq  (C_seq  (C_region  (pv (pT x.n 0) rfl (O_p (pT x.n 0) (r_nilc rfl) (pf (pT x.n 13) rfl rfl (O_p (.i .i64 x.e.st) (r_ld rfl hH32.get0 rfl) (O_p (.b false) (by exact (by rw [r_eql rfl rfl, decide_eq_false (by omega)])) (pv (.b false) rfl (O_gk rfl (pv (pT x.n 0) rfl ?_)))))))))))))
    refine O_gk rfl (O_p (pT x.n 0) (r_nilc rfl) (O_gk rfl (pf (pT x.n 13) rfl rfl (O_gk rfl (O_p (.i .i64 x.e.st) (r_ld rfl hH32.get0 rfl) (O_gk rfl (O_p (.b false) (by exact (by rw [r_eql rfl rfl, decide_eq_false (by omega)])) (O_p (.b false) (r_pick_f rfl rfl) (O_nil  ?_)))))))))
    refine C_cond (x := false) rfl (fun h => by cases h) (fun _ => ?_)
    refine C_skip  (C_seq  ?_)
    refine C_draw fun b58 H59 hbase60 hA61 => ?_
    have hH62 := hH32.keep (by have := hA61.1; omega) (fun q _ => hA61.2 q) ((hH32.old).aside hA61).ok
    refine D_l (v := (pT n5 0)) rfl rfl rfl (r_fadd' hT25 rfl) (D_l (v := (pT x.n 0)) rfl rfl rfl (r_mv rfl) (D_r (v := (.i .i64 ((((drB ((q.map En.e).take j)) : Nat)) : Int))) rfl rfl rfl (r_ld rfl hH62.get5 rfl) ?_))
    refine D_call (Ev.mono (size_ev hH62) fun v63 H64 hq65 => ?_)
    obtain ⟨rfl, hH66⟩ := hq65
    refine And.intro (And.intro (Or.inr (look_run rfl rfl (r_ld rfl hH66.get5 rfl))) True.intro) (D_l (v := (.i .i64 (((((drB ((q.map En.e).take j)) : Nat)) : Int) + (((x.e.c.d.length : Nat)) : Int)))) rfl rfl rfl (by exact (r_addi rfl rfl (wrap_i64 (by omega) (by omega)))) (D_l (v := (pT n5 0)) rfl rfl rfl (r_fadd' hT25 rfl) ?_))
    refine D_store (vs := [(.i .i64 (((((drB ((q.map En.e).take j)) : Nat)) : Int) + (((x.e.c.d.length : Nat)) : Int)))]) (c' := [(.i .i64 (((((drB ((q.map En.e).take j)) : Nat)) : Int) + (((x.e.c.d.length : Nat)) : Int))), (.i .i64 (drS now ((q.map En.e).take j) (-1))), (.b false), (.b (decide ((0 : Int) < ((n : Nat) : Int))))]) rfl (by rfl) hH66.get5 rfl (List.cons_ne_nil _ _) (Nat.le_of_ble_eq_true rfl) rfl fun H67 hW68 => ?_
    have hH69 := hH66.wr5 hW68
    refine And.intro (And.intro (Or.inl rfl) True.intro) (D_nil  (C_seq  (C_region  (pv (pT x.n 0) rfl (O_p (pT x.n 0) (r_nilc rfl) (pf (pT x.n 14) rfl rfl (O_p (.i .i64 x.e.sent) (r_ld rfl hH69.get0 rfl) (O_p (.b true) (by exact (by rw [r_eql rfl rfl, decide_eq_true hone])) (O_nil  ?_)))))))))
    refine C_cond (x := true) rfl (fun _ => ?_) (fun h => by cases h)
    refine C_region  (pv (.i .i64 now) hT23 (pv (pT x.n 0) rfl (O_p (pT x.n 0) (r_nilc rfl) (pf (pT x.n 15) rfl rfl (O_p (.i .i64 x.e.tm) (r_ld rfl hH69.get0 rfl) (O_p (.i .i64 (now - x.e.tm)) (by exact (r_subi rfl rfl (wrap_i64 (by omega) (by omega)))) (O_p (pT n5 1) (r_fadd' hT25 rfl) ?_)))))))
    refine O_store (vs := [(.i .i64 (now - x.e.tm))]) (c' := [(.i .i64 (((((drB ((q.map En.e).take j)) : Nat)) : Int) + (((x.e.c.d.length : Nat)) : Int))), (.i .i64 (now - x.e.tm)), (.b false), (.b (decide ((0 : Int) < ((n : Nat) : Int))))]) rfl (by rfl) hH69.get5 rfl (List.cons_ne_nil _ _) (Nat.le_of_ble_eq_true rfl) rfl fun H70 hW71 => ?_
    have hH72 := hH69.wr5 hW71
    refine O_nil  (C_region  (O_p (.i .i64 ((((j : Nat)) : Int) + 1)) (by exact (r_addi hT28 rfl (wrap_i64 (by omega) (by omega)))) (pv (.i .i64 ((((j : Nat)) : Int) + 1)) rfl (O_nil  ?_))))
    have hH73 := ((hH72.top1).top1)
    rw [← de] at hH73
    have hH74 := ((hH73.top1).top1)
    have hH75 := En.back0 hxj hH74
    have hH76 := (((((hH75.top4).top4).top2).top4).top4)
    have hH77 := hH76
    rw [show ((drB ((q.map En.e).take j) : Nat) : Int) + ((x.e.c.d.length : Nat) : Int) = ((drB ((q.map En.e).take (j + 1)) : Nat) : Int) by rw [drB_take (en_e hxj) hdn]; omega, ← drS_one (now := now) (s := -1) (en_e hxj) hdn hone] at hH77
    exact ⟨n - (j + 1), by omega, (j + 1), rfl, by omega, hH77, hT21, hT22, hT23, hT24, hT25, hT26, hT27, rfl⟩
   ·
    refine C_region  ?_
    refine O_q (by exact Rw.row (hw18 _ _ hH32.top3) (by exact hT26) (i := j) (by exact hT28) (r := [(.p (some (x.n, 0)))]) ((List.getElem?_take_of_lt (by omega)).trans (pr_get hxj))) fun v79 hv78 => ?_
    obtain ⟨rb80, ro81, rfl, hr82⟩ := hv78
    refine O_p (pT x.n 0) (r_ldR (q := 0) rfl (hr82 _ (hw18 _ _ hH32.top3)) rfl) (pv (pT x.n 0) rfl (O_nil  (C_seq  (C_seq  (C_region  (pv (pT x.n 0) rfl (O_p (pT x.n 0) (r_nilc rfl) (pf (pT x.n 13) rfl rfl (O_p (.i .i64 x.e.st) (r_ld rfl hH32.get0 rfl) (O_p (.b false) (by exact (by rw [r_eql rfl rfl, decide_eq_false (by omega)])) (pv (.b false) rfl (O_gk rfl (pv (pT x.n 0) rfl ?_)))))))))))))
    refine O_gk rfl (O_p (pT x.n 0) (r_nilc rfl) (O_gk rfl (pf (pT x.n 13) rfl rfl (O_gk rfl (O_p (.i .i64 x.e.st) (r_ld rfl hH32.get0 rfl) (O_gk rfl (O_p (.b false) (by exact (by rw [r_eql rfl rfl, decide_eq_false (by omega)])) (O_p (.b false) (r_pick_f rfl rfl) (O_nil  ?_)))))))))
    refine C_cond (x := false) rfl (fun h => by cases h) (fun _ => ?_)
    refine C_skip  (C_seq  ?_)
    refine C_draw fun b83 H84 hbase85 hA86 => ?_
    have hH87 := hH32.keep (by have := hA86.1; omega) (fun q _ => hA86.2 q) ((hH32.old).aside hA86).ok
    refine D_l (v := (pT n5 0)) rfl rfl rfl (r_fadd' hT25 rfl) (D_l (v := (pT x.n 0)) rfl rfl rfl (r_mv rfl) (D_r (v := (.i .i64 ((((drB ((q.map En.e).take j)) : Nat)) : Int))) rfl rfl rfl (r_ld rfl hH87.get5 rfl) ?_))
    refine D_call (Ev.mono (size_ev hH87) fun v88 H89 hq90 => ?_)
    obtain ⟨rfl, hH91⟩ := hq90
    refine And.intro (And.intro (Or.inr (look_run rfl rfl (r_ld rfl hH91.get5 rfl))) True.intro) (D_l (v := (.i .i64 (((((drB ((q.map En.e).take j)) : Nat)) : Int) + (((x.e.c.d.length : Nat)) : Int)))) rfl rfl rfl (by exact (r_addi rfl rfl (wrap_i64 (by omega) (by omega)))) (D_l (v := (pT n5 0)) rfl rfl rfl (r_fadd' hT25 rfl) ?_))
    refine D_store (vs := [(.i .i64 (((((drB ((q.map En.e).take j)) : Nat)) : Int) + (((x.e.c.d.length : Nat)) : Int)))]) (c' := [(.i .i64 (((((drB ((q.map En.e).take j)) : Nat)) : Int) + (((x.e.c.d.length : Nat)) : Int))), (.i .i64 (drS now ((q.map En.e).take j) (-1))), (.b false), (.b (decide ((0 : Int) < ((n : Nat) : Int))))]) rfl (by rfl) hH91.get5 rfl (List.cons_ne_nil _ _) (Nat.le_of_ble_eq_true rfl) rfl fun H92 hW93 => ?_
    have hH94 := hH91.wr5 hW93
    refine And.intro (And.intro (Or.inl rfl) True.intro) (D_nil  (C_seq  (C_region  (pv (pT x.n 0) rfl (O_p (pT x.n 0) (r_nilc rfl) (pf (pT x.n 14) rfl rfl (O_p (.i .i64 x.e.sent) (r_ld rfl hH94.get0 rfl) (O_p (.b false) (by exact (by rw [r_eql rfl rfl, decide_eq_false hone])) (O_nil  ?_)))))))))
    refine C_cond (x := false) rfl (fun h => by cases h) (fun _ => ?_)
    refine C_skip  (C_region  (O_p (.i .i64 ((((j : Nat)) : Int) + 1)) (by exact (r_addi hT28 rfl (wrap_i64 (by omega) (by omega)))) (pv (.i .i64 ((((j : Nat)) : Int) + 1)) rfl (O_nil  ?_))))
    have hH95 := ((hH94.top1).top1)
    rw [← de] at hH95
    have hH96 := ((hH95.top1).top1)
    have hH97 := En.back0 hxj hH96
    have hH98 := (((((hH97.top4).top4).top2).top4).top4)
    have hH99 := hH98
    rw [show ((drB ((q.map En.e).take j) : Nat) : Int) + ((x.e.c.d.length : Nat) : Int) = ((drB ((q.map En.e).take (j + 1)) : Nat) : Int) by rw [drB_take (en_e hxj) hdn]; omega, ← drS_more (now := now) (s := -1) (en_e hxj) hdn hone] at hH99
    exact ⟨n - (j + 1), by omega, (j + 1), rfl, by omega, hH99, hT21, hT22, hT23, hT24, hT25, hT26, hT27, rfl⟩
 ·
  try simp only [dz1, dz2, dz3, dz4, dz5, dz6, dz7, dz8, dz9] at hc30
  refine C_exit  (nx_exit  (nx_exit  (bk_hit  (C_seq  (C_region  ?_)))))
  have hjn : j = n := by omega
  refine pv (pT F 0) hT21 (pv (pT F 0) hT21 (O_p (pT F 0) (r_nilc rfl) (pf (pT F 0) rfl rfl (O_p lv (r_ld rfl hH29.get0 rfl) (pv (nI n) hT22 ?_)))))
  refine O_q (by exact Rw.lo (hlv.rd hH29.top1 (pr_lens q) (by decide)) rfl (i := n) rfl (by rw [List.length_map]; exact hn)) fun v101 hv100 => ?_
  have hw61 : ∀ H' R', Hs H' (qseg lv lc ++ R') → Rw 1 H' v101 ((q.map En.pr).drop n) := fun H' R' hh => hv100 H' (hlv.rd hh (pr_lens q) (by decide))
  obtain ⟨wa, wn, wc, wg, rfl, _⟩ := (hw61 _ _ hH29.top1).isNone
  have hH102 := (hH29.top1)
  refine O_call (Ev.mono (clonep_ev hw61 (fun r hr => pr_lens q r (List.mem_of_mem_drop hr)) (by rw [List.length_drop, List.length_map]; omega) hH102) fun v103 H104 hq105 => ?_)
  obtain ⟨c106, hSq107, hH108⟩ := hq105
  obtain ⟨qa109, ql110, qc111, qg112, rfl⟩ := hSq107.isSl
  refine O_p (pT F 0) (r_nilc rfl) (pf (pT F 0) rfl rfl ?_)
  refine O_store (vs := [(.sl qa109 ql110 qc111 qg112)]) (c' := [(.sl qa109 ql110 qc111 qg112), (.i .u32 nx)]) rfl (by rfl) hH108.get2 rfl (List.cons_ne_nil _ _) (Nat.le_of_ble_eq_true rfl) rfl fun H113 hW114 => ?_
  have hH115 := hH108.wr2 hW114
  refine O_nil  (C_seq  (C_region  (O_p (.agg [(.i .i64 ((((drB ((q.map En.e).take j)) : Nat)) : Int)), (.i .i64 (drS now ((q.map En.e).take j) (-1))), (.b false), (.b (decide ((0 : Int) < ((n : Nat) : Int))))]) (r_ldA hT25 hH115.get5 rfl) ?_)))
  refine O_store (vs := [(.i .i64 ((((drB ((q.map En.e).take j)) : Nat)) : Int)), (.i .i64 (drS now ((q.map En.e).take j) (-1))), (.b false), (.b (decide ((0 : Int) < ((n : Nat) : Int))))]) (c' := [(.i .i64 ((((drB ((q.map En.e).take j)) : Nat)) : Int)), (.i .i64 (drS now ((q.map En.e).take j) (-1))), (.b false), (.b (decide ((0 : Int) < ((n : Nat) : Int))))]) hT24 (by rfl) hH115.get4 rfl (List.cons_ne_nil _ _) (Nat.le_of_ble_eq_true rfl) rfl fun H116 hW117 => ?_
  have hH118 := hH115.wr4 hW117
  refine O_nil  (C_ret  ?_)
  have hcell := hH118.get4
  have hH119 := (((hH118.sub1).sub3).sub3)
  have hH120 := (((hH119.top2).top1).top2)
  have hH121 := (hH120.top2)
  have hH122 := En.cut n hH121
  have hH123 := ((hH122.top2).top2)
  rw [hjn] at hcell
  exact ⟨.inr rfl, _, resL_one (r_cellA (o := 0) (l := [(.i .i64 ((((drB ((q.map En.e).take n)) : Nat)) : Int)), (.i .i64 (drS now ((q.map En.e).take n) (-1))), (.b false), (.b (decide ((0 : Int) < ((n : Nat) : Int))))]) hT24 hcell rfl), (.sl qa109 ql110 qc111 qg112), c106, rfl, by rw [List.map_drop]; exact hSq107, hH123⟩
set_option linter.unusedVariables false
set_option linter.unusedSimpArgs false
theorem mk1_hit {c : Bool} {e : Ea} (h : hit c e) : mk1 c e = e.setSt 3 := by unfold mk1; rw [if_pos h]
theorem mk1_re {c : Bool} {e : Ea} (h : c = false) (h3 : e.st = 3) : mk1 c e = e.re := by
 have hn : ¬ hit c e := fun hh => by have := hh.1; rw [h] at this; cases this
 unfold mk1; rw [if_neg hn, if_pos ⟨h, h3⟩]
theorem mk1_no {c : Bool} {e : Ea} (h : ¬ hit c e) (h3 : ¬ (c = false ∧ e.st = 3)) : mk1 c e = e := by unfold mk1; rw [if_neg h, if_neg h3]
theorem msE_no {e : Ea} (h : ¬ e.st = 1) : msE e = e ∧ msL e = false := ⟨by unfold msE; rw [if_neg h], by unfold msL; rw [decide_eq_false (fun h9 => h h9.1)]⟩
theorem msE_lo {e : Ea} (h : e.st = 1) (h3 : 3 ≤ e.mi + 1) : msE e = ⟨e.c, e.a, 2, e.sent, e.tm, e.mi + 1⟩ ∧ msL e = true := ⟨by unfold msE; rw [if_pos h, if_pos h3], by unfold msL; rw [decide_eq_true ⟨h, h3⟩]⟩
theorem msE_up {e : Ea} (h : e.st = 1) (h3 : ¬ 3 ≤ e.mi + 1) : msE e = ⟨e.c, e.a, 1, e.sent, e.tm, e.mi + 1⟩ ∧ msL e = false := ⟨by unfold msE; rw [if_pos h, if_neg h3], by unfold msL; rw [decide_eq_false (fun h9 => h3 h9.2)]⟩
theorem cov1_ev {H : AH} {R : HL} {hb : Nat} {h b1 b2 : Int} (h1 : 0 ≤ b1 ∧ b1 < 65536) (h2 : 0 ≤ b2 ∧ b2 < 65536) (hH0 : Hs H ([(hb, some (.cells ([(.i .i64 h)]) true))] ++ (R))) : Ev tabA spA (.fn (.func 74) [] [.p (some (hb, 0))]) [.agg [.i .u16 b1, .i .u16 b2]] H (fun r H' => r = .b (decide (b1 ≤ h ∧ h ≤ b2)) ∧ Hs H' ([(hb, some (.cells ([(.i .i64 h)]) true))] ++ (R))) := by
 refine Ev_C (F := x74) rfl ?_
 refine C_seq  (C_region  ?_)
 refine O_box (z := [(.i .u16 b1), (.i .u16 b2)]) rfl fun n1 H2 hN3 => ?_
 have hH4 := hH0.new hN3
 refine pv (.b false) rfl (O_nil  (C_seq  (C_region  (pf (pT n1 0) rfl rfl (O_p (.i .u16 b1) (r_ld rfl hH4.get0 rfl) (O_p (.i .i64 b1) (by exact (r_cint' rfl (wrap_i64 (by omega) (by omega)))) (O_p (.i .i64 h) (r_ld rfl hH4.get1 rfl) (O_p (.b (decide (b1 ≤ h))) (r_leq rfl rfl) (pv (.b (decide (b1 ≤ h))) rfl (O_gx (e := (decide (b1 ≤ h))) (v := (.i .i64 h)) (wt rfl) (fun he => (r_ld rfl hH4.get1 rfl)) (O_gx (e := (decide (b1 ≤ h))) (v := (pT n1 1)) (wt rfl) (fun he => (r_fadd' rfl rfl)) (O_gx (e := (decide (b1 ≤ h))) (v := (.i .u16 b2)) (wt rfl) (fun he => (r_ld (cond_pos he) hH4.get0 rfl)) (O_gx (e := (decide (b1 ≤ h))) (v := (.i .i64 b2)) (wt rfl) (fun he => (by exact (r_cint' (cond_pos he) (wrap_i64 (by omega) (by omega))))) ?_)))))))))))))
 refine O_gx (e := (decide (b1 ≤ h))) (v := (.b (decide (h ≤ b2)))) (wt rfl) (fun he => (r_leq (cond_pos he) (cond_pos he))) (O_p (.b ((decide (b1 ≤ h)) && (decide (h ≤ b2)))) (r_pick_and rfl rfl rfl rfl) (pv (.b ((decide (b1 ≤ h)) && (decide (h ≤ b2)))) rfl (O_nil  (C_ret  ?_))))
 have hH5 := (hH4.sub0)
 exact ⟨.inr rfl, _, resL_one (r_tmp (v := (.b ((decide (b1 ≤ h)) && (decide (h ≤ b2))))) rfl), by rw [Bool.decide_and]; rfl, hH5⟩
set_option maxHeartbeats 1000000 in
theorem covi_ev {H : AH} {R B : HL} {hb : Nat} {h : Int} {v : AV} {rows : List (List AV)} {bl : List (Int × Int)} (hv : ∀ H', Hs H' B → Rw 2 H' v rows) (hbr : BksR rows bl) (hbl : bl.length ≤ 100000) (hH0 : Hs H ([(hb, some (.cells ([(.i .i64 h)]) true))] ++ (B ++ (R)))) : Ev tabA spA (.fn (.func 77) [] []) [v, .fn (.func 74) [] [.p (some (hb, 0))]] H (fun r H' => ((cov bl h = false ∧ r = .i .i64 (-1)) ∨ (cov bl h = true ∧ ∃ i : Nat, r = .i .i64 ((i : Nat) : Int))) ∧ Hs H' ([(hb, some (.cells ([(.i .i64 h)]) true))] ++ (B ++ (R)))) := by
 refine Ev_C (F := x77) rfl ?_
 refine C_seq  (C_region  (pv (.i .i64 0) rfl (O_nil  (C_seq  (C_seq  (C_region  (pv v rfl (O_p (.i .i64 (((bl.length : Nat)) : Int)) (by exact (r_lenOf (v := v) (n := bl.length) rfl ((hv _ hH0.top1.fst).lenOf (by rw [hbr.1, List.length_map])) (hv _ hH0.top1.fst).isSl)) (pv (.i .i64 0) rfl (O_nil  (C_block  ?_)))))))))))
 refine C_while (fun m1 T2 H3 => ∃ j : Nat, m1 = bl.length - j ∧ j ≤ bl.length ∧ j ≤ bl.findIdx (fun b : Int × Int => decide (b.1 ≤ h ∧ h ≤ b.2)) ∧ Hs H3 ([(hb, some (.cells ([(.i .i64 h)]) true))] ++ (B ++ (R))) ∧ T2.get 0 = v ∧ T2.get 1 = (.fn (.func 74) [] [.p (some (hb, 0))]) ∧ T2.get 7 = (.i .i64 (((bl.length : Nat)) : Int)) ∧ T2.get 8 = (.i .i64 (((j : Nat)) : Int))) (fun m1 T2 H3 hI4 => ?_) bl.length _ _ ⟨0, rfl, Nat.zero_le _, Nat.zero_le _, hH0, rfl, rfl, rfl, rfl⟩
 obtain ⟨j, hm5, hp6, hp7, hH12, hT8, hT9, hT10, hT11⟩ := hI4
 refine C_seq  (C_region  (O_p (.b (decide ((((j : Nat)) : Int) < (((bl.length : Nat)) : Int)))) (r_lss hT11 hT10) (O_nil  (C_seq  ?_))))
 refine C_cond (x := (decide ((((j : Nat)) : Int) < (((bl.length : Nat)) : Int)))) rfl (fun hc13 => ?_) (fun hc13 => ?_)
 ·
  try simp only [dz1, dz2, dz3, dz4, dz5, dz6, dz7, dz8, dz9] at hc13
  refine C_skip  (C_seq  (C_block  (C_seq  (C_region  ?_))))
  have hjl : j < bl.length := by omega
  obtain ⟨b, hbi⟩ : ∃ b, bl[j]? = some b := ⟨_, List.getElem?_eq_getElem hjl⟩
  have hbb := hbr.2 b (List.mem_of_getElem? hbi)
  refine pv (nI j) hT11 (pv (nI j) rfl (O_nil  (C_seq  (C_region  (pv (.fn (.func 74) [] [.p (some (hb, 0))]) hT9 (pv v hT8 (pv (nI j) rfl ?_)))))))
  refine O_q (by exact Rw.row (hv _ hH12.top1.fst) rfl (i := j) rfl (r := [(.i .u16 b.1), (.i .u16 b.2)]) (hbr.row hbi)) fun v15 hv14 => ?_
  obtain ⟨rb16, ro17, rfl, hr18⟩ := hv14
  refine O_p (.agg [(.i .u16 b.1), (.i .u16 b.2)]) (r_ldRA (q := 0) rfl (hr18 _ (hv _ hH12.top1.fst)) rfl) ?_
  refine O_call (Ev.mono (cov1_ev hbb.1 hbb.2 hH12) fun v19 H20 hq21 => ?_)
  obtain ⟨rfl, hH22⟩ := hq21
  refine O_nil  ?_
  refine C_cond (x := (decide (b.1 ≤ h ∧ h ≤ b.2))) rfl (fun hc23 => ?_) (fun hc23 => ?_)
  ·
   have hP : (fun b : Int × Int => decide (b.1 ≤ h ∧ h ≤ b.2)) b = true := by simpa using hc23
   refine C_seq  (C_region  (pv (nI j) rfl (pv (nI j) rfl (O_nil  (C_ret  (bk_ret  (nx_ret  (nx_ret  (bk_ret  (nx_ret  ?_))))))))))
   have hH24 := ((hH22.top1).top1)
   exact ⟨.inr rfl, _, resL_one (r_tmp (v := (.i .i64 (((j : Nat)) : Int))) rfl), .inr ⟨cov_yes hbi hP, _, rfl⟩, hH24⟩
  ·
   have hP : (fun b : Int × Int => decide (b.1 ≤ h ∧ h ≤ b.2)) b = false := by simpa using hc23
   refine C_skip  (C_region  (O_p (.i .i64 ((((j : Nat)) : Int) + 1)) (by exact (r_addi hT11 rfl (wrap_i64 (by omega) (by omega)))) (pv (.i .i64 ((((j : Nat)) : Int) + 1)) rfl (O_nil  ?_))))
   have hH25 := ((hH22.top1).top1)
   exact ⟨bl.length - (j + 1), by omega, (j + 1), rfl, by omega, fx_next hp7 hbi hP, hH25, hT8, hT9, hT10, rfl⟩
 ·
  try simp only [dz1, dz2, dz3, dz4, dz5, dz6, dz7, dz8, dz9] at hc13
  refine C_exit  (nx_exit  (nx_exit  (bk_hit  (C_seq  (C_region  (pv (.i .i64 (-1)) rfl (O_nil  (C_ret  ?_))))))))
  have hH26 := ((hH12.top1).top1)
  exact ⟨.inr rfl, _, resL_one (r_tmp (v := (.i .i64 (-1))) rfl), .inl ⟨cov_no (by have := hp7; omega), rfl⟩, hH26⟩
theorem covc_ev {H : AH} {R B : HL} {hb : Nat} {h : Int} {v : AV} {rows : List (List AV)} {bl : List (Int × Int)} (hv : ∀ H', Hs H' B → Rw 2 H' v rows) (hbr : BksR rows bl) (hbl : bl.length ≤ 100000) (hH0 : Hs H ([(hb, some (.cells ([(.i .i64 h)]) true))] ++ (B ++ (R)))) : Ev tabA spA (.fn (.func 73) [] []) [v, .fn (.func 74) [] [.p (some (hb, 0))]] H (fun r H' => r = .b (cov bl h) ∧ Hs H' ([(hb, some (.cells ([(.i .i64 h)]) true))] ++ (B ++ (R)))) := by
 refine Ev_C (F := x73) rfl ?_
 refine C_seq  (C_region  (pv (.b false) rfl (O_nil  (C_seq  (C_region  (pv v rfl (pv (.fn (.func 74) [] [.p (some (hb, 0))]) rfl ?_)))))))
 refine O_call (Ev.mono (covi_ev (h := h) hv hbr hbl hH0) fun v1 H2 hq3 => ?_)
 obtain ⟨hor, hH4⟩ := hq3
 rcases hor with ⟨hcv, rfl⟩ | ⟨hcv, ix, rfl⟩
 ·
  refine O_p (.b false) (by exact (by rw [r_geq rfl rfl, decide_eq_false (by omega)])) (pv (.b false) rfl (O_nil  (C_ret  ?_)))
  exact ⟨.inr rfl, _, resL_one (r_tmp (v := (.b false)) rfl), by rw [hcv]; rfl, hH4⟩
 ·
  refine O_p (.b true) (by exact (by rw [r_geq rfl rfl, decide_eq_true (by omega)])) (pv (.b true) rfl (O_nil  (C_ret  ?_)))
  exact ⟨.inr rfl, _, resL_one (r_tmp (v := (.b true)) rfl), by rw [hcv]; rfl, hH4⟩
theorem covered_ev {H : AH} {R B : HL} {h : Int} {v : AV} {rows : List (List AV)} {bl : List (Int × Int)} (hv : ∀ H', Hs H' B → Rw 2 H' v rows) (hbr : BksR rows bl) (hbl : bl.length ≤ 100000) (hH0 : Hs H (B ++ R)) : Ev tabA spA (.fn (.func 64) [] []) [v, .i .i64 h] H (fun r H' => r = .b (cov bl h) ∧ Hs H' (B ++ R)) := by
 refine Ev_C (F := x64) rfl ?_
 refine C_seq  (C_region  ?_)
 refine O_box (z := [(.i .i64 h)]) rfl fun n1 H2 hN3 => ?_
 have hH4 := hH0.new hN3
 refine pv (.b false) rfl (O_nil  (C_seq  (C_region  (pv v rfl (O_p (.fn (.func 74) [] [(pT n1 0)]) rfl ?_)))))
 have hH5 := ((hH4.top1).top1)
 have hH6 := ((hH5.top1).top1)
 refine O_call (Ev.mono (covc_ev (hb := n1) (h := h) hv hbr hbl hH6) fun v7 H8 hq9 => ?_)
 obtain ⟨rfl, hH10⟩ := hq9
 refine pv (.b (cov bl h)) rfl (O_nil  (C_ret  ?_))
 have hH11 := (hH10.sub0)
 exact ⟨.inr rfl, _, resL_one (r_tmp (v := (.b (cov bl h))) rfl), rfl, hH11⟩
set_option maxHeartbeats 2000000 in
theorem mark_raw {H : AH} {R B D : HL} {F : Nat} {lv v : AV} {lc : List AV} {nx : Int} {q : List En} {rows : List (List AV)} {bl : List (Int × Int)} (hlv : Sq 1 lv lc (q.map En.pr).flatten) (hql : q.length ≤ 100000) (hok : ∀ x ∈ q, OctIn D x.dv x.e.c.d) (hsz : ∀ e ∈ q.map En.e, e.c.d.length ≤ 1000000) (hv : ∀ H', Hs H' B → Rw 2 H' v rows) (hbr : BksR rows bl) (hbl : bl.length ≤ 100000) (hH0 : Hs H ([(F, some (.cells ([lv, (.i .u32 nx)]) true))] ++ ((qseg lv lc) ++ ((q.flatMap En.seg) ++ (B ++ (R)))))) : Ev tabA spA (.fn (.func 39) [] []) [.p (some (F, 0)), v] H (fun r H' => ∃ q1 : List En, r = .tup [.i .i64 ((mkb bl 0 (q.map En.e) : Nat) : Int), .i .i64 ((mkt bl 0 (q.map En.e) 0 : Nat) : Int)] ∧ q1.map En.nm = q.map En.nm ∧ q1.map En.e = mkd bl 0 (q.map En.e) ∧ (∀ x ∈ q1, OctIn D x.dv x.e.c.d) ∧ Hs H' ([(F, some (.cells ([lv, (.i .u32 nx)]) true))] ++ ((qseg lv lc) ++ ((q1.flatMap En.seg) ++ (B ++ (R)))))) := by
 refine Ev_C (F := x39) rfl ?_
 refine C_seq  (C_region  (pv (.i .i64 0) rfl (pv (.i .i64 0) rfl (O_nil  (C_seq  (C_region  (pv (.i .i64 0) rfl (pv (.i .i64 0) rfl (O_nil  (C_seq  (C_seq  (C_region  (pv (pT F 0) rfl ?_)))))))))))))
 refine O_p (pT F 0) (r_nilc rfl) (pf (pT F 0) rfl rfl (O_p lv (r_ld rfl hH0.get0 rfl) (O_p (.i .i64 (((q.length : Nat)) : Int)) (by exact (r_lenOf (v := lv) (n := q.length) rfl ((hlv.rd hH0.top1 (pr_lens q) (by decide)).lenOf (List.length_map ..)) (hlv.rd hH0.top1 (pr_lens q) (by decide)).isSl)) (pv (.i .i64 0) rfl (O_nil  (C_block  ?_))))))
 have hH1 := ((((hH0.top3).top3).top3).top3)
 refine C_while (fun m2 T3 H4 => ∃ q1 : List En, ∃ j : Nat, m2 = q.length - j ∧ j ≤ q.length ∧ q1.map En.nm = q.map En.nm ∧ q1.map En.e = mkd bl 0 ((q.map En.e).take j) ++ (q.map En.e).drop j ∧ (∀ x ∈ q1, OctIn D x.dv x.e.c.d) ∧ Hs H4 ([(F, some (.cells ([lv, (.i .u32 nx)]) true))] ++ ((qseg lv lc) ++ ((q1.flatMap En.seg) ++ (B ++ (R))))) ∧ T3.get 0 = (.p (some (F, 0))) ∧ T3.get 1 = v ∧ T3.get 14 = lv ∧ T3.get 15 = (.i .i64 (((q.length : Nat)) : Int)) ∧ T3.get 6 = (.i .i64 ((((mkb bl 0 ((q.map En.e).take j)) : Nat)) : Int)) ∧ T3.get 7 = (.i .i64 ((((mkt bl 0 ((q.map En.e).take j) 0) : Nat)) : Int)) ∧ T3.get 16 = (.i .i64 (((j : Nat)) : Int))) (fun m2 T3 H4 hI5 => ?_) q.length _ _ ⟨q, 0, rfl, Nat.zero_le _, rfl, rfl, hok, hH1, rfl, rfl, rfl, rfl, rfl, rfl, rfl⟩
 obtain ⟨q1, j, hm6, hp7, hp8, hp9, hp10, hH18, hT11, hT12, hT13, hT14, hT15, hT16, hT17⟩ := hI5
 refine C_seq  (C_region  (O_p (.b (decide ((((j : Nat)) : Int) < (((q.length : Nat)) : Int)))) (r_lss hT17 hT14) (O_nil  (C_seq  ?_))))
 refine C_cond (x := (decide ((((j : Nat)) : Int) < (((q.length : Nat)) : Int)))) rfl (fun hc19 => ?_) (fun hc19 => ?_)
 ·
  try simp only [dz1, dz2, dz3, dz4, dz5, dz6, dz7, dz8, dz9] at hc19
  refine C_skip  (C_seq  (C_block  (C_seq  (C_region  ?_))))
  have hjl : j < q.length := by omega
  obtain ⟨e0, h0j⟩ : ∃ e, q[j]? = some e := ⟨_, List.getElem?_eq_getElem hjl⟩
  obtain ⟨x, hxj, hxn, hxe⟩ := en_same (q := q1) hp8 (tk_same hp9 mkd_tlen j (Nat.le_refl _)) h0j
  have h3 := hp10
  have hH20 := (hH18.top2)
  have hH21 := En.out hxj hH20
  obtain ⟨da, dc, dg, de, dhg, dhc, dhm, dhb⟩ := (h3 x (List.mem_of_getElem? hxj))
  rw [de] at hH21
  have h0e := en_e h0j
  rw [← hxe] at h0e
  have hxs := hsz x.e (List.mem_of_getElem? h0e)
  have hmle := mkb_le (bl := bl) (l := (q.map En.e).take j) (k := 0) (fun e he => hsz e (List.mem_of_mem_take he))
  rw [List.length_take, List.length_map] at hmle
  have hmin : min j q.length ≤ 100000 := Nat.le_trans (Nat.min_le_right _ _) hql
  refine pv (nI j) hT17 ?_
  refine O_q (by exact Rw.row (hlv.rd hH21.top3 (pr_lens q) (by decide)) (by exact hT13) (i := j) (by exact hT17) (r := [(.p (some (x.n, 0)))]) (by have h9 := pr_get h0j; rw [hxn]; exact h9)) fun v23 hv22 => ?_
  obtain ⟨rb24, ro25, rfl, hr26⟩ := hv22
  refine O_p (pT x.n 0) (by exact (r_ldR (q := 0) rfl (hr26 _ (hlv.rd hH21.top3 (pr_lens q) (by decide))) rfl)) (pv (nI j) rfl (pv (pT x.n 0) rfl (O_nil  (C_seq  (C_region  (pv v hT12 (pv (nI j) rfl (O_p (.i .i64 ((((j : Nat)) : Int) + 1)) (by exact (r_addi rfl rfl (wrap_i64 (by omega) (by omega)))) ?_))))))))
  have hH27 := (hH21.top4)
  refine O_call (Ev.mono (covered_ev (h := ((j : Nat) : Int) + 1) hv hbr hbl hH27) fun v28 H29 hq30 => ?_)
  obtain ⟨rfl, hH31⟩ := hq30
  refine pv (.b (cov bl (((j : Nat) : Int) + 1))) rfl (O_nil  (C_block  (C_seq  ?_)))
  by_cases hcv : cov bl (((j : Nat) : Int) + 1) = true
  ·
   by_cases hfl : x.e.st = 1 ∨ x.e.st = 2
   ·
    by_cases his1 : x.e.st = 1
    ·
     refine C_region  (O_p (.b true) (by exact (by rw [show AV.b true = AV.b (cov bl (((j : Nat) : Int) + 1)) by rw [hcv]]; exact r_mv rfl)) (pv (.b true) rfl (O_gk rfl (pv (pT x.n 0) rfl (O_gk rfl (O_p (pT x.n 0) (r_nilc rfl) (O_gk rfl (pf (pT x.n 13) rfl rfl (O_gk rfl (O_p (.i .i64 x.e.st) (r_ld rfl hH31.get1 rfl) (O_gk rfl (O_p (.b true) (by exact (by rw [r_eql rfl rfl, decide_eq_true (by omega)])) (O_gk rfl ?_)))))))))))))
     refine pv (.b true) rfl (O_gf rfl (O_gf rfl (O_gf rfl (O_gf rfl (O_gf rfl (O_gk rfl (O_p (.b true) (r_pick_t rfl rfl) (O_p (.b true) (r_pick_t rfl rfl) (pv (.b true) rfl (O_nil  ?_))))))))))
     refine C_cond (x := true) rfl (fun _ => ?_) (fun h => by cases h)
     refine C_seq  (C_region  (pv (pT x.n 0) rfl (O_p (pT x.n 0) (r_nilc rfl) (pf (pT x.n 13) rfl rfl ?_))))
     refine O_store (vs := [(.i .i64 3)]) (c' := [(.i .u8 x.e.c.k), (.i .u8 x.e.c.f), (.i .u32 x.e.a), (.i .u32 x.e.c.b), (.i .u16 x.e.c.o), (.i .u16 x.e.c.i), (.i .u32 x.e.c.p), x.e.c.x1, x.e.c.x2, x.e.c.x3, x.e.c.x4, (.sl da x.e.c.d.length dc dg), (.p (some (x.m, 0))), (.i .i64 3), (.i .i64 x.e.sent), (.i .i64 x.e.tm), (.i .i64 x.e.mi)]) rfl (by rfl) hH31.get1 rfl (List.cons_ne_nil _ _) (Nat.le_of_ble_eq_true rfl) rfl fun H32 hW33 => ?_
     have hH34 := hH31.wr1 hW33
     refine O_nil  (C_seq  (C_region  (pv (.i .i64 ((((mkb bl 0 ((q.map En.e).take j)) : Nat)) : Int)) hT15 (pv (pT x.n 0) rfl ?_))))
     have hH35 := (hH34.top1)
     refine O_call (Ev.mono (size_ev hH35) fun v36 H37 hq38 => ?_)
     obtain ⟨rfl, hH39⟩ := hq38
     refine O_p (.i .i64 (((((mkb bl 0 ((q.map En.e).take j)) : Nat)) : Int) + (((x.e.c.d.length : Nat)) : Int))) (by exact (r_addi rfl rfl (wrap_i64 (by omega) (by omega)))) (pv (.i .i64 (((((mkb bl 0 ((q.map En.e).take j)) : Nat)) : Int) + (((x.e.c.d.length : Nat)) : Int))) rfl (O_nil  (C_region  (pv (nI j) rfl (pv (nI j) rfl (O_nil  (C_region  (O_p (.i .i64 ((((j : Nat)) : Int) + 1)) (by exact (r_addi hT17 rfl (wrap_i64 (by omega) (by omega)))) (pv (.i .i64 ((((j : Nat)) : Int) + 1)) rfl (O_nil  ?_))))))))))
     have hmk := mk1_hit ⟨hcv, hfl⟩
     have hma := mkd_at (bl := bl) h0e
     rw [hmk] at hma
     have hmb := mkb_at (bl := bl) h0e
     have hmt := mkt_at (bl := bl) h0e
     rw [if_pos ⟨hcv, hfl⟩] at hmb hmt
     have hH40 := ((hH39.top2).top1)
     rw [← de] at hH40
     have hH41 := En.back (y := (⟨x.e.setSt 3, x.n, x.m, x.dv⟩ : En)) hxj hH40
     have hH42 := ((((hH41.top1).top1).top3).top3)
     exact ⟨q.length - (j + 1), by omega, (q1.set j (⟨x.e.setSt 3, x.n, x.m, x.dv⟩ : En)), (j + 1), rfl, by omega, set_names hxj rfl hp8, by rw [hma]; exact tk_set h0j hp9 mkd_tlen, set_all hp10 (h3 x (List.mem_of_getElem? hxj)), hH42, hT11, hT12, hT13, hT14, (by rw [show ((mkb bl 0 ((q.map En.e).take (j + 1)) : Nat) : Int) = ((mkb bl 0 ((q.map En.e).take j) : Nat) : Int) + ((x.e.c.d.length : Nat) : Int) by rw [hmb]; omega]; exact rfl), (by rw [hmt]; exact rfl), rfl⟩
    ·
     refine C_region  (O_p (.b true) (by exact (by rw [show AV.b true = AV.b (cov bl (((j : Nat) : Int) + 1)) by rw [hcv]]; exact r_mv rfl)) (pv (.b true) rfl (O_gk rfl (pv (pT x.n 0) rfl (O_gk rfl (O_p (pT x.n 0) (r_nilc rfl) (O_gk rfl (pf (pT x.n 13) rfl rfl (O_gk rfl (O_p (.i .i64 x.e.st) (r_ld rfl hH31.get1 rfl) (O_gk rfl (O_p (.b false) (by exact (by rw [r_eql rfl rfl, decide_eq_false (by omega)])) (O_gk rfl ?_)))))))))))))
     refine pv (.b false) rfl (O_gk rfl (pv (pT x.n 0) rfl (O_gk rfl (O_p (pT x.n 0) (r_nilc rfl) (O_gk rfl (pf (pT x.n 13) rfl rfl (O_gk rfl (O_p (.i .i64 x.e.st) (r_ld rfl hH31.get1 rfl) (O_gk rfl (O_p (.b true) (by exact (by rw [r_eql rfl rfl, decide_eq_true (by omega)])) (O_gk rfl (O_p (.b true) (r_pick_f rfl rfl) (O_p (.b true) (r_pick_t rfl rfl) ?_)))))))))))))
     refine pv (.b true) rfl (O_nil  ?_)
     refine C_cond (x := true) rfl (fun _ => ?_) (fun h => by cases h)
     refine C_seq  (C_region  (pv (pT x.n 0) rfl (O_p (pT x.n 0) (r_nilc rfl) (pf (pT x.n 13) rfl rfl ?_))))
     refine O_store (vs := [(.i .i64 3)]) (c' := [(.i .u8 x.e.c.k), (.i .u8 x.e.c.f), (.i .u32 x.e.a), (.i .u32 x.e.c.b), (.i .u16 x.e.c.o), (.i .u16 x.e.c.i), (.i .u32 x.e.c.p), x.e.c.x1, x.e.c.x2, x.e.c.x3, x.e.c.x4, (.sl da x.e.c.d.length dc dg), (.p (some (x.m, 0))), (.i .i64 3), (.i .i64 x.e.sent), (.i .i64 x.e.tm), (.i .i64 x.e.mi)]) rfl (by rfl) hH31.get1 rfl (List.cons_ne_nil _ _) (Nat.le_of_ble_eq_true rfl) rfl fun H43 hW44 => ?_
     have hH45 := hH31.wr1 hW44
     refine O_nil  (C_seq  (C_region  (pv (.i .i64 ((((mkb bl 0 ((q.map En.e).take j)) : Nat)) : Int)) hT15 (pv (pT x.n 0) rfl ?_))))
     have hH46 := (hH45.top1)
     refine O_call (Ev.mono (size_ev hH46) fun v47 H48 hq49 => ?_)
     obtain ⟨rfl, hH50⟩ := hq49
     refine O_p (.i .i64 (((((mkb bl 0 ((q.map En.e).take j)) : Nat)) : Int) + (((x.e.c.d.length : Nat)) : Int))) (by exact (r_addi rfl rfl (wrap_i64 (by omega) (by omega)))) (pv (.i .i64 (((((mkb bl 0 ((q.map En.e).take j)) : Nat)) : Int) + (((x.e.c.d.length : Nat)) : Int))) rfl (O_nil  (C_region  (pv (nI j) rfl (pv (nI j) rfl (O_nil  (C_region  (O_p (.i .i64 ((((j : Nat)) : Int) + 1)) (by exact (r_addi hT17 rfl (wrap_i64 (by omega) (by omega)))) (pv (.i .i64 ((((j : Nat)) : Int) + 1)) rfl (O_nil  ?_))))))))))
     have hmk := mk1_hit ⟨hcv, hfl⟩
     have hma := mkd_at (bl := bl) h0e
     rw [hmk] at hma
     have hmb := mkb_at (bl := bl) h0e
     have hmt := mkt_at (bl := bl) h0e
     rw [if_pos ⟨hcv, hfl⟩] at hmb hmt
     have hH51 := ((hH50.top2).top1)
     rw [← de] at hH51
     have hH52 := En.back (y := (⟨x.e.setSt 3, x.n, x.m, x.dv⟩ : En)) hxj hH51
     have hH53 := ((((hH52.top1).top1).top3).top3)
     exact ⟨q.length - (j + 1), by omega, (q1.set j (⟨x.e.setSt 3, x.n, x.m, x.dv⟩ : En)), (j + 1), rfl, by omega, set_names hxj rfl hp8, by rw [hma]; exact tk_set h0j hp9 mkd_tlen, set_all hp10 (h3 x (List.mem_of_getElem? hxj)), hH53, hT11, hT12, hT13, hT14, (by rw [show ((mkb bl 0 ((q.map En.e).take (j + 1)) : Nat) : Int) = ((mkb bl 0 ((q.map En.e).take j) : Nat) : Int) + ((x.e.c.d.length : Nat) : Int) by rw [hmb]; omega]; exact rfl), (by rw [hmt]; exact rfl), rfl⟩
   ·
    refine C_region  (O_p (.b true) (by exact (by rw [show AV.b true = AV.b (cov bl (((j : Nat) : Int) + 1)) by rw [hcv]]; exact r_mv rfl)) (pv (.b true) rfl (O_gk rfl (pv (pT x.n 0) rfl (O_gk rfl (O_p (pT x.n 0) (r_nilc rfl) (O_gk rfl (pf (pT x.n 13) rfl rfl (O_gk rfl (O_p (.i .i64 x.e.st) (r_ld rfl hH31.get1 rfl) (O_gk rfl (O_p (.b false) (by exact (by rw [r_eql rfl rfl, decide_eq_false (by omega)])) (O_gk rfl ?_)))))))))))))
    refine pv (.b false) rfl (O_gk rfl (pv (pT x.n 0) rfl (O_gk rfl (O_p (pT x.n 0) (r_nilc rfl) (O_gk rfl (pf (pT x.n 13) rfl rfl (O_gk rfl (O_p (.i .i64 x.e.st) (r_ld rfl hH31.get1 rfl) (O_gk rfl (O_p (.b false) (by exact (by rw [r_eql rfl rfl, decide_eq_false (by omega)])) (O_gk rfl (O_p (.b false) (r_pick_f rfl rfl) (O_p (.b false) (r_pick_t rfl rfl) ?_)))))))))))))
    refine pv (.b false) rfl (O_nil  ?_)
    refine C_cond (x := false) rfl (fun h => by cases h) (fun _ => ?_)
    refine C_seq  (C_region  (O_p (.b true) (by exact (by rw [show AV.b true = AV.b (cov bl (((j : Nat) : Int) + 1)) by rw [hcv]]; exact r_mv rfl)) (O_p (.b false) (r_un rfl rfl) (pv (.b false) rfl (O_gf rfl (O_gf rfl (O_gf rfl (O_gf rfl (O_gf rfl (O_p (.b false) (r_pick_f rfl rfl) (pv (.b false) rfl (O_nil  ?_))))))))))))
    refine C_cond (x := false) rfl (fun h => by cases h) (fun _ => ?_)
    refine C_skip  (C_region  (O_p (.i .i64 ((((j : Nat)) : Int) + 1)) (by exact (r_addi hT17 rfl (wrap_i64 (by omega) (by omega)))) (pv (.i .i64 ((((j : Nat)) : Int) + 1)) rfl (O_nil  ?_))))
    have hmk := mk1_no (c := cov bl (((j : Nat) : Int) + 1)) (e := x.e) (fun h9 => hfl h9.2) (fun h9 => by rw [hcv] at h9; cases h9.1)
    have hma := mkd_at (bl := bl) h0e
    rw [hmk] at hma
    have hmb := mkb_at (bl := bl) h0e
    have hmt := mkt_at (bl := bl) h0e
    rw [if_neg (fun h9 => hfl h9.2)] at hmb hmt
    have hH54 := ((hH31.top2).top2)
    rw [← de] at hH54
    have hH55 := En.back (y := x) hxj hH54
    have hH56 := ((((hH55.top1).top1).top3).top3)
    exact ⟨q.length - (j + 1), by omega, (q1.set j x), (j + 1), rfl, by omega, set_names hxj rfl hp8, by rw [hma]; exact tk_set h0j hp9 mkd_tlen, set_all hp10 (h3 x (List.mem_of_getElem? hxj)), hH56, hT11, hT12, hT13, hT14, (by rw [show ((mkb bl 0 ((q.map En.e).take (j + 1)) : Nat) : Int) = ((mkb bl 0 ((q.map En.e).take j) : Nat) : Int) by rw [hmb]; omega]; exact hT15), (by rw [hmt]; exact hT16), rfl⟩
  ·
   have hcv : cov bl (((j : Nat) : Int) + 1) = false := by simpa using hcv
   by_cases hca : x.e.st = 3
   ·
    refine C_region  (O_p (.b false) (by exact (by rw [show AV.b false = AV.b (cov bl (((j : Nat) : Int) + 1)) by rw [hcv]]; exact r_mv rfl)) (pv (.b false) rfl (O_gf rfl (O_gf rfl (O_gf rfl (O_gf rfl (O_gf rfl (O_gf rfl ?_))))))))
    refine O_gu rfl ?_
    refine O_gu rfl ?_
    refine O_gu rfl ?_
    refine O_gu rfl ?_
    refine O_gu rfl ?_
    refine O_gf rfl (O_p (.b false) (r_pick_f rfl rfl) (pv (.b false) rfl (O_nil  ?_)))
    refine C_cond (x := false) rfl (fun h => by cases h) (fun _ => ?_)
    refine C_seq  (C_region  (O_p (.b false) (by exact (by rw [show AV.b false = AV.b (cov bl (((j : Nat) : Int) + 1)) by rw [hcv]]; exact r_mv rfl)) (O_p (.b true) (r_un rfl rfl) (pv (.b true) rfl (O_gk rfl (pv (pT x.n 0) rfl (O_gk rfl (O_p (pT x.n 0) (r_nilc rfl) (O_gk rfl (pf (pT x.n 13) rfl rfl (O_gk rfl (O_p (.i .i64 x.e.st) (r_ld rfl hH31.get1 rfl) (O_gk rfl ?_)))))))))))))
    refine O_p (.b true) (by exact (by rw [r_eql rfl rfl, decide_eq_true (by omega)])) (O_p (.b true) (r_pick_t rfl rfl) (pv (.b true) rfl (O_nil  ?_)))
    refine C_cond (x := true) rfl (fun _ => ?_) (fun h => by cases h)
    refine C_region  (pv (pT x.n 0) rfl (pv (pT x.n 0) rfl (O_p (pT x.n 0) (r_nilc rfl) (pf (pT x.n 13) rfl rfl ?_))))
    refine O_store (vs := [(.i .i64 1)]) (c' := [(.i .u8 x.e.c.k), (.i .u8 x.e.c.f), (.i .u32 x.e.a), (.i .u32 x.e.c.b), (.i .u16 x.e.c.o), (.i .u16 x.e.c.i), (.i .u32 x.e.c.p), x.e.c.x1, x.e.c.x2, x.e.c.x3, x.e.c.x4, (.sl da x.e.c.d.length dc dg), (.p (some (x.m, 0))), (.i .i64 1), (.i .i64 x.e.sent), (.i .i64 x.e.tm), (.i .i64 x.e.mi)]) rfl (by rfl) hH31.get1 rfl (List.cons_ne_nil _ _) (Nat.le_of_ble_eq_true rfl) rfl fun H57 hW58 => ?_
    have hH59 := hH31.wr1 hW58
    refine O_p (pT x.n 0) (r_nilc rfl) (pf (pT x.n 16) rfl rfl ?_)
    refine O_store (vs := [(.i .i64 0)]) (c' := [(.i .u8 x.e.c.k), (.i .u8 x.e.c.f), (.i .u32 x.e.a), (.i .u32 x.e.c.b), (.i .u16 x.e.c.o), (.i .u16 x.e.c.i), (.i .u32 x.e.c.p), x.e.c.x1, x.e.c.x2, x.e.c.x3, x.e.c.x4, (.sl da x.e.c.d.length dc dg), (.p (some (x.m, 0))), (.i .i64 1), (.i .i64 x.e.sent), (.i .i64 x.e.tm), (.i .i64 0)]) rfl (by rfl) hH59.get1 rfl (List.cons_ne_nil _ _) (Nat.le_of_ble_eq_true rfl) rfl fun H60 hW61 => ?_
    have hH62 := hH59.wr1 hW61
    refine O_nil  (C_region  (O_p (.i .i64 ((((j : Nat)) : Int) + 1)) (by exact (r_addi hT17 rfl (wrap_i64 (by omega) (by omega)))) (pv (.i .i64 ((((j : Nat)) : Int) + 1)) rfl (O_nil  ?_))))
    have hmk := mk1_re hcv hca
    have hma := mkd_at (bl := bl) h0e
    rw [hmk] at hma
    have hmb := mkb_at (bl := bl) h0e
    have hmt := mkt_at (bl := bl) h0e
    rw [if_neg (fun h9 => by have := h9.1; rw [hcv] at this; cases this)] at hmb hmt
    have hH63 := ((hH62.top2).top2)
    rw [← de] at hH63
    have hH64 := En.back (y := (⟨x.e.re, x.n, x.m, x.dv⟩ : En)) hxj hH63
    have hH65 := ((((hH64.top1).top1).top3).top3)
    exact ⟨q.length - (j + 1), by omega, (q1.set j (⟨x.e.re, x.n, x.m, x.dv⟩ : En)), (j + 1), rfl, by omega, set_names hxj rfl hp8, by rw [hma]; exact tk_set h0j hp9 mkd_tlen, set_all hp10 (h3 x (List.mem_of_getElem? hxj)), hH65, hT11, hT12, hT13, hT14, (by rw [show ((mkb bl 0 ((q.map En.e).take (j + 1)) : Nat) : Int) = ((mkb bl 0 ((q.map En.e).take j) : Nat) : Int) by rw [hmb]; omega]; exact hT15), (by rw [hmt]; exact hT16), rfl⟩
   ·
    refine C_region  (O_p (.b false) (by exact (by rw [show AV.b false = AV.b (cov bl (((j : Nat) : Int) + 1)) by rw [hcv]]; exact r_mv rfl)) (pv (.b false) rfl (O_gf rfl (O_gf rfl (O_gf rfl (O_gf rfl (O_gf rfl (O_gf rfl ?_))))))))
    refine O_gu rfl ?_
    refine O_gu rfl ?_
    refine O_gu rfl ?_
    refine O_gu rfl ?_
    refine O_gu rfl ?_
    refine O_gf rfl (O_p (.b false) (r_pick_f rfl rfl) (pv (.b false) rfl (O_nil  ?_)))
    refine C_cond (x := false) rfl (fun h => by cases h) (fun _ => ?_)
    refine C_seq  (C_region  (O_p (.b false) (by exact (by rw [show AV.b false = AV.b (cov bl (((j : Nat) : Int) + 1)) by rw [hcv]]; exact r_mv rfl)) (O_p (.b true) (r_un rfl rfl) (pv (.b true) rfl (O_gk rfl (pv (pT x.n 0) rfl (O_gk rfl (O_p (pT x.n 0) (r_nilc rfl) (O_gk rfl (pf (pT x.n 13) rfl rfl (O_gk rfl (O_p (.i .i64 x.e.st) (r_ld rfl hH31.get1 rfl) (O_gk rfl ?_)))))))))))))
    refine O_p (.b false) (by exact (by rw [r_eql rfl rfl, decide_eq_false (by omega)])) (O_p (.b false) (r_pick_t rfl rfl) (pv (.b false) rfl (O_nil  ?_)))
    refine C_cond (x := false) rfl (fun h => by cases h) (fun _ => ?_)
    refine C_skip  (C_region  (O_p (.i .i64 ((((j : Nat)) : Int) + 1)) (by exact (r_addi hT17 rfl (wrap_i64 (by omega) (by omega)))) (pv (.i .i64 ((((j : Nat)) : Int) + 1)) rfl (O_nil  ?_))))
    have hmk := mk1_no (c := cov bl (((j : Nat) : Int) + 1)) (e := x.e) (fun h9 => by have := h9.1; rw [hcv] at this; cases this) (fun h9 => hca h9.2)
    have hma := mkd_at (bl := bl) h0e
    rw [hmk] at hma
    have hmb := mkb_at (bl := bl) h0e
    have hmt := mkt_at (bl := bl) h0e
    rw [if_neg (fun h9 => by have := h9.1; rw [hcv] at this; cases this)] at hmb hmt
    have hH66 := ((hH31.top2).top2)
    rw [← de] at hH66
    have hH67 := En.back (y := x) hxj hH66
    have hH68 := ((((hH67.top1).top1).top3).top3)
    exact ⟨q.length - (j + 1), by omega, (q1.set j x), (j + 1), rfl, by omega, set_names hxj rfl hp8, by rw [hma]; exact tk_set h0j hp9 mkd_tlen, set_all hp10 (h3 x (List.mem_of_getElem? hxj)), hH68, hT11, hT12, hT13, hT14, (by rw [show ((mkb bl 0 ((q.map En.e).take (j + 1)) : Nat) : Int) = ((mkb bl 0 ((q.map En.e).take j) : Nat) : Int) by rw [hmb]; omega]; exact hT15), (by rw [hmt]; exact hT16), rfl⟩
 ·
  try simp only [dz1, dz2, dz3, dz4, dz5, dz6, dz7, dz8, dz9] at hc19
  refine C_exit  (nx_exit  (nx_exit  (bk_hit  (C_seq  (C_region  (pv (.i .i64 ((((mkb bl 0 ((q.map En.e).take j)) : Nat)) : Int)) hT15 (pv (.i .i64 ((((mkt bl 0 ((q.map En.e).take j) 0) : Nat)) : Int)) hT16 (pv (.i .i64 ((((mkb bl 0 ((q.map En.e).take j)) : Nat)) : Int)) rfl (pv (.i .i64 ((((mkt bl 0 ((q.map En.e).take j) 0) : Nat)) : Int)) rfl (O_nil  (C_ret  ?_)))))))))))
  have hH69 := ((((hH18.top3).top3).top3).top3)
  have hjn : j = q.length := by omega
  have hta : (q.map En.e).take q.length = q.map En.e := List.take_of_length_le (by rw [List.length_map]; exact Nat.le_refl _)
  have htd : (q.map En.e).drop q.length = [] := List.drop_eq_nil_of_le (by rw [List.length_map]; exact Nat.le_refl _)
  have h2 := hp9
  rw [hjn, hta, htd, List.append_nil] at h2
  exact ⟨.inr rfl, _, resL_cons (r_tmp (v := (.i .i64 ((((mkb bl 0 ((q.map En.e).take j)) : Nat)) : Int))) rfl) (resL_one (r_tmp (v := (.i .i64 ((((mkt bl 0 ((q.map En.e).take j) 0) : Nat)) : Int))) rfl)), q1, by rw [hjn, hta]; rfl, hp8, h2, hp10, hH69⟩
set_option linter.unusedVariables false
set_option linter.unusedSimpArgs false
def ackE (bl : List (Int × Int)) (es : List Ea) (n : Nat) : List Ea := ((mkd bl 0 (es.drop n)).take (mkt bl 0 (es.drop n) 0)).map msE ++ (mkd bl 0 (es.drop n)).drop (mkt bl 0 (es.drop n) 0)
def ackB (bl : List (Int × Int)) (es : List Ea) (n : Nat) : Nat := drB (es.take n) + mkb bl 0 (es.drop n)
def ackL (bl : List (Int × Int)) (es : List Ea) (n : Nat) : Bool := ((mkd bl 0 (es.drop n)).take (mkt bl 0 (es.drop n) 0)).any msL
theorem mkd_all {P Q : Ea → Prop} {bl : List (Int × Int)} (h1 : ∀ e, P e → Q e) (h2 : ∀ e, P e → Q (e.setSt 3)) (h3 : ∀ e, P e → Q e.re) : ∀ {l : List Ea} {k : Nat}, (∀ e ∈ l, P e) → ∀ e ∈ mkd bl k l, Q e
  | [], k, _, e, h => by cases h
  | x :: l, k, hP, e, he => by
    rcases List.mem_cons.1 he with rfl | he
    · have hx := hP x (List.mem_cons_self ..)
      unfold mk1
      split
      · exact h2 _ hx
      · split
        · exact h3 _ hx
        · exact h1 _ hx
    · exact mkd_all h1 h2 h3 (fun y hy => hP y (List.mem_cons_of_mem _ hy)) e he
set_option maxHeartbeats 2000000 in
theorem miss_raw {H : AH} {R D : HL} {lv w : AV} {lc : List AV} {q : List En} {n : Nat} (hw : ∀ H' R', Hs H' (qseg lv lc ++ R') → Rw 1 H' w ((q.map En.pr).take n)) (hn : n ≤ q.length) (hql : q.length ≤ 100000) (hok : ∀ x ∈ q, OctIn D x.dv x.e.c.d) (hmi : ∀ e ∈ q.map En.e, 0 ≤ e.mi ∧ e.mi ≤ 1000000) (hH0 : Hs H ((qseg lv lc) ++ ((q.flatMap En.seg) ++ (R)))) : Ev tabA spA (.fn (.func 40) [] []) [w] H (fun r H' => ∃ q1 : List En, r = .b (((q.map En.e).take n).any msL) ∧ q1.map En.nm = q.map En.nm ∧ q1.map En.e = ((q.map En.e).take n).map msE ++ (q.map En.e).drop n ∧ (∀ x ∈ q1, OctIn D x.dv x.e.c.d) ∧ Hs H' ((qseg lv lc) ++ ((q1.flatMap En.seg) ++ (R)))) := by
 refine Ev_C (F := x40) rfl ?_
 refine C_seq  (C_region  (pv (.b false) rfl (O_nil  (C_seq  (C_region  (pv (.b false) rfl (O_nil  (C_seq  (C_seq  (C_region  (pv w rfl (O_p (.i .i64 (((n : Nat)) : Int)) (by exact (r_lenOf (v := w) (n := n) rfl ((hw _ _ hH0.top0).lenOf (by rw [List.length_take, List.length_map]; exact Nat.min_eq_left hn)) (hw _ _ hH0.top0).isSl)) (pv (.i .i64 0) rfl ?_)))))))))))))
 refine O_nil  (C_block  ?_)
 have hH1 := ((hH0.top1).top1)
 refine C_while (fun m2 T3 H4 => ∃ q1 : List En, ∃ j : Nat, m2 = n - j ∧ j ≤ n ∧ q1.map En.nm = q.map En.nm ∧ q1.map En.e = ((q.map En.e).take j).map msE ++ (q.map En.e).drop j ∧ (∀ x ∈ q1, OctIn D x.dv x.e.c.d) ∧ Hs H4 ((qseg lv lc) ++ ((q1.flatMap En.seg) ++ (R))) ∧ T3.get 6 = w ∧ T3.get 7 = (.i .i64 (((n : Nat)) : Int)) ∧ T3.get 8 = (.i .i64 (((j : Nat)) : Int)) ∧ T3.get 3 = (.b (((q.map En.e).take j).any msL))) (fun m2 T3 H4 hI5 => ?_) n _ _ ⟨q, 0, rfl, Nat.zero_le _, rfl, rfl, hok, hH1, rfl, rfl, rfl, rfl⟩
 obtain ⟨q1, j, hm6, hp7, hp8, hp9, hp10, hH15, hT11, hT12, hT13, hT14⟩ := hI5
 refine C_seq  (C_region  (O_p (.b (decide ((((j : Nat)) : Int) < (((n : Nat)) : Int)))) (r_lss hT13 hT12) (O_nil  (C_seq  ?_))))
 refine C_cond (x := (decide ((((j : Nat)) : Int) < (((n : Nat)) : Int)))) rfl (fun hc16 => ?_) (fun hc16 => ?_)
 ·
  try simp only [dz1, dz2, dz3, dz4, dz5, dz6, dz7, dz8, dz9] at hc16
  refine C_skip  (C_seq  (C_block  (C_seq  ?_)))
  have hjl : j < q.length := by omega
  obtain ⟨e0, h0j⟩ : ∃ e, q[j]? = some e := ⟨_, List.getElem?_eq_getElem hjl⟩
  obtain ⟨x, hxj, hxn, hxe⟩ := en_same (q := q1) hp8 (tk_same hp9 ms_tlen j (Nat.le_refl _)) h0j
  have h3 := hp10
  have h0e := en_e h0j
  rw [← hxe] at h0e
  have hxm := hmi x.e (List.mem_of_getElem? h0e)
  have hH17 := (hH15.top1)
  have hH18 := En.out hxj hH17
  by_cases hfly : x.e.st = 1
  ·
   refine C_region  ?_
   refine O_q (by exact Rw.row (hw _ _ hH18.top2) (by exact hT11) (i := j) (by exact hT13) (r := [(.p (some (x.n, 0)))]) ((List.getElem?_take_of_lt (by omega)).trans (by have h9 := pr_get h0j; rw [hxn]; exact h9))) fun v20 hv19 => ?_
   obtain ⟨rb21, ro22, rfl, hr23⟩ := hv19
   refine O_p (pT x.n 0) (r_ldR (q := 0) rfl (hr23 _ (hw _ _ hH18.top2)) rfl) (pv (pT x.n 0) rfl (O_nil  (C_seq  (C_seq  (C_region  (pv (pT x.n 0) rfl (O_p (pT x.n 0) (r_nilc rfl) (pf (pT x.n 13) rfl rfl (O_p (.i .i64 x.e.st) (r_ld rfl hH18.get0 rfl) (O_p (.b false) (by exact (by rw [r_neq rfl rfl, decide_eq_true hfly]; rfl)) (O_nil  ?_)))))))))))
   refine C_cond (x := false) rfl (fun h => by cases h) (fun _ => ?_)
   refine C_skip  (C_seq  ?_)
   by_cases hlo : 3 ≤ x.e.mi + 1
   ·
    refine C_region  (pv (pT x.n 0) rfl (O_p (pT x.n 0) (r_nilc rfl) (pf (pT x.n 16) rfl rfl (O_p (.i .i64 x.e.mi) (r_ld rfl hH18.get0 rfl) (O_p (.i .i64 (x.e.mi + 1)) (by exact (r_addi rfl rfl (wrap_i64 (by omega) (by omega)))) (O_p (pT x.n 0) (r_nilc rfl) (pf (pT x.n 16) rfl rfl ?_)))))))
    refine O_store (vs := [(.i .i64 (x.e.mi + 1))]) (c' := [(.i .u8 x.e.c.k), (.i .u8 x.e.c.f), (.i .u32 x.e.a), (.i .u32 x.e.c.b), (.i .u16 x.e.c.o), (.i .u16 x.e.c.i), (.i .u32 x.e.c.p), x.e.c.x1, x.e.c.x2, x.e.c.x3, x.e.c.x4, x.dv, (.p (some (x.m, 0))), (.i .i64 x.e.st), (.i .i64 x.e.sent), (.i .i64 x.e.tm), (.i .i64 (x.e.mi + 1))]) rfl (by rfl) hH18.get0 rfl (List.cons_ne_nil _ _) (Nat.le_of_ble_eq_true rfl) rfl fun H24 hW25 => ?_
    have hH26 := hH18.wr0 hW25
    refine O_nil  (C_seq  (C_region  (pv (pT x.n 0) rfl (O_p (pT x.n 0) (r_nilc rfl) (pf (pT x.n 16) rfl rfl (O_p (.i .i64 (x.e.mi + 1)) (r_ld rfl hH26.get0 rfl) (O_p (.b true) (by exact (by rw [r_geq rfl rfl, decide_eq_true hlo])) (O_nil  ?_))))))))
    refine C_cond (x := true) rfl (fun _ => ?_) (fun h => by cases h)
    refine C_seq  (C_region  (pv (pT x.n 0) rfl (O_p (pT x.n 0) (r_nilc rfl) (pf (pT x.n 13) rfl rfl ?_))))
    refine O_store (vs := [(.i .i64 2)]) (c' := [(.i .u8 x.e.c.k), (.i .u8 x.e.c.f), (.i .u32 x.e.a), (.i .u32 x.e.c.b), (.i .u16 x.e.c.o), (.i .u16 x.e.c.i), (.i .u32 x.e.c.p), x.e.c.x1, x.e.c.x2, x.e.c.x3, x.e.c.x4, x.dv, (.p (some (x.m, 0))), (.i .i64 2), (.i .i64 x.e.sent), (.i .i64 x.e.tm), (.i .i64 (x.e.mi + 1))]) rfl (by rfl) hH26.get0 rfl (List.cons_ne_nil _ _) (Nat.le_of_ble_eq_true rfl) rfl fun H27 hW28 => ?_
    have hH29 := hH26.wr0 hW28
    refine O_nil  (C_region  (pv (.b true) rfl (O_nil  (C_region  (O_p (.i .i64 ((((j : Nat)) : Int) + 1)) (by exact (r_addi hT13 rfl (wrap_i64 (by omega) (by omega)))) (pv (.i .i64 ((((j : Nat)) : Int) + 1)) rfl (O_nil  ?_)))))))
    obtain ⟨hme, hml⟩ := msE_lo hfly hlo
    have hma := ms_at h0e
    rw [hme] at hma
    have hmb := msl_at h0e
    rw [hml] at hmb
    have hH30 := ((hH29.top1).top1)
    have hH31 := En.back (y := (⟨⟨x.e.c, x.e.a, 2, x.e.sent, x.e.tm, x.e.mi + 1⟩, x.n, x.m, x.dv⟩ : En)) hxj hH30
    have hH32 := (hH31.top1)
    exact ⟨n - (j + 1), by omega, (q1.set j (⟨⟨x.e.c, x.e.a, 2, x.e.sent, x.e.tm, x.e.mi + 1⟩, x.n, x.m, x.dv⟩ : En)), (j + 1), rfl, by omega, set_names hxj rfl hp8, by rw [hma]; exact tk_set h0j hp9 ms_tlen, set_all hp10 (h3 x (List.mem_of_getElem? hxj)), hH32, hT11, hT12, rfl, (by rw [hmb, Bool.or_true]; exact rfl)⟩
   ·
    refine C_region  (pv (pT x.n 0) rfl (O_p (pT x.n 0) (r_nilc rfl) (pf (pT x.n 16) rfl rfl (O_p (.i .i64 x.e.mi) (r_ld rfl hH18.get0 rfl) (O_p (.i .i64 (x.e.mi + 1)) (by exact (r_addi rfl rfl (wrap_i64 (by omega) (by omega)))) (O_p (pT x.n 0) (r_nilc rfl) (pf (pT x.n 16) rfl rfl ?_)))))))
    refine O_store (vs := [(.i .i64 (x.e.mi + 1))]) (c' := [(.i .u8 x.e.c.k), (.i .u8 x.e.c.f), (.i .u32 x.e.a), (.i .u32 x.e.c.b), (.i .u16 x.e.c.o), (.i .u16 x.e.c.i), (.i .u32 x.e.c.p), x.e.c.x1, x.e.c.x2, x.e.c.x3, x.e.c.x4, x.dv, (.p (some (x.m, 0))), (.i .i64 x.e.st), (.i .i64 x.e.sent), (.i .i64 x.e.tm), (.i .i64 (x.e.mi + 1))]) rfl (by rfl) hH18.get0 rfl (List.cons_ne_nil _ _) (Nat.le_of_ble_eq_true rfl) rfl fun H33 hW34 => ?_
    have hH35 := hH18.wr0 hW34
    refine O_nil  (C_seq  (C_region  (pv (pT x.n 0) rfl (O_p (pT x.n 0) (r_nilc rfl) (pf (pT x.n 16) rfl rfl (O_p (.i .i64 (x.e.mi + 1)) (r_ld rfl hH35.get0 rfl) (O_p (.b false) (by exact (by rw [r_geq rfl rfl, decide_eq_false hlo])) (O_nil  ?_))))))))
    refine C_cond (x := false) rfl (fun h => by cases h) (fun _ => ?_)
    refine C_skip  (C_region  (O_p (.i .i64 ((((j : Nat)) : Int) + 1)) (by exact (r_addi hT13 rfl (wrap_i64 (by omega) (by omega)))) (pv (.i .i64 ((((j : Nat)) : Int) + 1)) rfl (O_nil  ?_))))
    obtain ⟨hme, hml⟩ := msE_up hfly hlo
    have hma := ms_at h0e
    rw [hme] at hma
    have hmb := msl_at h0e
    rw [hml] at hmb
    rw [hfly] at hH35
    have hH36 := ((hH35.top1).top1)
    have hH37 := En.back (y := (⟨⟨x.e.c, x.e.a, 1, x.e.sent, x.e.tm, x.e.mi + 1⟩, x.n, x.m, x.dv⟩ : En)) hxj hH36
    have hH38 := (hH37.top1)
    exact ⟨n - (j + 1), by omega, (q1.set j (⟨⟨x.e.c, x.e.a, 1, x.e.sent, x.e.tm, x.e.mi + 1⟩, x.n, x.m, x.dv⟩ : En)), (j + 1), rfl, by omega, set_names hxj rfl hp8, by rw [hma]; exact tk_set h0j hp9 ms_tlen, set_all hp10 (h3 x (List.mem_of_getElem? hxj)), hH38, hT11, hT12, rfl, (by rw [hmb, Bool.or_false]; exact hT14)⟩
  ·
   refine C_region  ?_
   refine O_q (by exact Rw.row (hw _ _ hH18.top2) (by exact hT11) (i := j) (by exact hT13) (r := [(.p (some (x.n, 0)))]) ((List.getElem?_take_of_lt (by omega)).trans (by have h9 := pr_get h0j; rw [hxn]; exact h9))) fun v40 hv39 => ?_
   obtain ⟨rb41, ro42, rfl, hr43⟩ := hv39
   refine O_p (pT x.n 0) (r_ldR (q := 0) rfl (hr43 _ (hw _ _ hH18.top2)) rfl) (pv (pT x.n 0) rfl (O_nil  (C_seq  (C_seq  (C_region  (pv (pT x.n 0) rfl (O_p (pT x.n 0) (r_nilc rfl) (pf (pT x.n 13) rfl rfl (O_p (.i .i64 x.e.st) (r_ld rfl hH18.get0 rfl) (O_p (.b true) (by exact (by rw [r_neq rfl rfl, decide_eq_false hfly]; rfl)) (O_nil  ?_)))))))))))
   refine C_cond (x := true) rfl (fun _ => ?_) (fun h => by cases h)
   refine C_exit  (nx_exit  (bk_hit  (C_region  (O_p (.i .i64 ((((j : Nat)) : Int) + 1)) (by exact (r_addi hT13 rfl (wrap_i64 (by omega) (by omega)))) (pv (.i .i64 ((((j : Nat)) : Int) + 1)) rfl (O_nil  ?_))))))
   obtain ⟨hme, hml⟩ := msE_no hfly
   have hma := ms_at h0e
   rw [hme] at hma
   have hmb := msl_at h0e
   rw [hml] at hmb
   have hH44 := ((hH18.top1).top1)
   have hH45 := En.back (y := x) hxj hH44
   have hH46 := (hH45.top1)
   exact ⟨n - (j + 1), by omega, (q1.set j x), (j + 1), rfl, by omega, set_names hxj rfl hp8, by rw [hma]; exact tk_set h0j hp9 ms_tlen, set_all hp10 (h3 x (List.mem_of_getElem? hxj)), hH46, hT11, hT12, rfl, (by rw [hmb, Bool.or_false]; exact hT14)⟩
 ·
  try simp only [dz1, dz2, dz3, dz4, dz5, dz6, dz7, dz8, dz9] at hc16
  refine C_exit  (nx_exit  (nx_exit  (bk_hit  (C_seq  (C_region  (pv (.b (((q.map En.e).take j).any msL)) hT14 (pv (.b (((q.map En.e).take j).any msL)) rfl (O_nil  (C_ret  ?_)))))))))
  have hH47 := ((hH15.top1).top1)
  have hjn : j = n := by omega
  have h2 := hp9
  rw [hjn] at h2
  exact ⟨.inr rfl, _, resL_one (r_tmp (v := (.b (((q.map En.e).take j).any msL))) rfl), q1, by rw [hjn]; rfl, hp8, h2, hp10, hH47⟩
set_option maxHeartbeats 2000000 in
theorem ack_raw {H : AH} {R B D : HL} {F : Nat} {lv v : AV} {lc : List AV} {nx cum now : Int} {n : Nat} {q : List En} {rows : List (List AV)} {bl : List (Int × Int)} (hlv : Sq 1 lv lc (q.map En.pr).flatten) (hql : q.length ≤ 100000) (hok : ∀ x ∈ q, OctIn D x.dv x.e.c.d) (hsz : ∀ e ∈ q.map En.e, e.c.d.length ≤ 1000000) (hv : ∀ H', Hs H' B → Rw 2 H' v rows) (hbr : BksR rows bl) (hbl : bl.length ≤ 100000) (hcum : w32 (cum - (floorA nx q.length)) = ((n : Nat) : Int)) (hn : n ≤ q.length) (hno : ∀ e ∈ (q.map En.e).take n, ¬ e.st = 0) (hnow : 0 ≤ now ∧ now ≤ 4611686018427387904) (htm : ∀ e ∈ q.map En.e, 0 ≤ e.tm ∧ e.tm ≤ 4611686018427387904) (hmi : ∀ e ∈ q.map En.e, 0 ≤ e.mi ∧ e.mi ≤ 1000000) (hH0 : Hs H ([(F, some (.cells ([lv, (.i .u32 nx)]) true))] ++ ((qseg lv lc) ++ ((q.flatMap En.seg) ++ (B ++ (R)))))) : Ev tabA spA (.fn (.func 15) [] []) [.p (some (F, 0)), .i .u32 cum, v, .i .i64 now] H (fun r H' => ∃ (q' : List En) (lv' : AV) (lc' : List AV), r = .tup [.agg [.i .i64 ((ackB bl (q.map En.e) n : Nat) : Int), .i .i64 (drS now ((q.map En.e).take n) (-1)), .b (ackL bl (q.map En.e) n), .b (decide ((0 : Int) < ((n : Nat) : Int)))], .b true] ∧ q'.map En.e = ackE bl (q.map En.e) n ∧ q'.map En.m = (q.map En.m).drop n ∧ Sq 1 lv' lc' (q'.map En.pr).flatten ∧ (∀ x ∈ q', OctIn D x.dv x.e.c.d) ∧ Hs H' ([(F, some (.cells [lv', .i .u32 nx] true))] ++ (qseg lv' lc' ++ (q'.flatMap En.seg ++ (B ++ R))))) := by
 refine Ev_C (F := x15) rfl ?_
 refine C_seq  (C_region  ?_)
 refine O_alloc fun n1 H2 hN3 => ?_
 have hH4 := hH0.new hN3
 refine pv (.b false) rfl (O_nil  (C_seq  (C_region  (pv (pT F 0) rfl (pv (.i .u32 cum) rfl ?_)))))
 have hH5 := (((hH4.top3).top3).top3)
 have hH6 := (((hH5.top2).top2).top2)
 refine O_call (Ev.mono (reached_raw hlv hql hcum hn hno hH6) fun v7 H8 hq9 => ?_)
 obtain ⟨rfl, hH10⟩ := hq9
 refine pv (.tup [(nI n), (.b true)]) rfl (O_p (nI n) (r_ext rfl rfl) (O_p (.b true) (r_ext rfl rfl) (pv (nI n) rfl (pv (.b true) rfl (O_nil  (C_seq  (C_seq  (C_region  (pv (.b true) rfl (O_p (.b false) (r_un rfl rfl) (O_nil  ?_)))))))))))
 refine C_cond (x := false) rfl (fun h => by cases h) (fun _ => ?_)
 refine C_skip  (C_seq  (C_region  (pv (pT F 0) rfl (pv (nI n) rfl (pv (.i .i64 now) rfl ?_)))))
 have hH11 := (((hH10.top2).top2).top2)
 have hH12 := (((hH11.top2).top2).top2)
 refine O_call (Ev.mono (drop_raw hlv hql hok hsz hn hnow htm hH12) fun v13 H14 hq15 => ?_)
 obtain ⟨lv2, lc2, rfl, hlv2, hHd⟩ := hq15
 obtain ⟨qd, hqd⟩ : ∃ z, z = q.drop n := ⟨_, rfl⟩
 rw [← hqd] at hlv2 hHd
 have hqe : qd.map En.e = (q.map En.e).drop n := by rw [hqd, List.map_drop]
 have hqdl : qd.length ≤ 100000 := by rw [hqd, List.length_drop]; omega
 have hokd : ∀ x ∈ qd, OctIn D x.dv x.e.c.d := by rw [hqd]; exact fun x hx => hok x (List.mem_of_mem_drop hx)
 have hszd : ∀ e ∈ qd.map En.e, e.c.d.length ≤ 1000000 := by rw [hqe]; exact fun e he => hsz e (List.mem_of_mem_drop he)
 have hmid : ∀ e ∈ qd.map En.e, 0 ≤ e.mi ∧ e.mi ≤ 1000000 := by rw [hqe]; exact fun e he => hmi e (List.mem_of_mem_drop he)
 refine O_alloc fun n16 H17 hN18 => ?_
 have hH19 := hHd.new hN18
 refine O_store (vs := [(.i .i64 ((((drB ((q.map En.e).take n)) : Nat)) : Int)), (.i .i64 (drS now ((q.map En.e).take n) (-1))), (.b false), (.b (decide ((0 : Int) < ((n : Nat) : Int))))]) (c' := [(.i .i64 ((((drB ((q.map En.e).take n)) : Nat)) : Int)), (.i .i64 (drS now ((q.map En.e).take n) (-1))), (.b false), (.b (decide ((0 : Int) < ((n : Nat) : Int))))]) rfl (by rfl) hH19.get0 rfl (List.cons_ne_nil _ _) (Nat.le_of_ble_eq_true rfl) rfl fun H20 hW21 => ?_
 have hH22 := hH19.wr0 hW21
 refine O_nil  (C_seq  (C_region  (pv (pT F 0) rfl (pv v rfl ?_))))
 have hH23 := ((((hH22.top5).top4).top4).top4)
 have hH24 := ((((hH23.top3).top3).top3).top3)
 refine O_call (Ev.mono (mark_raw hlv2 hqdl hokd hszd hv hbr hbl hH24) fun v25 H26 hq27 => ?_)
 obtain ⟨q3, rfl, hn3, he3, hok3, hHm⟩ := hq27
 have htop := mkt_lt (bl := bl) (l := qd.map En.e) (k := 0) (t := 0)
 rw [List.length_map] at htop
 obtain ⟨tp, htp⟩ : ∃ z, z = mkt bl 0 (qd.map En.e) 0 := ⟨_, rfl⟩
 rw [← htp] at htop
 have hq3l : q3.length = qd.length := by have h9 := congrArg List.length hn3; rw [List.length_map, List.length_map] at h9; exact h9
 have hlv3 : Sq 1 lv2 lc2 (q3.map En.pr).flatten := by rw [pr_map hn3]; exact hlv2
 have hmi3 : ∀ e ∈ q3.map En.e, 0 ≤ e.mi ∧ e.mi ≤ 1000000 := by rw [he3]; exact mkd_all (fun e h => h) (fun e h => h) (fun e h => ⟨by show (0 : Int) ≤ 0; decide, by show (0 : Int) ≤ 1000000; decide⟩) hmid
 have hmb9 := mkb_le (bl := bl) (l := qd.map En.e) (k := 0) hszd
 rw [List.length_map] at hmb9
 have hdb9 := drB_le (l := (q.map En.e).take n) (fun e he => hsz e (List.mem_of_mem_take he))
 rw [List.length_take, List.length_map] at hdb9
 have hmin : min n q.length ≤ 100000 := Nat.le_trans (Nat.min_le_right _ _) hql
 refine pv (.tup [(.i .i64 ((((mkb bl 0 (qd.map En.e)) : Nat)) : Int)), (.i .i64 ((mkt bl 0 (qd.map En.e) 0 : Nat) : Int))]) rfl (O_p (.i .i64 ((((mkb bl 0 (qd.map En.e)) : Nat)) : Int)) (r_ext rfl rfl) (O_p (.i .i64 ((mkt bl 0 (qd.map En.e) 0 : Nat) : Int)) (r_ext rfl rfl) (pv (.i .i64 ((((mkb bl 0 (qd.map En.e)) : Nat)) : Int)) rfl (pv (.i .i64 ((mkt bl 0 (qd.map En.e) 0 : Nat) : Int)) rfl (O_nil  (C_seq  (C_region  (pf (pT n16 0) rfl rfl (O_p (.i .i64 ((((drB ((q.map En.e).take n)) : Nat)) : Int)) (r_ld rfl hHm.get4 rfl) (pv (.i .i64 ((((mkb bl 0 (qd.map En.e)) : Nat)) : Int)) rfl (O_p (.i .i64 (((((drB ((q.map En.e).take n)) : Nat)) : Int) + ((((mkb bl 0 (qd.map En.e)) : Nat)) : Int))) (by exact (r_addi rfl rfl (wrap_i64 (by omega) (by omega)))) (pf (pT n16 0) rfl rfl ?_))))))))))))
 refine O_store (vs := [(.i .i64 (((((drB ((q.map En.e).take n)) : Nat)) : Int) + ((((mkb bl 0 (qd.map En.e)) : Nat)) : Int)))]) (c' := [(.i .i64 (((((drB ((q.map En.e).take n)) : Nat)) : Int) + ((((mkb bl 0 (qd.map En.e)) : Nat)) : Int))), (.i .i64 (drS now ((q.map En.e).take n) (-1))), (.b false), (.b (decide ((0 : Int) < ((n : Nat) : Int))))]) rfl (by rfl) hHm.get4 rfl (List.cons_ne_nil _ _) (Nat.le_of_ble_eq_true rfl) rfl fun H28 hW29 => ?_
 have hH30 := hHm.wr4 hW29
 refine O_nil  (C_seq  (C_region  (pv (pT F 0) rfl (O_p (pT F 0) (r_nilc rfl) (pf (pT F 0) rfl rfl (O_p lv2 (r_ld rfl hH30.get0 rfl) (pv (.i .i64 ((mkt bl 0 (qd.map En.e) 0 : Nat) : Int)) rfl ?_)))))))
 refine O_q (by exact Rw.hi (hlv3.rd hH30.top1 (pr_lens q3) (by decide)) rfl (i := tp) (by rw [htp]; exact rfl) (by rw [List.length_map, hq3l]; omega)) fun v32 hv31 => ?_
 have hw44 : ∀ H' R', Hs H' (qseg lv2 lc2 ++ R') → Rw 1 H' v32 ((q3.map En.pr).take tp) := fun H' R' hh => hv31 H' (hlv3.rd hh (pr_lens q3) (by decide))
 have hH33 := ((hH30.top2).top2)
 have hH34 := ((hH33.top1).top1)
 refine O_call (Ev.mono (miss_raw hw44 (by rw [hq3l]; omega) (by omega) hok3 hmi3 hH34) fun v35 H36 hq37 => ?_)
 obtain ⟨q4, rfl, hn4, he4, hok4, hHs⟩ := hq37
 refine pf (pT n16 2) rfl rfl ?_
 refine O_store (vs := [(.b (((q3.map En.e).take tp).any msL))]) (c' := [(.i .i64 (((((drB ((q.map En.e).take n)) : Nat)) : Int) + ((((mkb bl 0 (qd.map En.e)) : Nat)) : Int))), (.i .i64 (drS now ((q.map En.e).take n) (-1))), (.b (((q3.map En.e).take tp).any msL)), (.b (decide ((0 : Int) < ((n : Nat) : Int))))]) rfl (by rfl) hHs.get4 rfl (List.cons_ne_nil _ _) (Nat.le_of_ble_eq_true rfl) rfl fun H38 hW39 => ?_
 have hH40 := hHs.wr4 hW39
 refine O_nil  (C_seq  (C_region  (O_p (.agg [(.i .i64 (((((drB ((q.map En.e).take n)) : Nat)) : Int) + ((((mkb bl 0 (qd.map En.e)) : Nat)) : Int))), (.i .i64 (drS now ((q.map En.e).take n) (-1))), (.b (((q3.map En.e).take tp).any msL)), (.b (decide ((0 : Int) < ((n : Nat) : Int))))]) (r_ldA rfl hH40.get4 rfl) ?_)))
 refine O_store (vs := [(.i .i64 (((((drB ((q.map En.e).take n)) : Nat)) : Int) + ((((mkb bl 0 (qd.map En.e)) : Nat)) : Int))), (.i .i64 (drS now ((q.map En.e).take n) (-1))), (.b (((q3.map En.e).take tp).any msL)), (.b (decide ((0 : Int) < ((n : Nat) : Int))))]) (c' := [(.i .i64 (((((drB ((q.map En.e).take n)) : Nat)) : Int) + ((((mkb bl 0 (qd.map En.e)) : Nat)) : Int))), (.i .i64 (drS now ((q.map En.e).take n) (-1))), (.b (((q3.map En.e).take tp).any msL)), (.b (decide ((0 : Int) < ((n : Nat) : Int))))]) rfl (by rfl) hH40.get5 rfl (List.cons_ne_nil _ _) (Nat.le_of_ble_eq_true rfl) rfl fun H41 hW42 => ?_
 have hH43 := hH40.wr5 hW42
 refine pv (.b true) rfl (O_nil  (C_ret  ?_))
 have hcell := hH43.get5
 have hH44 := ((hH43.sub4).sub4)
 have hH45 := ((((hH44.top3).top2).top2).top3)
 have hE : q4.map En.e = ackE bl (q.map En.e) n := by rw [he4, he3, htp, hqe]; rfl
 have hB : ((drB ((q.map En.e).take n) : Nat) : Int) + ((mkb bl 0 (qd.map En.e) : Nat) : Int) = ((ackB bl (q.map En.e) n : Nat) : Int) := by unfold ackB; rw [hqe]; omega
 have hL : ((q3.map En.e).take tp).any msL = ackL bl (q.map En.e) n := by rw [he3, htp, hqe]; rfl
 exact ⟨.inr rfl, _, resL_cons (r_cellA (o := 0) (l := [(.i .i64 (((((drB ((q.map En.e).take n)) : Nat)) : Int) + ((((mkb bl 0 (qd.map En.e)) : Nat)) : Int))), (.i .i64 (drS now ((q.map En.e).take n) (-1))), (.b (((q3.map En.e).take tp).any msL)), (.b (decide ((0 : Int) < ((n : Nat) : Int))))]) rfl hcell rfl) (resL_one (r_tmp (v := .b true) rfl)), q4, lv2, lc2, by rw [← hB, ← hL]; rfl, hE, by rw [nm_m (hn4.trans hn3), hqd, List.map_drop], by rw [pr_map (hn4.trans hn3)]; exact hlv2, hok4, hH45⟩
section
variable {H : AH} {F : Nat} {es : List Ea} {nx : Int} {D L R B : HL}
theorem q_floor (h : Qr F es nx D L) (hH : Hs H (L ++ R)) : Ev tabA spA (.fn (.func 17) [] []) [.p (some (F, 0))] H (fun r H' => r = .i .u32 (floorA nx es.length) ∧ Hs H' (L ++ R)) := by
 obtain ⟨lv, lc, q, rfl, hlv, hok, rfl⟩ := h
 rw [List.append_assoc, List.append_assoc, List.length_map] at *
 exact floor_raw hlv hH
theorem q_len (h : Qr F es nx D L) (hH : Hs H (L ++ R)) : Ev tabA spA (.fn (.func 18) [] []) [.p (some (F, 0))] H (fun r H' => r = .i .i64 ((es.length : Nat) : Int) ∧ Hs H' (L ++ R)) := by
 obtain ⟨lv, lc, q, rfl, hlv, hok, rfl⟩ := h
 rw [List.append_assoc, List.append_assoc, List.length_map] at *
 exact len_raw hlv hH
end
set_option linter.unusedVariables false
set_option linter.unusedSimpArgs false
theorem blks_ex : ∀ {rows : List (List AV)}, (∀ (i : Nat) (r : List AV), rows[i]? = some r → ∃ b : Int × Int, r = [.i .u16 b.1, .i .u16 b.2] ∧ (0 ≤ b.1 ∧ b.1 < 65536) ∧ 0 ≤ b.2 ∧ b.2 < 65536) → ∃ bl, BksR rows bl
  | [], _ => ⟨[], rfl, fun b hb => (by cases hb)⟩
  | r :: rows, h => by
    obtain ⟨b, rfl, hb⟩ := h 0 r rfl
    obtain ⟨bl, h1, h2⟩ := blks_ex (rows := rows) fun i r hi => h (i + 1) r (by simpa using hi)
    exact ⟨b :: bl, by rw [h1]; rfl, fun c hc => by rcases List.mem_cons.1 hc with rfl | hc; exact hb; exact h2 c hc⟩
section
variable {x y : Int}
theorem w32_addl : w32 (w32 x + y) = w32 (x + y) := by simp only [w32, wrap_u32]; omega
theorem w32_addr : w32 (x + w32 y) = w32 (x + y) := by simp only [w32, wrap_u32]; omega
theorem w32_subl : w32 (w32 x - y) = w32 (x - y) := by simp only [w32, wrap_u32]; omega
theorem w32_subr : w32 (x - w32 y) = w32 (x - y) := by simp only [w32, wrap_u32]; omega
theorem w32_small (h : 0 ≤ x ∧ x < 4294967296) : w32 x = x := by simp only [w32, wrap_u32]; omega
end
set_option linter.unusedVariables false
set_option linter.unusedSimpArgs false
def toE (e : Ea) : Ea := if e.st = 1 then e.setSt 2 else e
def tcn : List Ea → Nat
  | [] => 0
  | e :: l => (if e.st = 1 then 1 else 0) + tcn l
theorem tcn_app {l2 : List Ea} : ∀ {l1 : List Ea}, tcn (l1 ++ l2) = tcn l1 + tcn l2
  | [] => (Nat.zero_add _).symm
  | e :: l1 => by show _ + tcn (l1 ++ l2) = _ + tcn l1 + _; rw [tcn_app, Nat.add_assoc]
theorem tcn_le : ∀ {l : List Ea}, tcn l ≤ l.length
  | [] => Nat.le_refl _
  | e :: l => by
    have := tcn_le (l := l)
    show (if e.st = 1 then 1 else 0) + tcn l ≤ l.length + 1
    split <;> omega
section
variable {es : List Ea} {j : Nat} {e : Ea}
theorem to_at (h : es[j]? = some e) : (es.take (j + 1)).map toE = (es.take j).map toE ++ [toE e] := by rw [take_at h, List.map_append]; rfl
theorem tcn_yes (h : es[j]? = some e) (h1 : e.st = 1) : tcn (es.take (j + 1)) = tcn (es.take j) + 1 := by
 rw [take_at h, tcn_app]
 show _ + ((if e.st = 1 then 1 else 0) + 0) = _
 rw [if_pos h1]
theorem tcn_no (h : es[j]? = some e) (h1 : ¬ e.st = 1) : tcn (es.take (j + 1)) = tcn (es.take j) := by
 rw [take_at h, tcn_app]
 show _ + ((if e.st = 1 then 1 else 0) + 0) = _
 rw [if_neg h1]; omega
theorem toE_yes (h1 : e.st = 1) : toE e = e.setSt 2 := by unfold toE; rw [if_pos h1]
theorem toE_no (h1 : ¬ e.st = 1) : toE e = e := by unfold toE; rw [if_neg h1]
theorem to_tlen {q : List En} : (((q.map En.e).take j).map toE).length = min j q.length := by rw [List.length_map, List.length_take, List.length_map]
end
set_option maxHeartbeats 2000000 in
theorem timeout_raw {H : AH} {R D : HL} {F : Nat} {lv : AV} {lc : List AV} {nx : Int} {q : List En} (hlv : Sq 1 lv lc (q.map En.pr).flatten) (hql : q.length ≤ 100000) (hok : ∀ x ∈ q, OctIn D x.dv x.e.c.d) (hH0 : Hs H ([(F, some (.cells ([lv, (.i .u32 nx)]) true))] ++ ((qseg lv lc) ++ ((q.flatMap En.seg) ++ (R))))) : Ev tabA spA (.fn (.func 22) [] []) [.p (some (F, 0))] H (fun r H' => ∃ q1 : List En, r = .i .i64 ((tcn (q.map En.e) : Nat) : Int) ∧ q1.map En.nm = q.map En.nm ∧ q1.map En.e = (q.map En.e).map toE ∧ (∀ x ∈ q1, OctIn D x.dv x.e.c.d) ∧ Hs H' ([(F, some (.cells ([lv, (.i .u32 nx)]) true))] ++ ((qseg lv lc) ++ ((q1.flatMap En.seg) ++ (R))))) := by
  refine Ev_C (F := x22) rfl ?_
  refine C_seq  (C_region  (pv (.i .i64 0) rfl (O_nil  (C_seq  (C_region  ?_)))))
  refine O_alloc fun n1 H2 hN3 => ?_
  have hH4 := hH0.new hN3
  refine O_store (vs := [(.i .i64 0)]) (c' := [(.i .i64 0)]) rfl (by rfl) hH4.get0 rfl (List.cons_ne_nil _ _) (Nat.le_of_ble_eq_true rfl) rfl fun H5 hW6 => ?_
  have hH7 := hH4.wr0 hW6
  refine O_nil  (C_seq  (C_seq  (C_region  (pv (pT F 0) rfl ?_))))
  refine O_bslice (c := [(.i .i64 1)]) rfl fun n8 H9 hN10 => ?_
  have hH11 := hH7.new hN10
  refine O_call (Ev.mono (in_ev (F := F) (sb := n8) (ss := [1]) hH11) fun v12 H13 hq14 => ?_)
  obtain ⟨b15, b16, rfl, hH17⟩ := hq14
  refine O_nil  (C_block  ?_)
  refine C_rangeFn (g := 59) (first := []) (cap := [.p (some (b15, 0)), .p (some (b16, 0))]) rfl fun Tx L HLL hTx hNL0 => ?_
  obtain ⟨LB, hLB, hNL⟩ := hNL0.loop
  have hH18 := hH17.new hNL
  have hH19 := ((((((((hH18.top4).top1).top7).top7).top7).top7).top7).top7)
  refine Ev.mono (in1_ev (F := F) (sb := n8) (nx := nx) (ss := [1]) (q0 := q) hlv hql (by decide) (fun j HH => ∃ (q1 : List En), (q1.map En.nm = q.map En.nm) ∧ (q1.map En.e = ((q.map En.e).take j).map toE ++ (q.map En.e).drop j) ∧ (∀ x ∈ q1, OctIn D x.dv x.e.c.d) ∧ Hs HH ([(b15, some (.cells ([(.p (some (F, 0)))]) true))] ++ ([(b16, some (.cells ([(.sl (some (n8, 0)) [1].length [1].length 0)]) true))] ++ ([(n8, some (.cells ([1].map fun z => AV.i IntKind.i64 z) true))] ++ ([(F, some (.cells ([lv, (.i .u32 nx)]) true))] ++ ((qseg lv lc) ++ ((q1.flatMap En.seg) ++ ([(L, some LB)] ++ ([(n1, some (.cells ([(.i .i64 ((((tcn ((q.map En.e).take j)) : Nat)) : Int))]) true))] ++ (R)))))))))) (fun HH => False) ?_ ?_ ?_ ?_ ?_) fun v2 HE hE => ?_
  · exact ⟨q, rfl, by rw [List.take_zero]; rfl, hok, hH19⟩
  · rintro j H1 ⟨q1, hq0, hq1, hq2, hh⟩
    exact ⟨q1, _, hq0, (tk_same hq1 to_tlen), hh⟩
  · rintro j H1 H2 hn hk2 hok ⟨q1, hq0, hq1, hq2, hh⟩
    exact ⟨q1, hq0, hq1, hq2, hh.keep hn hk2 hok⟩
  · rintro j H1 e0 h0j hst ⟨q1, hq0, hq1, hq2, hh⟩
    have hs1 : ¬ e0.e.st = 1 := by simpa using hst
    have hta := to_at (en_e h0j)
    rw [toE_no hs1] at hta
    refine ⟨q1, hq0, by rw [hta]; exact tk_drop h0j hq1, hq2, by rw [tcn_no (en_e h0j) hs1]; exact hh⟩
  ·
    rintro j HH e0 h0j hst ⟨q1, hq0, hq1, hq2, hHb⟩
    have hjl : j < q.length := (List.getElem?_eq_some_iff.1 h0j).1
    obtain ⟨x, hxj, hxn, hxe⟩ := en_same (q := q1) hq0 ((tk_same hq1 to_tlen) j (Nat.le_refl _)) h0j
    rw [← hxn]
    refine Ev_yield ((hHb.get6).trans (congrArg some hLB)) rfl ?_
    refine C.te ?_ (hTx.cons 8 _)
    have hs1 : x.e.st = 1 := by rw [hxe]; simpa using hst
    have h0e := en_e h0j
    rw [← hxe] at h0e
    have htl := tcn_le (l := (q.map En.e).take j)
    rw [List.length_take, List.length_map] at htl
    have hmin : min j q.length ≤ 100000 := Nat.le_trans (Nat.min_le_right _ _) hql
    have hH20 := (hHb.top5)
    have hH21 := En.out hxj hH20
    refine C_region  (pv (pT x.n 0) rfl (O_nil  ?_))
    refine ⟨rfl, _, _, _, _, _, (hH21.get7).trans (congrArg some hLB), fun H2 hWb => ?_⟩
    have hH22 := hH21.wr7 hWb
    refine C_block  (C_seq  (C_region  (pv (pT x.n 0) rfl (O_p (pT x.n 0) (r_nilc rfl) (pf (pT x.n 13) rfl rfl ?_)))))
    refine O_store (vs := [(.i .i64 2)]) (c' := [(.i .u8 x.e.c.k), (.i .u8 x.e.c.f), (.i .u32 x.e.a), (.i .u32 x.e.c.b), (.i .u16 x.e.c.o), (.i .u16 x.e.c.i), (.i .u32 x.e.c.p), x.e.c.x1, x.e.c.x2, x.e.c.x3, x.e.c.x4, x.dv, (.p (some (x.m, 0))), (.i .i64 2), (.i .i64 x.e.sent), (.i .i64 x.e.tm), (.i .i64 x.e.mi)]) rfl (by rfl) hH22.get0 rfl (List.cons_ne_nil _ _) (Nat.le_of_ble_eq_true rfl) rfl fun H23 hW24 => ?_
    have hH25 := hH22.wr0 hW24
    refine O_nil  (C_region  (O_p (.i .i64 ((((tcn ((q.map En.e).take j)) : Nat)) : Int)) (r_ld rfl hH25.get8 rfl) (O_p (.i .i64 (((((tcn ((q.map En.e).take j)) : Nat)) : Int) + 1)) (by exact (r_addi rfl rfl (wrap_i64 (by omega) (by omega)))) ?_)))
    refine O_store (vs := [(.i .i64 (((((tcn ((q.map En.e).take j)) : Nat)) : Int) + 1))]) (c' := [(.i .i64 (((((tcn ((q.map En.e).take j)) : Nat)) : Int) + 1))]) rfl (by rfl) hH25.get8 rfl (List.cons_ne_nil _ _) (Nat.le_of_ble_eq_true rfl) rfl fun H26 hW27 => ?_
    have hH28 := hH25.wr8 hW27
    refine O_nil  ?_
    refine ⟨_, _, _, _, _, (hH28.get7), fun H4 hWr => ?_⟩
    have hH29 := Hs.cong7 (B := [(L, some LB)]) (hH28.wr7 hWr) (by rw [hLB]; rfl)
    have hH30 := ((hH29.top1).top1)
    have hH31 := En.back (y := (⟨x.e.setSt 2, x.n, x.m, x.dv⟩ : En)) hxj hH30
    have hH32 := ((((((((hH31.top7).top7).top2).top7).top7).top7).top7).top7)
    have hta := to_at h0e
    rw [toE_yes hs1] at hta
    exact ⟨_, rfl, fun _ => ⟨q1.set j (⟨x.e.setSt 2, x.n, x.m, x.dv⟩ : En), set_names hxj rfl hq0, by rw [hta]; exact tk_set h0j hq1 to_tlen, set_all hq2 (hq2 x (List.mem_of_getElem? hxj)), by rw [tcn_yes h0e hs1]; exact hH32⟩, fun h => by cases h⟩
  rcases hE with hE | hE
  ·
    obtain ⟨q1, hq0, hq1, hq2, hHE⟩ := hE
    refine ⟨.ready, none, _, _, _, _, (hHE.get6).trans (congrArg some hLB), by decide, fun HD hD => ?_⟩
    have hH33 := hHE.drp6 hD
    have hta : (q.map En.e).take q.length = (q.map En.e) := List.take_of_length_le (by rw [List.length_map]; exact Nat.le_refl _)
    have htd : (q.map En.e).drop q.length = [] := List.drop_eq_nil_of_le (by rw [List.length_map]; exact Nat.le_refl _)
    rw [htd, List.append_nil] at hq1
    rw [hta] at hq1 hH33
    refine C_seq  (C_region  (O_p (.i .i64 ((((tcn (q.map En.e)) : Nat)) : Int)) (r_ld rfl hH33.get6 rfl) (pv (.i .i64 ((((tcn (q.map En.e)) : Nat)) : Int)) rfl (O_nil  (C_ret  ?_)))))
    have hH34 := ((((hH33.sub0).sub0).sub0).sub3)
    have hH35 := (((hH34.top2).top2).top2)
    exact ⟨.inr rfl, _, resL_one (r_tmp (v := (.i .i64 ((((tcn (q.map En.e)) : Nat)) : Int))) rfl), q1, rfl, hq0, hq1, hq2, hH35⟩
  · exact hE.elim
set_option linter.unusedVariables false
set_option linter.unusedSimpArgs false
def Mp (mp : List Nat) (b : Blk) : Prop := ∃ es cl, b = .map es cl ∧ es.map (fun e => (e.1, e.2.1)) = mp.map (fun n => (AV.p (some (n, 0)), AV.b true))
theorem Mp.nil : Mp [] (.map [] 0) := ⟨[], 0, rfl, rfl⟩
theorem keyP {H : AH} {n k : Nat} (h : n = k ∨ H.apart n k = true) : keyEqH H 3 (.p (some (n, 0))) (.p (some (k, 0))) = some (decide (n = k)) := by
  show (if n = k then some (decide ((0 : Nat) = 0)) else if H.apart n k = true then some false else none) = _
  by_cases hk : n = k
  · rw [if_pos hk, decide_eq_true hk]; rfl
  · rw [if_neg hk, decide_eq_false hk, if_pos (h.resolve_left hk)]
theorem mfindP_get {H : AH} {n : Nat} : ∀ {es : List (AV × AV × Nat)} {mp : List Nat} {i : Nat}, es.map (fun e => (e.1, e.2.1)) = mp.map (fun n => (AV.p (some (n, 0)), AV.b true)) → (∀ k ∈ mp, n = k ∨ H.apart n k = true) → (mfind H 3 (.p (some (n, 0))) es i).map (fun o => o.map (·.2)) = some (if n ∈ mp then some (.b true) else none)
  | [], [], i, _, _ => rfl
  | [], _ :: _, i, h, _ => by simp at h
  | _ :: _, [], i, h, _ => by simp at h
  | (a, v, c) :: es, q :: mp, i, h, ha => by
    simp only [List.map_cons, List.cons.injEq, Prod.mk.injEq] at h
    obtain ⟨⟨rfl, rfl⟩, h⟩ := h
    unfold mfind
    rw [keyP (ha q (List.mem_cons_self ..))]
    by_cases hk : n = q
    · subst hk; simp
    · rw [decide_eq_false hk]
      simp only
      rw [mfindP_get h fun k hm => ha k (List.mem_cons_of_mem _ hm)]
      simp only [List.mem_cons, hk, false_or]
theorem mfindP_put {H : AH} {n : Nat} : ∀ {es : List (AV × AV × Nat)} {mp : List Nat} (i cl : Nat), es.map (fun e => (e.1, e.2.1)) = mp.map (fun n => (AV.p (some (n, 0)), AV.b true)) → (∀ k ∈ mp, n = k ∨ H.apart n k = true) →
    ∃ es', ((∃ j w, mfind H 3 (.p (some (n, 0))) es i = some (some (j + i, w)) ∧ es' = es.modify j fun e => (.p (some (n, 0)), .b true, e.2.2)) ∨ (mfind H 3 (.p (some (n, 0))) es i = some none ∧ es' = es ++ [(.p (some (n, 0)), .b true, cl)])) ∧ es'.map (fun e => (e.1, e.2.1)) = (if n ∈ mp then mp else mp ++ [n]).map (fun n => (AV.p (some (n, 0)), AV.b true))
  | [], [], i, cl, _, _ => ⟨_, .inr ⟨rfl, rfl⟩, rfl⟩
  | [], _ :: _, i, cl, h, _ => by simp at h
  | _ :: _, [], i, cl, h, _ => by simp at h
  | (a, u, c) :: es, q :: mp, i, cl, h, ha => by
    simp only [List.map_cons, List.cons.injEq, Prod.mk.injEq] at h
    obtain ⟨⟨rfl, rfl⟩, h⟩ := h
    unfold mfind
    rw [keyP (ha q (List.mem_cons_self ..))]
    by_cases hk : n = q
    · subst hk
      refine ⟨_, .inl ⟨0, .b true, by simp, rfl⟩, ?_⟩
      simp [h]
    · rw [decide_eq_false hk]
      simp only
      obtain ⟨es', h1, h2⟩ := mfindP_put (es := es) (mp := mp) (i + 1) cl h fun k hm => ha k (List.mem_cons_of_mem _ hm)
      refine ⟨(AV.p (some (q, 0)), .b true, c) :: es', ?_, ?_⟩
      · rcases h1 with ⟨j, x, h3, rfl⟩ | ⟨h3, rfl⟩
        · exact .inl ⟨j + 1, x, by rw [h3]; congr 3; omega, by rw [List.modify_succ_cons]⟩
        · exact .inr ⟨h3, rfl⟩
      · rw [List.map_cons, h2]
        simp only [List.mem_cons, hk, false_or]
        split <;> simp
section
variable {H : AH} {T : Tm} {cf : CallF} {x y z : XO} {mp : List Nat} {b : Blk} {r n : Nat} {R : HL}
theorem r_pget (hb : H.get r = some b) (hm : Mp mp b) (hx : x.ev T = .m (some r)) (hk : y.ev T = .p (some (n, 0))) (ha : ∀ k ∈ mp, n = k ∨ H.apart n k = true) : (XOp.lookup 3 (.b false) x y false).run cf T H = some (.b (decide (n ∈ mp)), H) := by
  obtain ⟨es, cl, rfl, he⟩ := hm
  have h := mfindP_get (H := H) (i := 0) he ha
  simp only [XOp.run, XOp.look, hx, hk, keyOk, hb, Bool.true_eq_false, if_false, h]
  by_cases hn : n ∈ mp
  · rw [if_pos hn, decide_eq_true hn]; rfl
  · rw [if_neg hn, decide_eq_false hn]; rfl
theorem r_pput (hH : Hs H ([(r, some b)] ++ R)) (hm : Mp mp b) (hx : x.ev T = .m (some r)) (hk : y.ev T = .p (some (n, 0))) (hv : z.ev T = .b true) (ha : ∀ k ∈ mp, n = k ∨ H.apart n k = true) : ∃ u H', (XOp.mput 3 x y z).run cf T H = some (u, H') ∧ ∃ b', Mp (if n ∈ mp then mp else mp ++ [n]) b' ∧ Hs H' ([(r, some b')] ++ R) := by
  obtain ⟨es, cl, rfl, he⟩ := hm
  obtain ⟨es', h1, h2⟩ := mfindP_put (H := H) 0 cl he ha
  rcases h1 with ⟨j, w, h3, h4⟩ | ⟨h3, h4⟩
  · refine ⟨und, H.set r (.map es' cl), ?_, _, ⟨es', cl, rfl, h2⟩, set_hs hH⟩
    simp only [XOp.run, XOp.turn, hx, hk, hv, keyOk, hH.get, Bool.true_eq_false, if_false, h3, h4, Nat.add_zero]
  · refine ⟨und, H.set r (.map es' (cl + 1)), ?_, _, ⟨es', cl + 1, rfl, h2⟩, set_hs hH⟩
    simp only [XOp.run, XOp.turn, hx, hk, hv, keyOk, hH.get, Bool.true_eq_false, if_false, h3, h4]
theorem apart_of {n k : Nat} {c1 c2 : List AV} (h1 : H.get n = some (.cells c1 true)) (h2 : H.get k = some (.cells c2 true)) : H.apart n k = true := by unfold AH.apart; rw [h1, h2]
end
structure Po where
 m : Nat
 un : Int
 tr : Int
 gv : Bool
def Po.seg (p : Po) : HL := [(p.m, some (.cells [.i .i64 p.un, .i .i64 p.tr, .b p.gv] true))]
section
variable {H : AH} {R : HL} {pl : List Po} {k : Nat} {p p2 : Po}
theorem Po.out (h : pl[k]? = some p) (hH : Hs H (pl.flatMap Po.seg ++ R)) : Hs H ([(p.m, some (.cells [.i .i64 p.un, .i .i64 p.tr, .b p.gv] true))] ++ ((pl.eraseIdx k).flatMap Po.seg ++ R)) := by
 refine Hs.perm hH ?_
 refine (List.Perm.append_right R (erase_perm Po.seg h)).trans ?_
 rw [List.append_assoc]; exact List.Perm.refl _
theorem Po.back (h : pl[k]? = some p) (hH : Hs H ([(p2.m, some (.cells [.i .i64 p2.un, .i .i64 p2.tr, .b p2.gv] true))] ++ ((pl.eraseIdx k).flatMap Po.seg ++ R))) : Hs H ((pl.set k p2).flatMap Po.seg ++ R) := by
 have hk := (List.getElem?_eq_some_iff.1 h).1
 refine Hs.perm hH ?_
 have h2 : (pl.set k p2)[k]? = some p2 := List.getElem?_set_self hk
 refine List.Perm.trans ?_ (List.Perm.append_right R (erase_perm Po.seg h2)).symm
 rw [erase_set, List.append_assoc]; exact List.Perm.refl _
theorem Po.back0 (h : pl[k]? = some p) (hH : Hs H ([(p.m, some (.cells [.i .i64 p.un, .i .i64 p.tr, .b p.gv] true))] ++ ((pl.eraseIdx k).flatMap Po.seg ++ R))) : Hs H (pl.flatMap Po.seg ++ R) := by
 have h1 := Po.back (p2 := p) h hH
 rw [rows_same h] at h1; exact h1
theorem Po.get (h : p ∈ pl) (hH : Hs H (pl.flatMap Po.seg ++ R)) : H.get p.m = some (.cells [.i .i64 p.un, .i .i64 p.tr, .b p.gv] true) := by
  obtain ⟨k, hk⟩ := List.getElem?_of_mem h
  exact (Po.out hk hH).get
end
set_option linter.unusedVariables false
set_option linter.unusedSimpArgs false
def overE (now : Int) (e : Ea) (p : Po) : Bool := (decide (0 ≤ p.un) && decide (p.un < now)) || ((decide (0 ≤ p.tr) && decide (e.st = 2)) && decide (p.tr < e.sent))
abbrev pmP (m : Nat) : Po → Bool := fun p => decide (p.m = m)
def exStep (mp : List Nat) (now : Int) (s : List Po × Nat) (x : En) : List Po × Nat :=
  if x.e.st ∈ [0, 1, 2, 3] ∧ x.m ∈ mp then (match s.1[s.1.findIdx (pmP x.m)]? with
    | some p => if p.gv = false ∧ overE now x.e p = true then (s.1.set (s.1.findIdx (pmP x.m)) ⟨p.m, p.un, p.tr, true⟩, s.2 + 1) else s
    | none => s) else s
def gvOf (pl : List Po) (m : Nat) : Bool := match pl[pl.findIdx (pmP m)]? with
  | some p => p.gv
  | none => false
def exN (pl : List Po) (x : En) : En := if x.e.st ∈ [0, 1, 2, 3] ∧ gvOf pl x.m = true then ⟨x.e.setSt 4, x.n, x.m, x.dv⟩ else x
theorem fx_yes {α : Type} {P : α → Bool} {w : List α} {i : Nat} {x : α} (hi : w.findIdx P = i) (h : w[i]? = some x) : P x = true := by
 have hl := (List.getElem?_eq_some_iff.1 h).1
 have hg := List.findIdx_getElem (xs := w) (p := P) (w := by omega)
 simp only [hi] at hg
 rw [(List.getElem?_eq_some_iff.1 h).2] at hg
 exact hg
theorem po_at {pl : List Po} {m : Nat} (h : ∃ p ∈ pl, p.m = m) : ∃ p, pl[pl.findIdx (pmP m)]? = some p ∧ p.m = m := by
 obtain ⟨p, hp, hm⟩ := h
 have hlt : pl.findIdx (pmP m) < pl.length := List.findIdx_lt_length_of_exists ⟨p, hp, decide_eq_true hm⟩
 refine ⟨pl[pl.findIdx (pmP m)], List.getElem?_eq_getElem hlt, ?_⟩
 have := fx_yes (P := pmP m) rfl (List.getElem?_eq_getElem hlt)
 exact of_decide_eq_true this
theorem apart_full {H : AH} {R : HL} {pl : List Po} {mp : List Nat} {m : Nat} (hp : ∃ p ∈ pl, p.m = m) (hmp : ∀ k ∈ mp, ∃ p ∈ pl, p.m = k) (hH : Hs H (pl.flatMap Po.seg ++ R)) : ∀ k ∈ mp, m = k ∨ H.apart m k = true := fun k hk => by
 obtain ⟨p, h1, rfl⟩ := hp
 obtain ⟨p2, h2, rfl⟩ := hmp k hk
 exact .inr (apart_of (Po.get h1 hH) (Po.get h2 hH))
theorem ex_foldl {mp : List Nat} {now : Int} {q : List En} {j : Nat} {x : En} {s : List Po × Nat} (h : q[j]? = some x) : (q.take (j + 1)).foldl (exStep mp now) s = exStep mp now ((q.take j).foldl (exStep mp now) s) x := by
 rw [take_at h, List.foldl_append]; rfl
section
variable {mp : List Nat} {now : Int} {s : List Po × Nat} {x : En} {p : Po}
theorem exStep_st (h : x.e.st ∉ [0, 1, 2, 3]) : exStep mp now s x = s := by unfold exStep; rw [if_neg (fun h9 => h h9.1)]
theorem exStep_mem (h : x.m ∉ mp) : exStep mp now s x = s := by unfold exStep; rw [if_neg (fun h9 => h h9.2)]
theorem exStep_no (hp : s.1[s.1.findIdx (pmP x.m)]? = some p) (h : ¬ (p.gv = false ∧ overE now x.e p = true)) : exStep mp now s x = s := by
  unfold exStep
  split
  · rw [hp]; dsimp only; rw [if_neg h]
  · rfl
theorem exStep_yes (h1 : x.e.st ∈ [0, 1, 2, 3]) (h2 : x.m ∈ mp) (hp : s.1[s.1.findIdx (pmP x.m)]? = some p) (h3 : p.gv = false) (h4 : overE now x.e p = true) : exStep mp now s x = (s.1.set (s.1.findIdx (pmP x.m)) ⟨p.m, p.un, p.tr, true⟩, s.2 + 1) := by
 unfold exStep
 rw [if_pos ⟨h1, h2⟩, hp]; dsimp only; rw [if_pos ⟨h3, h4⟩]
end
theorem set_ms {pl : List Po} {k : Nat} {p p2 : Po} (h : pl[k]? = some p) (hm : p2.m = p.m) : (pl.set k p2).map Po.m = pl.map Po.m := by
 rw [List.map_set, hm, rows_same (by rw [List.getElem?_map, h]; rfl)]
theorem po_ms {pl pl2 : List Po} {m : Nat} (h : pl2.map Po.m = pl.map Po.m) (hp : ∃ p ∈ pl, p.m = m) : ∃ p ∈ pl2, p.m = m := by
 obtain ⟨p, h1, rfl⟩ := hp
 have h2 : p.m ∈ pl2.map Po.m := by rw [h]; exact List.mem_map_of_mem h1
 obtain ⟨p2, h3, h4⟩ := List.mem_map.1 h2
 exact ⟨p2, h3, h4⟩
theorem ex_same {pl : List Po} {q q1 : List En} {j : Nat} (h : q1 = (q.take j).map (exN pl) ++ q.drop j) : ∀ k, j ≤ k → (q1[k]?).map En.e = (q[k]?).map En.e := fun k hk => by
  rw [h]
  by_cases hj : j ≤ q.length
  · rw [List.getElem?_append_right (by rw [List.length_map, List.length_take]; omega), List.getElem?_drop, List.length_map, List.length_take, Nat.min_eq_left hj]
    congr 2; omega
  · rw [List.drop_eq_nil_of_le (by omega), List.append_nil, List.getElem?_eq_none (by rw [List.length_map, List.length_take]; omega), List.getElem?_eq_none (by omega)]
theorem ex_get {pl : List Po} {q q1 : List En} {j : Nat} {x : En} (h : q1 = (q.take j).map (exN pl) ++ q.drop j) (hx : q[j]? = some x) : q1[j]? = some x := by
 have hj := (List.getElem?_eq_some_iff.1 hx).1
 rw [h, List.getElem?_append_right (by rw [List.length_map, List.length_take]; omega), List.getElem?_drop, List.length_map, List.length_take, Nat.min_eq_left (Nat.le_of_lt hj)]
 rw [show j + (j - j) = j by omega]; exact hx
theorem ex_skip {pl : List Po} {q q1 : List En} {j : Nat} {x : En} (h : q1 = (q.take j).map (exN pl) ++ q.drop j) (hx : q[j]? = some x) (hn : exN pl x = x) : q1 = (q.take (j + 1)).map (exN pl) ++ q.drop (j + 1) := by
 rw [h, take_at hx, List.map_append, List.append_assoc, drop_at hx]
 show _ = _ ++ ([exN pl x] ++ _)
 rw [hn]; rfl
theorem ex_set {pl : List Po} {q q1 : List En} {j : Nat} {x y : En} (h : q1 = (q.take j).map (exN pl) ++ q.drop j) (hx : q[j]? = some x) (hn : exN pl x = y) : q1.set j y = (q.take (j + 1)).map (exN pl) ++ q.drop (j + 1) := by
 have hj := (List.getElem?_eq_some_iff.1 hx).1
 rw [h, take_at hx, List.map_append, drop_at hx, List.set_append_right (h := by rw [List.length_map, List.length_take]; omega), List.length_map, List.length_take, Nat.min_eq_left (Nat.le_of_lt hj), Nat.sub_self, List.append_assoc]
 show _ = _ ++ ([exN pl x] ++ _)
 rw [hn]; rfl
theorem over_ev {H : AH} {R : HL} {x : En} {p : Po} {now : Int} (hH0 : Hs H ([(x.n, some (.cells ([(.i .u8 x.e.c.k), (.i .u8 x.e.c.f), (.i .u32 x.e.a), (.i .u32 x.e.c.b), (.i .u16 x.e.c.o), (.i .u16 x.e.c.i), (.i .u32 x.e.c.p), x.e.c.x1, x.e.c.x2, x.e.c.x3, x.e.c.x4, x.dv, (.p (some (x.m, 0))), (.i .i64 x.e.st), (.i .i64 x.e.sent), (.i .i64 x.e.tm), (.i .i64 x.e.mi)]) true))] ++ ([(x.m, some (.cells ([(.i .i64 p.un), (.i .i64 p.tr), (.b p.gv)]) true))] ++ (R)))) : Ev tabA spA (.fn (.func 43) [] []) [.p (some (x.n, 0)), .i .i64 now] H (fun r H' => r = .b (overE now x.e p) ∧ Hs H' ([(x.n, some (.cells ([(.i .u8 x.e.c.k), (.i .u8 x.e.c.f), (.i .u32 x.e.a), (.i .u32 x.e.c.b), (.i .u16 x.e.c.o), (.i .u16 x.e.c.i), (.i .u32 x.e.c.p), x.e.c.x1, x.e.c.x2, x.e.c.x3, x.e.c.x4, x.dv, (.p (some (x.m, 0))), (.i .i64 x.e.st), (.i .i64 x.e.sent), (.i .i64 x.e.tm), (.i .i64 x.e.mi)]) true))] ++ ([(x.m, some (.cells ([(.i .i64 p.un), (.i .i64 p.tr), (.b p.gv)]) true))] ++ (R)))) := by
 refine Ev_C (F := x43) rfl ?_
 refine C_seq  (C_region  (pv (.b false) rfl (O_nil  (C_seq  ?_))))
 by_cases ha : 0 ≤ p.un
 ·
  refine C_region  (pv (pT x.n 0) rfl (O_p (pT x.n 0) (r_nilc rfl) (pf (pT x.n 12) rfl rfl (O_p (pT x.m 0) (r_ld rfl hH0.get0 rfl) (O_p (pT x.m 0) (r_nilc rfl) (pf (pT x.m 0) rfl rfl (O_p (.i .i64 p.un) (r_ld rfl hH0.get1 rfl) (O_p (.b true) (by exact (by rw [r_geq rfl rfl, decide_eq_true (by omega)])) (pv (.b true) rfl (O_gk rfl (pv (pT x.n 0) rfl (O_gk rfl (O_p (pT x.n 0) (r_nilc rfl) ?_)))))))))))))
  refine O_gk rfl (pf (pT x.n 12) rfl rfl (O_gk rfl (O_p (pT x.m 0) (r_ld rfl hH0.get0 rfl) (O_gk rfl (O_p (pT x.m 0) (r_nilc rfl) (O_gk rfl (pf (pT x.m 0) rfl rfl (O_gk rfl (O_p (.i .i64 p.un) (r_ld rfl hH0.get1 rfl) (O_gk rfl (pv (.i .i64 now) rfl (O_gk rfl (O_p (.b (decide (p.un < now))) (r_lss rfl rfl) ?_)))))))))))))
  refine O_p (.b (decide (p.un < now))) (r_pick_t rfl rfl) (pv (.b (decide (p.un < now))) rfl (O_nil  (C_seq  ?_)))
  by_cases hb : 0 ≤ p.tr
  ·
   by_cases hc2 : x.e.st = 2
   ·
    refine C_draw fun b1 H2 hbase3 hA4 => ?_
    have hH5 := hH0.keep (by have := hA4.1; omega) (fun q _ => hA4.2 q) ((hH0.old).aside hA4).ok
    refine D_l (v := (pT x.n 0)) rfl rfl rfl (r_mv rfl) (D_l (v := (pT x.n 0)) rfl rfl rfl (r_nilc rfl) (D_l (v := (pT x.n 12)) rfl rfl rfl (r_fadd' rfl rfl) (D_r (v := (pT x.m 0)) rfl rfl rfl (r_ld rfl hH5.get0 rfl) (D_l (v := (pT x.m 0)) rfl rfl rfl (r_nilc rfl) (D_l (v := (pT x.m 1)) rfl rfl rfl (r_fadd' rfl rfl) (D_r (v := (.i .i64 p.tr)) rfl rfl rfl (r_ld rfl hH5.get1 rfl) (D_l (v := (.b true)) rfl rfl rfl (by exact (by rw [r_geq rfl rfl, decide_eq_true (by omega)])) (D_l (v := (.b true)) rfl rfl rfl (r_mv rfl) (D_gk rfl (D_l (v := (pT x.n 0)) rfl rfl rfl (r_mv rfl) (D_gk rfl (D_l (v := (pT x.n 0)) rfl rfl rfl (r_nilc rfl) (D_gk rfl ?_)))))))))))))
    refine D_l (v := (pT x.n 13)) rfl rfl rfl (r_fadd' rfl rfl) (D_gk rfl (D_r (v := (.i .i64 x.e.st)) rfl rfl rfl (r_ld rfl hH5.get0 rfl) (D_gk rfl (D_l (v := (.b true)) rfl rfl rfl (by exact (by rw [r_eql rfl rfl, decide_eq_true (by omega)])) (D_l (v := (.b true)) rfl rfl rfl (r_pick_t rfl rfl) (D_l (v := (.b true)) rfl rfl rfl (r_mv rfl) (D_gk rfl (D_l (v := (pT x.n 0)) rfl rfl rfl (r_mv rfl) (D_gk rfl (D_l (v := (pT x.n 0)) rfl rfl rfl (r_nilc rfl) (D_gk rfl (D_l (v := (pT x.n 14)) rfl rfl rfl (r_fadd' rfl rfl) (D_gk rfl ?_)))))))))))))
    refine D_l (v := (pT x.n 0)) rfl rfl rfl (r_mv rfl) (D_gk rfl (D_l (v := (pT x.n 0)) rfl rfl rfl (r_nilc rfl) (D_gk rfl (D_l (v := (pT x.n 12)) rfl rfl rfl (r_fadd' rfl rfl) (D_gk rfl (D_r (v := (.i .i64 x.e.sent)) rfl rfl rfl (r_ld rfl hH5.get0 rfl) (D_gk rfl (D_r (v := (pT x.m 0)) rfl rfl rfl (r_ld rfl hH5.get0 rfl) (D_gk rfl (D_l (v := (pT x.m 0)) rfl rfl rfl (r_nilc rfl) (D_gk rfl (D_l (v := (pT x.m 1)) rfl rfl rfl (r_fadd' rfl rfl) (D_gk rfl ?_)))))))))))))
    refine D_r (v := (.i .i64 p.tr)) rfl rfl rfl (r_ld rfl hH5.get1 rfl) (D_gk rfl (D_l (v := (.b (decide (p.tr < x.e.sent)))) rfl rfl rfl (r_gtr rfl rfl) (D_l (v := (.b (decide (p.tr < x.e.sent)))) rfl rfl rfl (r_pick_t rfl rfl) (D_l (v := (.b (decide (p.tr < x.e.sent)))) rfl rfl rfl (r_mv rfl) (D_nil  (C_seq  (C_region  (pv (.b (decide (p.un < now))) rfl (pv (.b (decide (p.un < now))) rfl (O_gx (e := (!(decide (p.un < now)))) (v := (.b (decide (p.tr < x.e.sent)))) (wf rfl) (fun he => (r_mv rfl)) (O_p (.b ((decide (p.un < now)) || (decide (p.tr < x.e.sent)))) (r_pick_or rfl rfl rfl rfl) (pv (.b ((decide (p.un < now)) || (decide (p.tr < x.e.sent)))) rfl (O_nil  ?_)))))))))))))
    refine C_ret  ?_
    have hH6 := ((hH5.top1).top1)
    exact ⟨.inr rfl, _, resL_one (r_tmp (v := (.b ((decide (p.un < now)) || (decide (p.tr < x.e.sent))))) rfl), by unfold overE; rw [decide_eq_true ha, decide_eq_true hb, decide_eq_true hc2]; first | rfl | (simp only [Bool.true_and, Bool.false_and, Bool.and_true, Bool.and_false, Bool.or_false, Bool.false_or] <;> rfl), hH6⟩
   ·
    refine C_draw fun b7 H8 hbase9 hA10 => ?_
    have hH11 := hH0.keep (by have := hA10.1; omega) (fun q _ => hA10.2 q) ((hH0.old).aside hA10).ok
    refine D_l (v := (pT x.n 0)) rfl rfl rfl (r_mv rfl) (D_l (v := (pT x.n 0)) rfl rfl rfl (r_nilc rfl) (D_l (v := (pT x.n 12)) rfl rfl rfl (r_fadd' rfl rfl) (D_r (v := (pT x.m 0)) rfl rfl rfl (r_ld rfl hH11.get0 rfl) (D_l (v := (pT x.m 0)) rfl rfl rfl (r_nilc rfl) (D_l (v := (pT x.m 1)) rfl rfl rfl (r_fadd' rfl rfl) (D_r (v := (.i .i64 p.tr)) rfl rfl rfl (r_ld rfl hH11.get1 rfl) (D_l (v := (.b true)) rfl rfl rfl (by exact (by rw [r_geq rfl rfl, decide_eq_true (by omega)])) (D_l (v := (.b true)) rfl rfl rfl (r_mv rfl) (D_gk rfl (D_l (v := (pT x.n 0)) rfl rfl rfl (r_mv rfl) (D_gk rfl (D_l (v := (pT x.n 0)) rfl rfl rfl (r_nilc rfl) (D_gk rfl ?_)))))))))))))
    refine D_l (v := (pT x.n 13)) rfl rfl rfl (r_fadd' rfl rfl) (D_gk rfl (D_r (v := (.i .i64 x.e.st)) rfl rfl rfl (r_ld rfl hH11.get0 rfl) (D_gk rfl (D_l (v := (.b false)) rfl rfl rfl (by exact (by rw [r_eql rfl rfl, decide_eq_false (by omega)])) (D_l (v := (.b false)) rfl rfl rfl (r_pick_t rfl rfl) (D_l (v := (.b false)) rfl rfl rfl (r_mv rfl) (D_gf rfl (D_gf rfl (D_gf rfl (D_gf rfl (D_gf rfl (D_gf rfl (D_gf rfl ?_)))))))))))))
    refine D_gf rfl (D_gf rfl (D_gf rfl (D_gf rfl (D_gf rfl (D_l (v := (.b false)) rfl rfl rfl (r_pick_f rfl rfl) (D_l (v := (.b false)) rfl rfl rfl (r_mv rfl) (D_nil  (C_seq  (C_region  (pv (.b (decide (p.un < now))) rfl (pv (.b (decide (p.un < now))) rfl (O_gx (e := (!(decide (p.un < now)))) (v := (.b false)) (wf rfl) (fun he => (r_mv rfl)) (O_p (.b ((decide (p.un < now)) || false)) (r_pick_or rfl rfl rfl rfl) ?_)))))))))))))
    refine pv (.b ((decide (p.un < now)) || false)) rfl (O_nil  (C_ret  ?_))
    have hH12 := ((hH11.top1).top1)
    exact ⟨.inr rfl, _, resL_one (r_tmp (v := (.b ((decide (p.un < now)) || false))) rfl), by unfold overE; rw [decide_eq_true ha, decide_eq_true hb, decide_eq_false hc2]; first | rfl | (simp only [Bool.true_and, Bool.false_and, Bool.and_true, Bool.and_false, Bool.or_false, Bool.false_or] <;> rfl), hH12⟩
  ·
   refine C_draw fun b13 H14 hbase15 hA16 => ?_
   have hH17 := hH0.keep (by have := hA16.1; omega) (fun q _ => hA16.2 q) ((hH0.old).aside hA16).ok
   refine D_l (v := (pT x.n 0)) rfl rfl rfl (r_mv rfl) (D_l (v := (pT x.n 0)) rfl rfl rfl (r_nilc rfl) (D_l (v := (pT x.n 12)) rfl rfl rfl (r_fadd' rfl rfl) (D_r (v := (pT x.m 0)) rfl rfl rfl (r_ld rfl hH17.get0 rfl) (D_l (v := (pT x.m 0)) rfl rfl rfl (r_nilc rfl) (D_l (v := (pT x.m 1)) rfl rfl rfl (r_fadd' rfl rfl) (D_r (v := (.i .i64 p.tr)) rfl rfl rfl (r_ld rfl hH17.get1 rfl) (D_l (v := (.b false)) rfl rfl rfl (by exact (by rw [r_geq rfl rfl, decide_eq_false (by omega)])) (D_l (v := (.b false)) rfl rfl rfl (r_mv rfl) (D_gf rfl (D_gf rfl (D_gf rfl (D_gf rfl (D_gf rfl ?_)))))))))))))
   refine D_l (v := (.b false)) rfl rfl rfl (r_pick_f rfl rfl) (D_l (v := (.b false)) rfl rfl rfl (r_mv rfl) (D_gf rfl (D_gf rfl (D_gf rfl (D_gf rfl (D_gf rfl (D_gf rfl (D_gf rfl (D_gf rfl (D_gf rfl (D_gf rfl (D_gf rfl (D_gf rfl ?_)))))))))))))
   refine D_l (v := (.b false)) rfl rfl rfl (r_pick_f rfl rfl) (D_l (v := (.b false)) rfl rfl rfl (r_mv rfl) (D_nil  (C_seq  (C_region  (pv (.b (decide (p.un < now))) rfl (pv (.b (decide (p.un < now))) rfl (O_gx (e := (!(decide (p.un < now)))) (v := (.b false)) (wf rfl) (fun he => (r_mv rfl)) (O_p (.b ((decide (p.un < now)) || false)) (r_pick_or rfl rfl rfl rfl) (pv (.b ((decide (p.un < now)) || false)) rfl (O_nil  (C_ret  ?_)))))))))))
   have hH18 := ((hH17.top1).top1)
   exact ⟨.inr rfl, _, resL_one (r_tmp (v := (.b ((decide (p.un < now)) || false))) rfl), by unfold overE; rw [decide_eq_true ha, decide_eq_false hb]; first | rfl | (simp only [Bool.true_and, Bool.false_and, Bool.and_true, Bool.and_false, Bool.or_false, Bool.false_or] <;> rfl), hH18⟩
 ·
  refine C_region  (pv (pT x.n 0) rfl (O_p (pT x.n 0) (r_nilc rfl) (pf (pT x.n 12) rfl rfl (O_p (pT x.m 0) (r_ld rfl hH0.get0 rfl) (O_p (pT x.m 0) (r_nilc rfl) (pf (pT x.m 0) rfl rfl (O_p (.i .i64 p.un) (r_ld rfl hH0.get1 rfl) (O_p (.b false) (by exact (by rw [r_geq rfl rfl, decide_eq_false (by omega)])) (pv (.b false) rfl (O_gf rfl (O_gf rfl (O_gf rfl (O_gf rfl ?_)))))))))))))
  refine O_gf rfl (O_gf rfl (O_gf rfl (O_gf rfl (O_gf rfl (O_p (.b false) (r_pick_f rfl rfl) (pv (.b false) rfl (O_nil  (C_seq  ?_))))))))
  by_cases hb : 0 ≤ p.tr
  ·
   by_cases hc2 : x.e.st = 2
   ·
    refine C_draw fun b19 H20 hbase21 hA22 => ?_
    have hH23 := hH0.keep (by have := hA22.1; omega) (fun q _ => hA22.2 q) ((hH0.old).aside hA22).ok
    refine D_l (v := (pT x.n 0)) rfl rfl rfl (r_mv rfl) (D_l (v := (pT x.n 0)) rfl rfl rfl (r_nilc rfl) (D_l (v := (pT x.n 12)) rfl rfl rfl (r_fadd' rfl rfl) (D_r (v := (pT x.m 0)) rfl rfl rfl (r_ld rfl hH23.get0 rfl) (D_l (v := (pT x.m 0)) rfl rfl rfl (r_nilc rfl) (D_l (v := (pT x.m 1)) rfl rfl rfl (r_fadd' rfl rfl) (D_r (v := (.i .i64 p.tr)) rfl rfl rfl (r_ld rfl hH23.get1 rfl) (D_l (v := (.b true)) rfl rfl rfl (by exact (by rw [r_geq rfl rfl, decide_eq_true (by omega)])) (D_l (v := (.b true)) rfl rfl rfl (r_mv rfl) (D_gk rfl (D_l (v := (pT x.n 0)) rfl rfl rfl (r_mv rfl) (D_gk rfl (D_l (v := (pT x.n 0)) rfl rfl rfl (r_nilc rfl) (D_gk rfl ?_)))))))))))))
    refine D_l (v := (pT x.n 13)) rfl rfl rfl (r_fadd' rfl rfl) (D_gk rfl (D_r (v := (.i .i64 x.e.st)) rfl rfl rfl (r_ld rfl hH23.get0 rfl) (D_gk rfl (D_l (v := (.b true)) rfl rfl rfl (by exact (by rw [r_eql rfl rfl, decide_eq_true (by omega)])) (D_l (v := (.b true)) rfl rfl rfl (r_pick_t rfl rfl) (D_l (v := (.b true)) rfl rfl rfl (r_mv rfl) (D_gk rfl (D_l (v := (pT x.n 0)) rfl rfl rfl (r_mv rfl) (D_gk rfl (D_l (v := (pT x.n 0)) rfl rfl rfl (r_nilc rfl) (D_gk rfl (D_l (v := (pT x.n 14)) rfl rfl rfl (r_fadd' rfl rfl) (D_gk rfl ?_)))))))))))))
    refine D_l (v := (pT x.n 0)) rfl rfl rfl (r_mv rfl) (D_gk rfl (D_l (v := (pT x.n 0)) rfl rfl rfl (r_nilc rfl) (D_gk rfl (D_l (v := (pT x.n 12)) rfl rfl rfl (r_fadd' rfl rfl) (D_gk rfl (D_r (v := (.i .i64 x.e.sent)) rfl rfl rfl (r_ld rfl hH23.get0 rfl) (D_gk rfl (D_r (v := (pT x.m 0)) rfl rfl rfl (r_ld rfl hH23.get0 rfl) (D_gk rfl (D_l (v := (pT x.m 0)) rfl rfl rfl (r_nilc rfl) (D_gk rfl (D_l (v := (pT x.m 1)) rfl rfl rfl (r_fadd' rfl rfl) (D_gk rfl ?_)))))))))))))
    refine D_r (v := (.i .i64 p.tr)) rfl rfl rfl (r_ld rfl hH23.get1 rfl) (D_gk rfl (D_l (v := (.b (decide (p.tr < x.e.sent)))) rfl rfl rfl (r_gtr rfl rfl) (D_l (v := (.b (decide (p.tr < x.e.sent)))) rfl rfl rfl (r_pick_t rfl rfl) (D_l (v := (.b (decide (p.tr < x.e.sent)))) rfl rfl rfl (r_mv rfl) (D_nil  (C_seq  (C_region  (pv (.b false) rfl (pv (.b false) rfl (O_gk rfl (pv (.b (decide (p.tr < x.e.sent))) rfl (O_p (.b (decide (p.tr < x.e.sent))) (r_pick_f rfl rfl) (pv (.b (decide (p.tr < x.e.sent))) rfl ?_)))))))))))))
    refine O_nil  (C_ret  ?_)
    have hH24 := ((hH23.top1).top1)
    exact ⟨.inr rfl, _, resL_one (r_tmp (v := (.b (decide (p.tr < x.e.sent)))) rfl), by unfold overE; rw [decide_eq_false ha, decide_eq_true hb, decide_eq_true hc2]; first | rfl | (simp only [Bool.true_and, Bool.false_and, Bool.and_true, Bool.and_false, Bool.or_false, Bool.false_or] <;> rfl), hH24⟩
   ·
    refine C_draw fun b25 H26 hbase27 hA28 => ?_
    have hH29 := hH0.keep (by have := hA28.1; omega) (fun q _ => hA28.2 q) ((hH0.old).aside hA28).ok
    refine D_l (v := (pT x.n 0)) rfl rfl rfl (r_mv rfl) (D_l (v := (pT x.n 0)) rfl rfl rfl (r_nilc rfl) (D_l (v := (pT x.n 12)) rfl rfl rfl (r_fadd' rfl rfl) (D_r (v := (pT x.m 0)) rfl rfl rfl (r_ld rfl hH29.get0 rfl) (D_l (v := (pT x.m 0)) rfl rfl rfl (r_nilc rfl) (D_l (v := (pT x.m 1)) rfl rfl rfl (r_fadd' rfl rfl) (D_r (v := (.i .i64 p.tr)) rfl rfl rfl (r_ld rfl hH29.get1 rfl) (D_l (v := (.b true)) rfl rfl rfl (by exact (by rw [r_geq rfl rfl, decide_eq_true (by omega)])) (D_l (v := (.b true)) rfl rfl rfl (r_mv rfl) (D_gk rfl (D_l (v := (pT x.n 0)) rfl rfl rfl (r_mv rfl) (D_gk rfl (D_l (v := (pT x.n 0)) rfl rfl rfl (r_nilc rfl) (D_gk rfl ?_)))))))))))))
    refine D_l (v := (pT x.n 13)) rfl rfl rfl (r_fadd' rfl rfl) (D_gk rfl (D_r (v := (.i .i64 x.e.st)) rfl rfl rfl (r_ld rfl hH29.get0 rfl) (D_gk rfl (D_l (v := (.b false)) rfl rfl rfl (by exact (by rw [r_eql rfl rfl, decide_eq_false (by omega)])) (D_l (v := (.b false)) rfl rfl rfl (r_pick_t rfl rfl) (D_l (v := (.b false)) rfl rfl rfl (r_mv rfl) (D_gf rfl (D_gf rfl (D_gf rfl (D_gf rfl (D_gf rfl (D_gf rfl (D_gf rfl ?_)))))))))))))
    refine D_gf rfl (D_gf rfl (D_gf rfl (D_gf rfl (D_gf rfl (D_l (v := (.b false)) rfl rfl rfl (r_pick_f rfl rfl) (D_l (v := (.b false)) rfl rfl rfl (r_mv rfl) (D_nil  (C_seq  (C_region  (pv (.b false) rfl (pv (.b false) rfl (O_gk rfl (pv (.b false) rfl ?_)))))))))))))
    refine O_p (.b false) (r_pick_f rfl rfl) (pv (.b false) rfl (O_nil  (C_ret  ?_)))
    have hH30 := ((hH29.top1).top1)
    exact ⟨.inr rfl, _, resL_one (r_tmp (v := (.b false)) rfl), by unfold overE; rw [decide_eq_false ha, decide_eq_true hb, decide_eq_false hc2]; first | rfl | (simp only [Bool.true_and, Bool.false_and, Bool.and_true, Bool.and_false, Bool.or_false, Bool.false_or] <;> rfl), hH30⟩
  ·
   refine C_draw fun b31 H32 hbase33 hA34 => ?_
   have hH35 := hH0.keep (by have := hA34.1; omega) (fun q _ => hA34.2 q) ((hH0.old).aside hA34).ok
   refine D_l (v := (pT x.n 0)) rfl rfl rfl (r_mv rfl) (D_l (v := (pT x.n 0)) rfl rfl rfl (r_nilc rfl) (D_l (v := (pT x.n 12)) rfl rfl rfl (r_fadd' rfl rfl) (D_r (v := (pT x.m 0)) rfl rfl rfl (r_ld rfl hH35.get0 rfl) (D_l (v := (pT x.m 0)) rfl rfl rfl (r_nilc rfl) (D_l (v := (pT x.m 1)) rfl rfl rfl (r_fadd' rfl rfl) (D_r (v := (.i .i64 p.tr)) rfl rfl rfl (r_ld rfl hH35.get1 rfl) (D_l (v := (.b false)) rfl rfl rfl (by exact (by rw [r_geq rfl rfl, decide_eq_false (by omega)])) (D_l (v := (.b false)) rfl rfl rfl (r_mv rfl) (D_gf rfl (D_gf rfl (D_gf rfl (D_gf rfl (D_gf rfl ?_)))))))))))))
   refine D_l (v := (.b false)) rfl rfl rfl (r_pick_f rfl rfl) (D_l (v := (.b false)) rfl rfl rfl (r_mv rfl) (D_gf rfl (D_gf rfl (D_gf rfl (D_gf rfl (D_gf rfl (D_gf rfl (D_gf rfl (D_gf rfl (D_gf rfl (D_gf rfl (D_gf rfl (D_gf rfl ?_)))))))))))))
   refine D_l (v := (.b false)) rfl rfl rfl (r_pick_f rfl rfl) (D_l (v := (.b false)) rfl rfl rfl (r_mv rfl) (D_nil  (C_seq  (C_region  (pv (.b false) rfl (pv (.b false) rfl (O_gk rfl (pv (.b false) rfl (O_p (.b false) (r_pick_f rfl rfl) (pv (.b false) rfl (O_nil  (C_ret  ?_))))))))))))
   have hH36 := ((hH35.top1).top1)
   exact ⟨.inr rfl, _, resL_one (r_tmp (v := (.b false)) rfl), by unfold overE; rw [decide_eq_false ha, decide_eq_false hb]; first | rfl | (simp only [Bool.true_and, Bool.false_and, Bool.and_true, Bool.and_false, Bool.or_false, Bool.false_or] <;> rfl), hH36⟩
theorem mp_step {q : List En} {mp : List Nat} {j : Nat} {x : En} (h : ∀ k, k ∈ mp ↔ ∃ i x, i < j ∧ q[i]? = some x ∧ x.e.st ∈ [0, 1, 2] ∧ x.m = k) (hx : q[j]? = some x) (hs : x.e.st ∈ [0, 1, 2]) : ∀ k, k ∈ (if x.m ∈ mp then mp else mp ++ [x.m]) ↔ ∃ i y, i < j + 1 ∧ q[i]? = some y ∧ y.e.st ∈ [0, 1, 2] ∧ y.m = k := fun k => by
  have hm : k ∈ (if x.m ∈ mp then mp else mp ++ [x.m]) ↔ k ∈ mp ∨ k = x.m := by
    split
    · rename_i h9; exact ⟨.inl, fun h8 => by rcases h8 with h8 | rfl; exact h8; exact h9⟩
    · rw [List.mem_append, List.mem_singleton]
  rw [hm, h k]
  constructor
  · rintro (⟨i, y, h1, h2⟩ | rfl)
    · exact ⟨i, y, by omega, h2⟩
    · exact ⟨j, x, by omega, hx, hs, rfl⟩
  · rintro ⟨i, y, h1, h2, h3, h4⟩
    rcases Nat.lt_succ_iff_lt_or_eq.1 h1 with h9 | rfl
    · exact .inl ⟨i, y, h9, h2, h3, h4⟩
    · rw [hx] at h2; cases h2; exact .inr h4.symm
set_option maxHeartbeats 2000000 in
theorem expire_raw {H : AH} {R D : HL} {F : Nat} {lv : AV} {lc : List AV} {nx : Int} {q : List En} {pl : List Po} {now : Int} (hlv : Sq 1 lv lc (q.map En.pr).flatten) (hql : q.length ≤ 100000) (hok : ∀ x ∈ q, OctIn D x.dv x.e.c.d) (hpo : ∀ x ∈ q, ∃ p ∈ pl, p.m = x.m) (hH0 : Hs H ([(F, some (.cells ([lv, (.i .u32 nx)]) true))] ++ ((qseg lv lc) ++ ((q.flatMap En.seg) ++ ((pl.flatMap Po.seg) ++ (R)))))) : Ev tabA spA (.fn (.func 26) [] []) [.p (some (F, 0)), .i .i64 now] H (fun r H' => ∃ (mp : List Nat) (pl2 : List Po) (n2 : Nat) (q1 : List En), r = .i .i64 ((n2 : Nat) : Int) ∧ (∀ k, k ∈ mp ↔ ∃ (i : Nat) (x : En), q[i]? = some x ∧ x.e.st ∈ [0, 1, 2] ∧ x.m = k) ∧ q.foldl (exStep mp now) (pl, 0) = (pl2, n2) ∧ pl2.map Po.m = pl.map Po.m ∧ q1 = q.map (exN pl2) ∧ q1.map En.nm = q.map En.nm ∧ (∀ x ∈ q1, OctIn D x.dv x.e.c.d) ∧ Hs H' ([(F, some (.cells ([lv, (.i .u32 nx)]) true))] ++ ((qseg lv lc) ++ ((q1.flatMap En.seg) ++ ((pl2.flatMap Po.seg) ++ (R)))))) := by
  refine Ev_C (F := x26) rfl ?_
  refine C_seq  (C_region  ?_)
  refine O_box (z := [(.i .i64 now)]) rfl fun n1 H2 hN3 => ?_
  have hH4 := hH0.new hN3
  refine pv (.i .i64 0) rfl (O_nil  (C_seq  (C_region  ?_)))
  refine O_alloc fun n5 H6 hN7 => ?_
  have hH8 := hH4.new hN7
  refine O_store (vs := [(.i .i64 0)]) (c' := [(.i .i64 0)]) rfl (by rfl) hH8.get0 rfl (List.cons_ne_nil _ _) (Nat.le_of_ble_eq_true rfl) rfl fun H9 hW10 => ?_
  have hH11 := hH8.wr0 hW10
  refine O_nil  (C_seq  (C_region  ?_))
  refine O_mkmap fun n12 H13 hN14 => ?_
  have hH15 := hH11.new hN14
  refine O_alloc fun n16 H17 hN18 => ?_
  have hH19 := hH15.new hN18
  refine O_store (vs := [(.m (some n12))]) (c' := [(.m (some n12))]) rfl (by rfl) hH19.get0 rfl (List.cons_ne_nil _ _) (Nat.le_of_ble_eq_true rfl) rfl fun H20 hW21 => ?_
  have hH22 := hH19.wr0 hW21
  refine O_nil  (C_seq  (C_seq  (C_region  (pv (pT F 0) rfl ?_))))
  refine O_bslice (c := [(.i .i64 0), (.i .i64 1), (.i .i64 2)]) rfl fun n23 H24 hN25 => ?_
  have hH26 := hH22.new hN25
  refine O_call (Ev.mono (in_ev (F := F) (sb := n23) (ss := [0, 1, 2]) hH26) fun v27 H28 hq29 => ?_)
  obtain ⟨b30, b31, rfl, hH32⟩ := hq29
  refine O_nil  (C_block  ?_)
  refine C_rangeFn (g := 59) (first := []) (cap := [.p (some (b30, 0)), .p (some (b31, 0))]) rfl fun Tx L HLL hTx hNL0 => ?_
  obtain ⟨LB, hLB, hNL⟩ := hNL0.loop
  have hH33 := hH32.new hNL
  have hH34 := ((((((((((((hH33.top11).top6).top6).top7).top8).top5).top11).top11).top11).top11).top11).top11)
  refine Ev.mono (in1_ev (F := F) (sb := n23) (nx := nx) (ss := [0, 1, 2]) (q0 := q) hlv hql (by decide) (fun j HH => ∃ (mp : List Nat), ∃ (bm : Blk), (Mp mp bm) ∧ (∀ k ∈ mp, ∃ p ∈ pl, p.m = k) ∧ (∀ k, k ∈ mp ↔ ∃ i x, i < j ∧ q[i]? = some x ∧ x.e.st ∈ [0, 1, 2] ∧ x.m = k) ∧ Hs HH ([(b30, some (.cells ([(.p (some (F, 0)))]) true))] ++ ([(b31, some (.cells ([(.sl (some (n23, 0)) [0, 1, 2].length [0, 1, 2].length 0)]) true))] ++ ([(n23, some (.cells ([0, 1, 2].map fun z => AV.i IntKind.i64 z) true))] ++ ([(F, some (.cells ([lv, (.i .u32 nx)]) true))] ++ ((qseg lv lc) ++ ((q.flatMap En.seg) ++ ([(L, some LB)] ++ ([(n1, some (.cells ([(.i .i64 now)]) true))] ++ ([(n5, some (.cells ([(.i .i64 0)]) true))] ++ ([(n16, some (.cells ([(.m (some n12))]) true))] ++ ([(n12, some bm)] ++ ((pl.flatMap Po.seg) ++ (R)))))))))))))) (fun HH => False) ?_ ?_ ?_ ?_ ?_) fun v2 HE hE => ?_
  · exact ⟨[], .map [] 0, Mp.nil, (fun k hk => by cases hk), (fun k => ⟨(fun h => by cases h), fun ⟨i, x, h, _⟩ => absurd h (Nat.not_lt_zero _)⟩), hH34⟩
  · rintro j H1 ⟨mp, bm, hq0, hq1, hq2, hh⟩
    exact ⟨q, _, rfl, (fun _ _ => rfl), hh⟩
  · rintro j H1 H2 hn hk2 hok ⟨mp, bm, hq0, hq1, hq2, hh⟩
    exact ⟨mp, bm, hq0, hq1, hq2, hh.keep hn hk2 hok⟩
  · rintro j H1 e0 h0j hst ⟨mp, bm, hq0, hq1, hq2, hh⟩
    refine ⟨mp, bm, hq0, hq1, fun k => (hq2 k).trans ⟨fun ⟨i, x, h1, h2⟩ => ⟨i, x, by omega, h2⟩, fun ⟨i, x, h1, h2, h3, h4⟩ => ⟨i, x, by rcases Nat.lt_succ_iff_lt_or_eq.1 h1 with h9 | rfl; exact h9; rw [h0j] at h2; cases h2; exact absurd h3 hst, h2, h3, h4⟩⟩, hh⟩
  ·
    rintro j HH e0 h0j hst ⟨mp, bm, hq0, hq1, hq2, hHb⟩
    have hjl : j < q.length := (List.getElem?_eq_some_iff.1 h0j).1
    obtain ⟨x, hxj, hxn, hxe⟩ := en_same (q := q) rfl ((fun _ _ => rfl) j (Nat.le_refl _)) h0j
    rw [← hxn]
    refine Ev_yield ((hHb.get6).trans (congrArg some hLB)) rfl ?_
    refine C.te ?_ (hTx.cons 14 _)
    have hpx := hpo x (List.mem_of_getElem? hxj)
    have hH35 := (hHb.top5)
    have hH36 := En.out hxj hH35
    refine C_region  (pv (pT x.n 0) rfl (O_nil  ?_))
    refine ⟨rfl, _, _, _, _, _, (hH36.get7).trans (congrArg some hLB), fun H2 hWb => ?_⟩
    have hH37 := hH36.wr7 hWb
    refine C_block  ?_
    refine C_draw fun b38 H39 hbase40 hA41 => ?_
    have hH42 := hH37.keep (by have := hA41.1; omega) (fun q _ => hA41.2 q) ((hH37.old).aside hA41).ok
    refine D_l (v := (pT x.n 0)) rfl rfl rfl (r_mv rfl) (D_l (v := (pT x.n 0)) rfl rfl rfl (r_nilc rfl) (D_l (v := (pT x.n 12)) rfl rfl rfl (r_fadd' rfl rfl) (D_r (v := (.m (some n12))) rfl rfl rfl (r_ld rfl hH42.get10 rfl) (D_r (v := (pT x.m 0)) rfl rfl rfl (r_ld rfl hH42.get0 rfl) ?_))))
    refine D_nh rfl rfl (by exact r_pput hH42.top11 hq0 rfl rfl rfl (apart_full hpx hq1 hH42.top12)) fun H43 hA44 => ?_
    obtain ⟨bm45, hMb46, hH47⟩ := hA44
    refine And.intro (And.intro (Or.inl rfl) (And.intro (Or.inl rfl) True.intro)) (D_nil  ?_)
    refine ⟨_, _, _, _, _, (hH47.get8), fun H4 hWr => ?_⟩
    have hH48 := Hs.cong8 (B := [(L, some LB)]) (hH47.wr8 hWr) (by rw [hLB]; rfl)
    have hH49 := ((hH48.top2).top2)
    have hH50 := En.back0 hxj hH49
    have hH51 := ((((((((((((hH50.top11).top2).top11).top11).top11).top11).top6).top11).top11).top11).top11).top11)
    exact ⟨_, rfl, fun _ => ⟨_, bm45, hMb46, fun k hk => by split at hk; exact hq1 k hk; rcases List.mem_append.1 hk with h9 | h9; exact hq1 k h9; rw [List.mem_singleton.1 h9]; exact hpx, mp_step hq2 hxj (by rw [hxe]; exact hst), hH51⟩, fun h => by cases h⟩
  rcases hE with hE | hE
  ·
    obtain ⟨mp, bm, hq0, hq1, hq2, hHE⟩ := hE
    refine ⟨.ready, none, _, _, _, _, (hHE.get6).trans (congrArg some hLB), by decide, fun HD hD => ?_⟩
    have hH52 := hHE.drp6 hD
    have hmpA := hq1
    have hmpM := hq0
    have hmpI := hq2
    refine C_seq  (C_seq  (C_region  (pv (pT F 0) rfl ?_)))
    refine O_bslice (c := [(.i .i64 0), (.i .i64 1), (.i .i64 2), (.i .i64 3)]) rfl fun n53 H54 hN55 => ?_
    have hH56 := hH52.new hN55
    refine O_call (Ev.mono (in_ev (F := F) (sb := n53) (ss := [0, 1, 2, 3]) hH56) fun v57 H58 hq59 => ?_)
    obtain ⟨b60, b61, rfl, hH62⟩ := hq59
    refine O_nil  (C_block  ?_)
    refine C_rangeFn (g := 59) (first := []) (cap := [.p (some (b60, 0)), .p (some (b61, 0))]) rfl fun Tx L HLL hTx hNL0 => ?_
    obtain ⟨LB, hLB, hNL⟩ := hNL0.loop
    have hH63 := hH62.new hNL
    have hH64 := (((hH63.sub4).sub4).sub4)
    have hH65 := ((((((((((((hH64.top11).top11).top11).top11).top11).top5).top11).top11).top11).top11).top11).top11)
    refine Ev.mono (in1_ev (F := F) (sb := n53) (nx := nx) (ss := [0, 1, 2, 3]) (q0 := q) hlv hql (by decide) (fun j HH => ∃ (pl1 : List Po), ∃ (nn : Nat), ((q.take j).foldl (exStep mp now) (pl, 0) = (pl1, nn)) ∧ (pl1.map Po.m = pl.map Po.m) ∧ (nn ≤ j) ∧ Hs HH ([(b60, some (.cells ([(.p (some (F, 0)))]) true))] ++ ([(b61, some (.cells ([(.sl (some (n53, 0)) [0, 1, 2, 3].length [0, 1, 2, 3].length 0)]) true))] ++ ([(n53, some (.cells ([0, 1, 2, 3].map fun z => AV.i IntKind.i64 z) true))] ++ ([(F, some (.cells ([lv, (.i .u32 nx)]) true))] ++ ((qseg lv lc) ++ ((q.flatMap En.seg) ++ ([(L, some LB)] ++ ([(n1, some (.cells ([(.i .i64 now)]) true))] ++ ([(n5, some (.cells ([(.i .i64 (((nn : Nat)) : Int))]) true))] ++ ([(n16, some (.cells ([(.m (some n12))]) true))] ++ ([(n12, some bm)] ++ ((pl1.flatMap Po.seg) ++ (R)))))))))))))) (fun HH => False) ?_ ?_ ?_ ?_ ?_) fun v2 HE hE => ?_
    · exact ⟨pl, 0, rfl, rfl, Nat.le_refl _, hH65⟩
    · rintro j H1 ⟨pl1, nn, hq0, hq1, hq2, hh⟩
      exact ⟨q, _, rfl, (fun _ _ => rfl), hh⟩
    · rintro j H1 H2 hn hk2 hok ⟨pl1, nn, hq0, hq1, hq2, hh⟩
      exact ⟨pl1, nn, hq0, hq1, hq2, hh.keep hn hk2 hok⟩
    · rintro j H1 e0 h0j hst ⟨pl1, nn, hq0, hq1, hq2, hh⟩
      refine ⟨pl1, nn, by rw [ex_foldl h0j, exStep_st hst]; exact hq0, hq1, Nat.le_trans hq2 (Nat.le_succ _), hh⟩
    ·
      rintro j HH e0 h0j hst ⟨pl1, nn, hq0, hq1, hq2, hHb⟩
      have hjl : j < q.length := (List.getElem?_eq_some_iff.1 h0j).1
      obtain ⟨x, hxj, hxn, hxe⟩ := en_same (q := q) rfl ((fun _ _ => rfl) j (Nat.le_refl _)) h0j
      rw [← hxn]
      refine Ev_yield ((hHb.get6).trans (congrArg some hLB)) rfl ?_
      refine C.te ?_ (hTx.cons 23 _)
      have hpx := po_ms hq1 (hpo x (List.mem_of_getElem? hxj))
      obtain ⟨p, hpk, hpm⟩ := po_at hpx
      have hst1 : x.e.st ∈ [0, 1, 2, 3] := by rw [hxe]; exact hst
      have hH66 := (hHb.top5)
      have hH67 := En.out hxj hH66
      refine C_region  (pv (pT x.n 0) rfl (O_nil  ?_))
      refine ⟨rfl, _, _, _, _, _, (hH67.get7).trans (congrArg some hLB), fun H2 hWb => ?_⟩
      have hH68 := hH67.wr7 hWb
      refine C_block  (C_seq  ?_)
      by_cases hmem : x.m ∈ mp
      ·
        by_cases hgv : p.gv = true
        ·
          refine C_draw fun b69 H70 hbase71 hA72 => ?_
          have hH73 := hH68.keep (by have := hA72.1; omega) (fun q _ => hA72.2 q) ((hH68.old).aside hA72).ok
          refine D_l (v := (pT x.n 0)) rfl rfl rfl (r_mv rfl) (D_l (v := (pT x.n 0)) rfl rfl rfl (r_nilc rfl) (D_l (v := (pT x.n 12)) rfl rfl rfl (r_fadd' rfl rfl) (D_r (v := (.m (some n12))) rfl rfl rfl (r_ld rfl hH73.get10 rfl) (D_r (v := (pT x.m 0)) rfl rfl rfl (r_ld rfl hH73.get0 rfl) (D_r (v := (.b true)) rfl rfl rfl (by exact ((r_pget hH73.get11 hmpM rfl rfl (apart_full hpx (fun k hk => po_ms hq1 (hmpA k hk)) hH73.top12)).trans (by rw [decide_eq_true hmem]))) (D_l (v := (.b true)) rfl rfl rfl (r_mv rfl) (D_gk rfl (D_l (v := (pT x.n 0)) rfl rfl rfl (r_mv rfl) (D_gk rfl (D_l (v := (pT x.n 0)) rfl rfl rfl (r_nilc rfl) (D_gk rfl (D_l (v := (pT x.n 12)) rfl rfl rfl (r_fadd' rfl rfl) (D_gk rfl ?_)))))))))))))
          refine D_r (v := (pT x.m 0)) rfl rfl rfl (r_ld rfl hH73.get0 rfl) (D_gk rfl (D_l (v := (pT x.m 0)) rfl rfl rfl (r_nilc rfl) ?_))
          have hH74 := (hH73.top12)
          have hH75 := Po.out hpk hH74
          rw [hpm] at hH75
          refine D_gk rfl (D_l (v := (pT x.m 2)) rfl rfl rfl (r_fadd' rfl rfl) (D_gk rfl (D_r (v := (.b true)) rfl rfl rfl (by exact (((r_ld rfl hH75.get0 rfl)).trans (by rw [hgv]))) (D_gk rfl (D_l (v := (.b false)) rfl rfl rfl (r_un rfl rfl) (D_l (v := (.b false)) rfl rfl rfl (r_pick_t rfl rfl) (D_l (v := (.b false)) rfl rfl rfl (r_mv rfl) (D_gf rfl (D_gf rfl (D_gf rfl (D_l (v := (.b false)) rfl rfl rfl (r_pick_f rfl rfl) (D_nil  ?_))))))))))))
          refine C_cond (x := false) rfl (fun h => by cases h) (fun _ => ?_)
          refine C_skip  ?_
          refine ⟨_, _, _, _, _, (hH75.get9), fun H4 hWr => ?_⟩
          have hH76 := Hs.cong9 (B := [(L, some LB)]) (hH75.wr9 hWr) (by rw [hLB]; rfl)
          have hH77 := ((hH76.top1).top1)
          have hH78 := Po.back0 hpk (by rw [hpm]; exact hH77)
          have hH79 := ((hH78.top2).top2)
          have hH80 := En.back0 hxj hH79
          have hH81 := ((((((((((((hH80.top1).top11).top11).top11).top11).top11).top6).top11).top11).top11).top11).top11)
          have hex := exStep_no (mp := mp) (now := now) (s := (pl1, nn)) hpk (fun h9 => by rw [hgv] at h9; cases h9.1)
          exact ⟨_, rfl, fun _ => ⟨pl1, nn, by rw [ex_foldl hxj, hq0, hex], hq1, Nat.le_trans hq2 (Nat.le_succ _), hH81⟩, fun h => by cases h⟩
        ·
          have hgv : p.gv = false := by simpa using hgv
          by_cases hov : overE now x.e p = true
          ·
            refine C_draw fun b82 H83 hbase84 hA85 => ?_
            have hH86 := hH68.keep (by have := hA85.1; omega) (fun q _ => hA85.2 q) ((hH68.old).aside hA85).ok
            refine D_l (v := (pT x.n 0)) rfl rfl rfl (r_mv rfl) (D_l (v := (pT x.n 0)) rfl rfl rfl (r_nilc rfl) (D_l (v := (pT x.n 12)) rfl rfl rfl (r_fadd' rfl rfl) (D_r (v := (.m (some n12))) rfl rfl rfl (r_ld rfl hH86.get10 rfl) (D_r (v := (pT x.m 0)) rfl rfl rfl (r_ld rfl hH86.get0 rfl) (D_r (v := (.b true)) rfl rfl rfl (by exact ((r_pget hH86.get11 hmpM rfl rfl (apart_full hpx (fun k hk => po_ms hq1 (hmpA k hk)) hH86.top12)).trans (by rw [decide_eq_true hmem]))) (D_l (v := (.b true)) rfl rfl rfl (r_mv rfl) (D_gk rfl (D_l (v := (pT x.n 0)) rfl rfl rfl (r_mv rfl) (D_gk rfl (D_l (v := (pT x.n 0)) rfl rfl rfl (r_nilc rfl) (D_gk rfl (D_l (v := (pT x.n 12)) rfl rfl rfl (r_fadd' rfl rfl) (D_gk rfl ?_)))))))))))))
            refine D_r (v := (pT x.m 0)) rfl rfl rfl (r_ld rfl hH86.get0 rfl) (D_gk rfl (D_l (v := (pT x.m 0)) rfl rfl rfl (r_nilc rfl) ?_))
            have hH87 := (hH86.top12)
            have hH88 := Po.out hpk hH87
            rw [hpm] at hH88
            refine D_gk rfl (D_l (v := (pT x.m 2)) rfl rfl rfl (r_fadd' rfl rfl) (D_gk rfl (D_r (v := (.b false)) rfl rfl rfl (by exact (((r_ld rfl hH88.get0 rfl)).trans (by rw [hgv]))) (D_gk rfl (D_l (v := (.b true)) rfl rfl rfl (r_un rfl rfl) (D_l (v := (.b true)) rfl rfl rfl (r_pick_t rfl rfl) (D_l (v := (.b true)) rfl rfl rfl (r_mv rfl) (D_gk rfl (D_l (v := (pT x.n 0)) rfl rfl rfl (r_mv rfl) (D_gk rfl (D_r (v := (.i .i64 now)) rfl rfl rfl (r_ld rfl hH88.get10 rfl) (D_gk rfl ?_))))))))))))
            have hH89 := (hH88.top2)
            have hH90 := ((hH89.top1).top1)
            refine D_call (Ev.mono (over_ev hH90) fun v91 H92 hq93 => ?_)
            rw [hov] at hq93
            obtain ⟨rfl, hH94⟩ := hq93
            refine And.intro (And.intro (Or.inl rfl) (And.intro (Or.inl rfl) (And.intro (Or.inl rfl) (And.intro (Or.inl rfl) (And.intro (Or.inl rfl) (And.intro (Or.inl rfl) True.intro)))))) (D_l (v := (.b true)) rfl rfl rfl (r_pick_t rfl rfl) (D_nil  ?_))
            refine C_cond (x := true) rfl (fun _ => ?_) (fun h => by cases h)
            refine C_seq  (C_region  (pv (pT x.n 0) rfl (O_p (pT x.n 0) (r_nilc rfl) (pf (pT x.n 12) rfl rfl (O_p (pT x.m 0) (r_ld rfl hH94.get0 rfl) (O_p (pT x.m 0) (r_nilc rfl) (pf (pT x.m 2) rfl rfl ?_)))))))
            refine O_store (vs := [(.b true)]) (c' := [(.i .i64 p.un), (.i .i64 p.tr), (.b true)]) rfl (by rfl) hH94.get1 rfl (List.cons_ne_nil _ _) (Nat.le_of_ble_eq_true rfl) rfl fun H95 hW96 => ?_
            have hH97 := hH94.wr1 hW96
            refine O_nil  (C_region  (O_p (nI nn) (r_ld rfl hH97.get11 rfl) (O_p (.i .i64 ((((nn : Nat)) : Int) + 1)) (by exact (r_addi rfl rfl (wrap_i64 (by omega) (by omega)))) ?_)))
            refine O_store (vs := [(.i .i64 ((((nn : Nat)) : Int) + 1))]) (c' := [(.i .i64 ((((nn : Nat)) : Int) + 1))]) rfl (by rfl) hH97.get11 rfl (List.cons_ne_nil _ _) (Nat.le_of_ble_eq_true rfl) rfl fun H98 hW99 => ?_
            have hH100 := hH97.wr11 hW99
            refine O_nil  ?_
            refine ⟨_, _, _, _, _, (hH100.get9), fun H4 hWr => ?_⟩
            have hH101 := Hs.cong9 (B := [(L, some LB)]) (hH100.wr9 hWr) (by rw [hLB]; rfl)
            have hH102 := ((hH101.top2).top2)
            have hH103 := Po.back (p2 := ⟨p.m, p.un, p.tr, true⟩) hpk (by rw [hpm]; exact hH102)
            have hH104 := ((hH103.top2).top2)
            have hH105 := En.back0 hxj hH104
            have hH106 := ((((((((((((hH105.top1).top11).top11).top11).top11).top11).top6).top11).top11).top11).top11).top11)
            have hex := exStep_yes (mp := mp) (now := now) (s := (pl1, nn)) hst1 hmem hpk hgv hov
            exact ⟨_, rfl, fun _ => ⟨(pl1.set (pl1.findIdx (pmP x.m)) ⟨p.m, p.un, p.tr, true⟩), nn + 1, by rw [ex_foldl hxj, hq0, hex], (set_ms (p2 := ⟨p.m, p.un, p.tr, true⟩) hpk rfl).trans hq1, Nat.succ_le_succ hq2, hH106⟩, fun h => by cases h⟩
          ·
            have hov : overE now x.e p = false := by simpa using hov
            refine C_draw fun b107 H108 hbase109 hA110 => ?_
            have hH111 := hH68.keep (by have := hA110.1; omega) (fun q _ => hA110.2 q) ((hH68.old).aside hA110).ok
            refine D_l (v := (pT x.n 0)) rfl rfl rfl (r_mv rfl) (D_l (v := (pT x.n 0)) rfl rfl rfl (r_nilc rfl) (D_l (v := (pT x.n 12)) rfl rfl rfl (r_fadd' rfl rfl) (D_r (v := (.m (some n12))) rfl rfl rfl (r_ld rfl hH111.get10 rfl) (D_r (v := (pT x.m 0)) rfl rfl rfl (r_ld rfl hH111.get0 rfl) (D_r (v := (.b true)) rfl rfl rfl (by exact ((r_pget hH111.get11 hmpM rfl rfl (apart_full hpx (fun k hk => po_ms hq1 (hmpA k hk)) hH111.top12)).trans (by rw [decide_eq_true hmem]))) (D_l (v := (.b true)) rfl rfl rfl (r_mv rfl) (D_gk rfl (D_l (v := (pT x.n 0)) rfl rfl rfl (r_mv rfl) (D_gk rfl (D_l (v := (pT x.n 0)) rfl rfl rfl (r_nilc rfl) (D_gk rfl (D_l (v := (pT x.n 12)) rfl rfl rfl (r_fadd' rfl rfl) (D_gk rfl ?_)))))))))))))
            refine D_r (v := (pT x.m 0)) rfl rfl rfl (r_ld rfl hH111.get0 rfl) (D_gk rfl (D_l (v := (pT x.m 0)) rfl rfl rfl (r_nilc rfl) ?_))
            have hH112 := (hH111.top12)
            have hH113 := Po.out hpk hH112
            rw [hpm] at hH113
            refine D_gk rfl (D_l (v := (pT x.m 2)) rfl rfl rfl (r_fadd' rfl rfl) (D_gk rfl (D_r (v := (.b false)) rfl rfl rfl (by exact (((r_ld rfl hH113.get0 rfl)).trans (by rw [hgv]))) (D_gk rfl (D_l (v := (.b true)) rfl rfl rfl (r_un rfl rfl) (D_l (v := (.b true)) rfl rfl rfl (r_pick_t rfl rfl) (D_l (v := (.b true)) rfl rfl rfl (r_mv rfl) (D_gk rfl (D_l (v := (pT x.n 0)) rfl rfl rfl (r_mv rfl) (D_gk rfl (D_r (v := (.i .i64 now)) rfl rfl rfl (r_ld rfl hH113.get10 rfl) (D_gk rfl ?_))))))))))))
            have hH114 := (hH113.top2)
            have hH115 := ((hH114.top1).top1)
            refine D_call (Ev.mono (over_ev hH115) fun v116 H117 hq118 => ?_)
            rw [hov] at hq118
            obtain ⟨rfl, hH119⟩ := hq118
            refine And.intro (And.intro (Or.inl rfl) (And.intro (Or.inl rfl) (And.intro (Or.inl rfl) (And.intro (Or.inl rfl) (And.intro (Or.inl rfl) (And.intro (Or.inl rfl) True.intro)))))) (D_l (v := (.b false)) rfl rfl rfl (r_pick_t rfl rfl) (D_nil  ?_))
            refine C_cond (x := false) rfl (fun h => by cases h) (fun _ => ?_)
            refine C_skip  ?_
            refine ⟨_, _, _, _, _, (hH119.get9), fun H4 hWr => ?_⟩
            have hH120 := Hs.cong9 (B := [(L, some LB)]) (hH119.wr9 hWr) (by rw [hLB]; rfl)
            have hH121 := ((hH120.top2).top2)
            have hH122 := Po.back0 hpk (by rw [hpm]; exact hH121)
            have hH123 := ((hH122.top2).top2)
            have hH124 := En.back0 hxj hH123
            have hH125 := ((((((((((((hH124.top1).top11).top11).top11).top11).top11).top6).top11).top11).top11).top11).top11)
            have hex := exStep_no (mp := mp) (now := now) (s := (pl1, nn)) hpk (fun h9 => by rw [hov] at h9; cases h9.2)
            exact ⟨_, rfl, fun _ => ⟨pl1, nn, by rw [ex_foldl hxj, hq0, hex], hq1, Nat.le_trans hq2 (Nat.le_succ _), hH125⟩, fun h => by cases h⟩
      ·
        refine C_draw fun b126 H127 hbase128 hA129 => ?_
        have hH130 := hH68.keep (by have := hA129.1; omega) (fun q _ => hA129.2 q) ((hH68.old).aside hA129).ok
        refine D_l (v := (pT x.n 0)) rfl rfl rfl (r_mv rfl) (D_l (v := (pT x.n 0)) rfl rfl rfl (r_nilc rfl) (D_l (v := (pT x.n 12)) rfl rfl rfl (r_fadd' rfl rfl) (D_r (v := (.m (some n12))) rfl rfl rfl (r_ld rfl hH130.get10 rfl) (D_r (v := (pT x.m 0)) rfl rfl rfl (r_ld rfl hH130.get0 rfl) (D_r (v := (.b false)) rfl rfl rfl (by exact ((r_pget hH130.get11 hmpM rfl rfl (apart_full hpx (fun k hk => po_ms hq1 (hmpA k hk)) hH130.top12)).trans (by rw [decide_eq_false hmem]))) (D_l (v := (.b false)) rfl rfl rfl (r_mv rfl) (D_gf rfl (D_gf rfl (D_gf rfl (D_gf rfl (D_gf rfl ?_)))))))))))
        have hH131 := (hH130.top12)
        have hH132 := Po.out hpk hH131
        rw [hpm] at hH132
        refine D_gf rfl (D_gf rfl (D_gf rfl (D_l (v := (.b false)) rfl rfl rfl (r_pick_f rfl rfl) (D_l (v := (.b false)) rfl rfl rfl (r_mv rfl) (D_gf rfl (D_gf rfl (D_gf rfl (D_l (v := (.b false)) rfl rfl rfl (r_pick_f rfl rfl) (D_nil  ?_)))))))))
        refine C_cond (x := false) rfl (fun h => by cases h) (fun _ => ?_)
        refine C_skip  ?_
        refine ⟨_, _, _, _, _, (hH132.get9), fun H4 hWr => ?_⟩
        have hH133 := Hs.cong9 (B := [(L, some LB)]) (hH132.wr9 hWr) (by rw [hLB]; rfl)
        have hH134 := ((hH133.top1).top1)
        have hH135 := Po.back0 hpk (by rw [hpm]; exact hH134)
        have hH136 := ((hH135.top2).top2)
        have hH137 := En.back0 hxj hH136
        have hH138 := ((((((((((((hH137.top1).top11).top11).top11).top11).top11).top6).top11).top11).top11).top11).top11)
        have hex := exStep_mem (now := now) (s := (pl1, nn)) hmem
        exact ⟨_, rfl, fun _ => ⟨pl1, nn, by rw [ex_foldl hxj, hq0, hex], hq1, Nat.le_trans hq2 (Nat.le_succ _), hH138⟩, fun h => by cases h⟩
    rcases hE with hE | hE
    ·
      obtain ⟨pl1, nn, hq0, hq1, hq2, hHE⟩ := hE
      refine ⟨.ready, none, _, _, _, _, (hHE.get6).trans (congrArg some hLB), by decide, fun HD hD => ?_⟩
      have hH139 := hHE.drp6 hD
      rw [List.take_of_length_le (Nat.le_refl _)] at hq0
      have hfo := hq0
      have hms := hq1
      obtain ⟨pl2, hpl2⟩ : ∃ z, z = pl1 := ⟨_, rfl⟩
      obtain ⟨n2, hn2⟩ : ∃ z, z = nn := ⟨_, rfl⟩
      rw [← hpl2, ← hn2] at hH139
      rw [← hpl2, ← hn2] at hfo
      rw [← hpl2] at hms
      refine C_seq  (C_seq  (C_region  (pv (pT F 0) rfl ?_)))
      refine O_bslice (c := [(.i .i64 0), (.i .i64 1), (.i .i64 2), (.i .i64 3)]) rfl fun n140 H141 hN142 => ?_
      have hH143 := hH139.new hN142
      refine O_call (Ev.mono (in_ev (F := F) (sb := n140) (ss := [0, 1, 2, 3]) hH143) fun v144 H145 hq146 => ?_)
      obtain ⟨b147, b148, rfl, hH149⟩ := hq146
      refine O_nil  (C_block  ?_)
      refine C_rangeFn (g := 59) (first := []) (cap := [.p (some (b147, 0)), .p (some (b148, 0))]) rfl fun Tx L HLL hTx hNL0 => ?_
      obtain ⟨LB, hLB, hNL⟩ := hNL0.loop
      have hH150 := hH149.new hNL
      have hH151 := (((hH150.sub4).sub4).sub4)
      have hH152 := ((((((((((((hH151.top11).top11).top11).top11).top11).top5).top11).top11).top11).top11).top11).top11)
      refine Ev.mono (in1_ev (F := F) (sb := n140) (nx := nx) (ss := [0, 1, 2, 3]) (q0 := q) hlv hql (by decide) (fun j HH => ∃ (q1 : List En), (q1.map En.nm = q.map En.nm) ∧ (q1 = (q.take j).map (exN pl2) ++ q.drop j) ∧ (∀ x ∈ q1, OctIn D x.dv x.e.c.d) ∧ Hs HH ([(b147, some (.cells ([(.p (some (F, 0)))]) true))] ++ ([(b148, some (.cells ([(.sl (some (n140, 0)) [0, 1, 2, 3].length [0, 1, 2, 3].length 0)]) true))] ++ ([(n140, some (.cells ([0, 1, 2, 3].map fun z => AV.i IntKind.i64 z) true))] ++ ([(F, some (.cells ([lv, (.i .u32 nx)]) true))] ++ ((qseg lv lc) ++ ((q1.flatMap En.seg) ++ ([(L, some LB)] ++ ([(n1, some (.cells ([(.i .i64 now)]) true))] ++ ([(n5, some (.cells ([(.i .i64 (((n2 : Nat)) : Int))]) true))] ++ ([(n16, some (.cells ([(.m (some n12))]) true))] ++ ([(n12, some bm)] ++ ((pl2.flatMap Po.seg) ++ (R)))))))))))))) (fun HH => False) ?_ ?_ ?_ ?_ ?_) fun v2 HE hE => ?_
      · exact ⟨q, rfl, by rw [List.take_zero]; rfl, hok, hH152⟩
      · rintro j H1 ⟨q1, hq0, hq1, hq2, hh⟩
        exact ⟨q1, _, hq0, (ex_same hq1), hh⟩
      · rintro j H1 H2 hn hk2 hok ⟨q1, hq0, hq1, hq2, hh⟩
        exact ⟨q1, hq0, hq1, hq2, hh.keep hn hk2 hok⟩
      · rintro j H1 e0 h0j hst ⟨q1, hq0, hq1, hq2, hh⟩
        refine ⟨q1, hq0, ex_skip hq1 h0j (by unfold exN; rw [if_neg (fun h9 => hst h9.1)]), hq2, hh⟩
      ·
        rintro j HH e0 h0j hst ⟨q1, hq0, hq1, hq2, hHb⟩
        have hjl : j < q.length := (List.getElem?_eq_some_iff.1 h0j).1
        obtain ⟨x, hxj, hxn, hxe⟩ := en_same (q := q1) hq0 ((ex_same hq1) j (Nat.le_refl _)) h0j
        rw [← hxn]
        refine Ev_yield ((hHb.get6).trans (congrArg some hLB)) rfl ?_
        refine C.te ?_ (hTx.cons 56 _)
        have hx0 : x = e0 := by have h9 := ex_get hq1 h0j; rw [hxj] at h9; exact Option.some.inj h9
        have h0x := h0j
        rw [← hx0] at h0x
        have hpx := po_ms hms (hpo x (List.mem_of_getElem? h0x))
        obtain ⟨p, hpk, hpm⟩ := po_at hpx
        have hst1 : x.e.st ∈ [0, 1, 2, 3] := by rw [hxe]; exact hst
        have hgo : gvOf pl2 x.m = p.gv := by unfold gvOf; rw [hpk]
        have hH153 := (hHb.top5)
        have hH154 := En.out hxj hH153
        have hH155 := (hH154.top12)
        have hH156 := Po.out hpk hH155
        rw [hpm] at hH156
        refine C_region  (pv (pT x.n 0) rfl (O_nil  ?_))
        refine ⟨rfl, _, _, _, _, _, (hH156.get9).trans (congrArg some hLB), fun H2 hWb => ?_⟩
        have hH157 := hH156.wr9 hWb
        refine C_block  (C_seq  (C_region  (pv (pT x.n 0) rfl (O_p (pT x.n 0) (r_nilc rfl) (pf (pT x.n 12) rfl rfl (O_p (pT x.m 0) (r_ld rfl hH157.get2 rfl) (O_p (pT x.m 0) (r_nilc rfl) (pf (pT x.m 2) rfl rfl (O_p (.b p.gv) (r_ld rfl hH157.get0 rfl) (O_nil  ?_))))))))))
        refine C_cond (x := p.gv) rfl (fun hc158 => ?_) (fun hc158 => ?_)
        ·
          try simp only [dz1, dz2, dz3, dz4, dz5, dz6, dz7, dz8, dz9] at hc158
          have hg3 : p.gv = true := by simpa using hc158
          refine C_region  (pv (pT x.n 0) rfl (O_p (pT x.n 0) (r_nilc rfl) (pf (pT x.n 13) rfl rfl ?_)))
          refine O_store (vs := [(.i .i64 4)]) (c' := [(.i .u8 x.e.c.k), (.i .u8 x.e.c.f), (.i .u32 x.e.a), (.i .u32 x.e.c.b), (.i .u16 x.e.c.o), (.i .u16 x.e.c.i), (.i .u32 x.e.c.p), x.e.c.x1, x.e.c.x2, x.e.c.x3, x.e.c.x4, x.dv, (.p (some (x.m, 0))), (.i .i64 4), (.i .i64 x.e.sent), (.i .i64 x.e.tm), (.i .i64 x.e.mi)]) rfl (by rfl) hH157.get2 rfl (List.cons_ne_nil _ _) (Nat.le_of_ble_eq_true rfl) rfl fun H159 hW160 => ?_
          have hH161 := hH157.wr2 hW160
          refine O_nil  ?_
          refine ⟨_, _, _, _, _, (hH161.get9), fun H4 hWr => ?_⟩
          have hH162 := Hs.cong9 (B := [(L, some LB)]) (hH161.wr9 hWr) (by rw [hLB]; rfl)
          have hH163 := ((hH162.top1).top1)
          have hH164 := Po.back0 hpk (by rw [hpm]; exact hH163)
          have hH165 := ((hH164.top2).top2)
          have hH166 := En.back (y := (⟨x.e.setSt 4, x.n, x.m, x.dv⟩ : En)) hxj hH165
          have hH167 := ((((((((((((hH166.top1).top11).top11).top11).top11).top11).top6).top11).top11).top11).top11).top11)
          exact ⟨_, rfl, fun _ => ⟨q1.set j (⟨x.e.setSt 4, x.n, x.m, x.dv⟩ : En), set_names hxj rfl hq0, ex_set hq1 h0x (by unfold exN; rw [if_pos ⟨hst1, by rw [hgo]; exact hg3⟩]), set_all hq2 (hq2 x (List.mem_of_getElem? hxj)), hH167⟩, fun h => by cases h⟩
        ·
          try simp only [dz1, dz2, dz3, dz4, dz5, dz6, dz7, dz8, dz9] at hc158
          have hg3 : p.gv = false := by simpa using hc158
          refine C_skip  ?_
          refine ⟨_, _, _, _, _, (hH157.get9), fun H4 hWr => ?_⟩
          have hH168 := Hs.cong9 (B := [(L, some LB)]) (hH157.wr9 hWr) (by rw [hLB]; rfl)
          have hH169 := ((hH168.top1).top1)
          have hH170 := Po.back0 hpk (by rw [hpm]; exact hH169)
          have hH171 := ((hH170.top2).top2)
          have hH172 := En.back (y := x) hxj hH171
          have hH173 := ((((((((((((hH172.top1).top11).top11).top11).top11).top11).top6).top11).top11).top11).top11).top11)
          exact ⟨_, rfl, fun _ => ⟨q1.set j x, set_names hxj rfl hq0, ex_set hq1 h0x (by unfold exN; rw [if_neg (fun h9 => by rw [hgo, hg3] at h9; cases h9.2)]), set_all hq2 (hq2 x (List.mem_of_getElem? hxj)), hH173⟩, fun h => by cases h⟩
      rcases hE with hE | hE
      ·
        obtain ⟨q1, hq0, hq1, hq2, hHE⟩ := hE
        refine ⟨.ready, none, _, _, _, _, (hHE.get6).trans (congrArg some hLB), by decide, fun HD hD => ?_⟩
        have hH174 := hHE.drp6 hD
        rw [List.take_of_length_le (Nat.le_refl _), List.drop_length, List.append_nil] at hq1
        refine C_seq  (C_region  (O_p (nI n2) (r_ld rfl hH174.get7 rfl) (pv (nI n2) rfl (O_nil  (C_ret  ?_)))))
        have hH175 := (((((((hH174.sub0).sub0).sub0).sub3).sub3).sub3).sub3)
        have hH176 := ((((hH175.top3).top3).top3).top3)
        exact ⟨.inr rfl, _, resL_one (r_tmp (v := (.i .i64 (((n2 : Nat)) : Int))) rfl), mp, pl2, n2, q1, rfl, fun k => (hmpI k).trans ⟨fun ⟨i, x, _, h2⟩ => ⟨i, x, h2⟩, fun ⟨i, x, h2⟩ => ⟨i, x, (List.getElem?_eq_some_iff.1 h2.1).1, h2⟩⟩, hfo, hms, hq1, hq0, hq2, hH176⟩
      · exact hE.elim
    · exact hE.elim
  · exact hE.elim
end Go.Proofs.Ytipcacpaadgagaa.E
