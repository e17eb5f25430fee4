/- Queues of chunks: what is pushed. It bears no condition. -/
import Derived.Test.YtipcacpaadgagaaT
namespace Go.Proofs.Ytipcacpaadgagaa.E
set_option linter.unusedVariables false
set_option linter.unusedSimpArgs false
theorem w32_succ (a : Int) (j : Nat) : w32 (w32 (a + ((j : Nat) : Int)) + 1) = w32 (a + ((j + 1 : Nat) : Int)) := by
  simp only [w32, wrap_u32]; omega
theorem w32_id {a : Int} (h : 0 ≤ a ∧ a < 4294967296) : w32 (a + ((0 : Nat) : Int)) = a := by
  simp only [w32, wrap_u32]; omega
theorem En.app {H : AH} {R : HL} {q : List En} {y : En} (hH : Hs H (q.flatMap En.seg ++ ([(y.n, some (.cells (enRow y) true))] ++ R))) : Hs H ((q ++ [y]).flatMap En.seg ++ R) := by
  rw [List.flatMap_append, List.append_assoc]
  exact hH
theorem pr_app {q : List En} {y : En} : (q.map En.pr).flatten ++ [AV.p (some (y.n, 0))] = ((q ++ [y]).map En.pr).flatten := by
  rw [List.map_append]; exact flat_snoc _ _
theorem push_at {cs : List (Cx × Int)} {j : Nat} {x : Cx × Int} {nx : Int} (h : cs[j]? = some x) : pushA (cs.take (j + 1)) nx = pushA (cs.take j) nx ++ [⟨x.1, w32 (nx + ((j : Nat) : Int)), 0, 0, 0, 0⟩] := by
  have hj := (List.getElem?_eq_some_iff.1 h).1
  rw [take_at h, pushA_snoc, List.length_take, Nat.min_eq_left (Nat.le_of_lt hj)]
set_option maxHeartbeats 2000000 in
theorem push_raw {H : AH} {R D B : HL} {F : Nat} {lv v : AV} {lc : List AV} {nx un tr : Int} {q : List En} {rows : List (List AV)} {cs : List (Cx × Int)} (hv : ∀ H', Hs H' B → Rw 12 H' v rows) (hcr : CxsR B rows cs) (hgood : ∀ c ∈ cs, c.1.k = 0 ∧ 0 < c.1.d.length) (hne : 0 < cs.length) (hfit : q.length + cs.length ≤ 1024) (hsz : ∀ c ∈ cs, c.1.d.length ≤ 1000000) (hnx : 0 ≤ nx ∧ nx < 4294967296) (hlv : Sq 1 lv lc (q.map En.pr).flatten) (hok : ∀ x ∈ q, OctIn D x.dv x.e.c.d) (hH0 : Hs H ([(F, some (.cells ([lv, (.i .u32 nx)]) true))] ++ ((qseg lv lc) ++ ((q.flatMap En.seg) ++ (D ++ (B ++ (R))))))) : Ev tabA spA (.fn (.func 12) [] []) [.p (some (F, 0)), v, .i .i64 un, .i .i64 tr] H (fun r H' => ∃ (q' : List En) (lv' : AV) (lc' : List AV) (m : Nat) (D' : HL), r = .i .i64 0 ∧ q'.map En.e = q.map En.e ++ pushA cs nx ∧ Sq 1 lv' lc' (q'.map En.pr).flatten ∧ (∀ x ∈ q', OctIn D' x.dv x.e.c.d) ∧ (∀ H', Hs H' D' → Hs H' D) ∧ Hs H' ([(F, some (.cells [lv', .i .u32 (w32 (nx + ((cs.length : Nat) : Int)))] true))] ++ (qseg lv' lc' ++ (q'.flatMap En.seg ++ ([(m, some (.cells [.i .i64 un, .i .i64 tr, .b false] true))] ++ (D' ++ (B ++ R))))))) := by
  refine Ev_C (F := x12) rfl ?_
  refine C_seq ?_
  refine C_region ?_
  refine O_p (.i .i64 0) (r_mv rfl) ?_
  refine O_nil ?_
  refine C_seq ?_
  refine C_block ?_
  refine C_seq ?_
  refine C_region ?_
  refine O_p (.p (some (F, 0))) (r_mv rfl) ?_
  refine O_p (.b false) (r_nilq_s rfl) ?_
  refine O_p (.b false) (r_mv rfl) ?_
  refine O_gk rfl ?_
  refine O_p v (r_mv rfl) ?_
  refine O_gk rfl ?_
  refine O_p (.i .i64 (((cs.length : Nat)) : Int)) (r_lenOf (v := v) (n := cs.length) rfl ((hv _ hH0.top4.fst).lenOf hcr.1) (hv _ hH0.top4.fst).isSl) ?_
  refine O_gk rfl ?_
  refine O_p (.b false) (by exact (by rw [r_eql rfl rfl, decide_eq_false (by omega)])) ?_
  refine O_p (.b false) (r_pick_f rfl rfl) ?_
  refine O_p (.b false) (r_mv rfl) ?_
  refine O_gk rfl ?_
  refine O_p v (r_mv rfl) ?_
  refine O_gk rfl ?_
  have hH1 := (hH0.top4)
  refine O_call (Ev.mono (cont_ev hv hcr hgood (by omega) hH1) fun v2 H3 hq4 => ?_)
  obtain ⟨rfl, hH5⟩ := hq4
  refine O_p (.b false) (r_pick_f rfl rfl) ?_
  refine O_p (.b false) (r_mv rfl) ?_
  refine O_nil ?_
  refine C_cond (x := false) rfl (fun h => by cases h) (fun _ => ?_)
  refine C_seq ?_
  refine C_region ?_
  refine O_p (.p (some (F, 0))) (r_mv rfl) ?_
  refine O_p (.p (some (F, 0))) (r_nilc rfl) ?_
  refine O_p (.p (some (F, 0))) (r_fadd' rfl rfl) ?_
  refine O_p lv (r_ld rfl hH5.get1 rfl) ?_
  refine O_p (.i .i64 (((q.length : Nat)) : Int)) (by exact (by exact r_lenOf rfl (hlv.lenOf ((flat_len (pr_lens q)).trans (by rw [List.length_map])) (by decide)) hlv.isSl)) ?_
  refine O_p v (r_mv rfl) ?_
  refine O_p (.i .i64 (((cs.length : Nat)) : Int)) (r_lenOf (v := v) (n := cs.length) rfl ((hv _ hH5.top0.fst).lenOf hcr.1) (hv _ hH5.top0.fst).isSl) ?_
  refine O_p (.i .i64 ((((q.length : Nat)) : Int) + (((cs.length : Nat)) : Int))) (by exact (r_addi rfl rfl (wrap_i64 (by omega) (by omega)))) ?_
  refine O_p (.b false) (by exact (by rw [r_gtr rfl rfl, decide_eq_false (by omega)])) ?_
  refine O_p (.b false) (r_mv rfl) ?_
  refine O_nil ?_
  refine C_cond (x := false) rfl (fun h => by cases h) (fun _ => ?_)
  refine C_skip ?_
  refine C_seq ?_
  refine C_region ?_
  refine O_p (.i .i64 un) (r_mv rfl) ?_
  refine O_p (.i .i64 tr) (r_mv rfl) ?_
  refine O_p (.agg [(.i .i64 un), (.i .i64 tr), (.b false)]) (r_build rfl) ?_
  refine O_box (z := [(.i .i64 un), (.i .i64 tr), (.b false)]) rfl fun n6 H7 hN8 => ?_
  have hH9 := hH5.new hN8
  refine O_p (.p (some (n6, 0))) (r_mv rfl) ?_
  refine O_nil ?_
  refine C_seq ?_
  refine C_seq ?_
  refine C_region ?_
  refine O_p v (r_mv rfl) ?_
  refine O_p (.i .i64 (((cs.length : Nat)) : Int)) (r_lenOf (v := v) (n := cs.length) rfl ((hv _ hH9.top1.fst).lenOf hcr.1) (hv _ hH9.top1.fst).isSl) ?_
  refine O_p (.i .i64 0) (r_mv rfl) ?_
  refine O_nil ?_
  refine C_block ?_
  have hH10 := ((((((hH9.top1).top5).top2).top5).top5).top5)
  refine C_while (fun m11 T12 H13 => ∃ q1 : List En, ∃ lw : AV, ∃ lwc : List AV, ∃ D1 : HL, ∃ j : Nat, m11 = cs.length - j ∧ j ≤ cs.length ∧ q1.map En.e = q.map En.e ++ pushA (cs.take j) nx ∧ Sq 1 lw lwc (q1.map En.pr).flatten ∧ (∀ x ∈ q1, OctIn D1 x.dv x.e.c.d) ∧ (∀ H', Hs H' D1 → Hs H' D) ∧ q1.length = q.length + j ∧ Hs H13 ([(F, some (.cells ([lw, (.i .u32 (w32 (nx + ((j : Nat) : Int))))]) true))] ++ ((qseg lw lwc) ++ ((q1.flatMap En.seg) ++ ([(n6, some (.cells ([(.i .i64 un), (.i .i64 tr), (.b false)]) true))] ++ (D1 ++ (B ++ (R))))))) ∧ T12.get 0 = (.p (some (F, 0))) ∧ T12.get 9 = (.p (some (n6, 0))) ∧ T12.get 38 = v ∧ T12.get 39 = (.i .i64 (((cs.length : Nat)) : Int)) ∧ T12.get 40 = (.i .i64 (((j : Nat)) : Int))) (fun m11 T12 H13 hI14 => ?_) cs.length _ _ ⟨q, lv, lc, D, 0, rfl, Nat.zero_le _, by rw [List.take_zero]; exact (List.append_nil _).symm, hlv, hok, fun _ h => h, rfl, (by rw [w32_id hnx]; exact hH10), rfl, rfl, rfl, rfl, rfl⟩
  obtain ⟨q1, lw, lwc, D1, j, hm15, hp16, hp17, hp18, hp19, hp20, hp21, hH27, hT22, hT23, hT24, hT25, hT26⟩ := hI14
  refine C_seq ?_
  refine C_region ?_
  refine O_p (.b (decide ((((j : Nat)) : Int) < (((cs.length : Nat)) : Int)))) (r_lss hT26 hT25) ?_
  refine O_nil ?_
  refine C_seq ?_
  refine C_cond (x := (decide ((((j : Nat)) : Int) < (((cs.length : Nat)) : Int)))) rfl (fun hc28 => ?_) (fun hc28 => ?_)
  ·
    try simp only [decide_eq_true_eq, decide_eq_false_iff_not, Bool.not_eq_true', Bool.not_eq_false', Bool.and_eq_true, Bool.or_eq_true, Bool.or_eq_false_iff, Bool.not_not, Bool.and_eq_false_iff] at hc28
    refine C_skip ?_
    refine C_seq ?_
    refine C_block ?_
    refine C_seq ?_
    refine C_region ?_
    have hjl : j < cs.length := by omega
    obtain ⟨x, dv, hxi, hri, hoc⟩ := hcr.get hjl
    have hgx := hgood x (List.mem_of_getElem? hxi)
    obtain ⟨da, dc, dg, de, dhg, dhc, dhm, dhb⟩ := hoc
    subst de
    unfold cxRow at hri
    have hxd := hsz x (List.mem_of_getElem? hxi)
    refine O_q (by exact Rw.row (hv _ hH27.top5.fst) (by exact hT24) (i := j) (by exact hT26) (r := [(.i .u8 x.1.k), (.i .u8 x.1.f), (.i .u32 x.2), (.i .u32 x.1.b), (.i .u16 x.1.o), (.i .u16 x.1.i), (.i .u32 x.1.p), x.1.x1, x.1.x2, x.1.x3, x.1.x4, (.sl da x.1.d.length dc dg)]) hri) fun v30 hv29 => ?_
    obtain ⟨rb31, ro32, rfl, hr33⟩ := hv29
    refine O_p (.agg [(.i .u8 x.1.k), (.i .u8 x.1.f), (.i .u32 x.2), (.i .u32 x.1.b), (.i .u16 x.1.o), (.i .u16 x.1.i), (.i .u32 x.1.p), x.1.x1, x.1.x2, x.1.x3, x.1.x4, (.sl da x.1.d.length dc dg)]) (r_ldRA (q := 0) rfl (hr33 _ (hv _ hH27.top5.fst)) rfl) ?_
    refine O_alloc fun n34 H35 hN36 => ?_
    have hH37 := hH27.new hN36
    refine O_store (vs := [(.i .u8 x.1.k), (.i .u8 x.1.f), (.i .u32 x.2), (.i .u32 x.1.b), (.i .u16 x.1.o), (.i .u16 x.1.i), (.i .u32 x.1.p), x.1.x1, x.1.x2, x.1.x3, x.1.x4, (.sl da x.1.d.length dc dg)]) (c' := [(.i .u8 x.1.k), (.i .u8 x.1.f), (.i .u32 x.2), (.i .u32 x.1.b), (.i .u16 x.1.o), (.i .u16 x.1.i), (.i .u32 x.1.p), x.1.x1, x.1.x2, x.1.x3, x.1.x4, (.sl da x.1.d.length dc dg)]) rfl (by rfl) hH37.get0 rfl (List.cons_ne_nil _ _) (Nat.le_of_ble_eq_true rfl) rfl fun H38 hW39 => ?_
    have hH40 := hH37.wr0 hW39
    refine O_nil ?_
    refine C_seq ?_
    refine C_draw fun b41 H42 hbase43 hA44 => ?_
    have hH45 := hH40.keep (by have := hA44.1; omega) (fun q _ => hA44.2 q) ((hH40.old).aside hA44).ok
    refine D_l (v := (.p (some (F, 0)))) rfl rfl rfl (r_mv hT22) ?_
    refine D_l (v := (.p (some (F, 0)))) rfl rfl rfl (r_nilc rfl) ?_
    refine D_l (v := (.p (some (F, 1)))) rfl rfl rfl (r_fadd' rfl rfl) ?_
    refine D_l (v := (.p (some (n34, 11)))) rfl rfl rfl (r_fadd' rfl rfl) ?_
    refine D_r (v := (.i .u32 (w32 (nx + ((j : Nat) : Int))))) rfl rfl rfl (r_ld rfl hH45.get1 rfl) ?_
    refine D_r (v := (.sl da x.1.d.length dc dg)) rfl rfl rfl (r_ld rfl hH45.get0 rfl) ?_
    refine D_l (v := (.p (some (n34, 2)))) rfl rfl rfl (r_fadd' rfl rfl) ?_
    refine D_call (Ev.mono (clone_ev (tab := tabA) (sp := spA) rfl hH45.ok dhg (dhb _ hH45.top6.fst) (by first | omega | (simp only [List.length_take, List.length_drop, List.length_append, List.length_cons, List.length_nil, beN_len] <;> omega)) (by first | omega | (simp only [List.length_take, List.length_drop, List.length_append, List.length_cons, List.length_nil, beN_len] <;> omega)) (by first | omega | (simp only [List.length_replicate]; omega))) fun v46 H47 hq48 => ?_)
    obtain ⟨hM49, hK50⟩ := hq48
    obtain ⟨qa51, qg52, rfl, hqg53, _⟩ := hM49.own.bs
    have hH55 := Hs.ofMine hH45 hM49 hK50
    have hSq54 := Sq.ofMine hH45 hM49 hK50
    have hH56 := (hH55.top6)
    have hH57 := Hs.unassoc hH56
    refine And.intro (And.intro (Or.inl rfl) (And.intro (Or.inr (look_run rfl rfl (r_ld rfl hH57.get2 rfl))) True.intro)) ?_
    refine D_store (vs := [(.i .u32 (w32 (nx + ((j : Nat) : Int))))]) (c' := [(.i .u8 x.1.k), (.i .u8 x.1.f), (.i .u32 (w32 (nx + ((j : Nat) : Int)))), (.i .u32 x.1.b), (.i .u16 x.1.o), (.i .u16 x.1.i), (.i .u32 x.1.p), x.1.x1, x.1.x2, x.1.x3, x.1.x4, (.sl da x.1.d.length dc dg)]) rfl (by rfl) hH57.get1 rfl (List.cons_ne_nil _ _) (Nat.le_of_ble_eq_true rfl) rfl fun H58 hW59 => ?_
    have hH60 := hH57.wr1 hW59
    refine And.intro (And.intro (Or.inl rfl) True.intro) ?_
    refine D_l (v := (.p (some (n34, 11)))) rfl rfl rfl (r_fadd' rfl rfl) ?_
    refine D_store (vs := [(.sl qa51 (x.1.d).length (x.1.d).length qg52)]) (c' := [(.i .u8 x.1.k), (.i .u8 x.1.f), (.i .u32 (w32 (nx + ((j : Nat) : Int)))), (.i .u32 x.1.b), (.i .u16 x.1.o), (.i .u16 x.1.i), (.i .u32 x.1.p), x.1.x1, x.1.x2, x.1.x3, x.1.x4, (.sl qa51 (x.1.d).length (x.1.d).length qg52)]) rfl (by rfl) hH60.get1 rfl (List.cons_ne_nil _ _) (Nat.le_of_ble_eq_true rfl) rfl fun H61 hW62 => ?_
    have hH63 := hH60.wr1 hW62
    refine And.intro True.intro ?_
    refine D_nil ?_
    refine C_seq ?_
    refine C_region ?_
    refine O_p (.p (some (F, 0))) (r_mv hT22) ?_
    refine O_p (.p (some (F, 0))) (r_nilc rfl) ?_
    refine O_p (.p (some (F, 1))) (r_fadd' rfl rfl) ?_
    refine O_p (.i .u32 (w32 (nx + ((j : Nat) : Int)))) (r_ld rfl hH63.get2 rfl) ?_
    refine O_p (.i .u32 (IntKind.u32.wrap ((w32 (nx + ((j : Nat) : Int))) + 1))) (r_bin rfl rfl rfl) ?_
    refine O_p (.p (some (F, 0))) (r_nilc rfl) ?_
    refine O_p (.p (some (F, 1))) (r_fadd' rfl rfl) ?_
    refine O_store (vs := [(.i .u32 (IntKind.u32.wrap ((w32 (nx + ((j : Nat) : Int))) + 1)))]) (c' := [lw, (.i .u32 (IntKind.u32.wrap ((w32 (nx + ((j : Nat) : Int))) + 1)))]) rfl (by rfl) hH63.get2 rfl (List.cons_ne_nil _ _) (Nat.le_of_ble_eq_true rfl) rfl fun H64 hW65 => ?_
    have hH66 := hH63.wr2 hW65
    refine O_nil ?_
    refine C_draw fun b67 H68 hbase69 hA70 => ?_
    have hH71 : Hs H68 (asideL b67 [8, 9] ++ _) := hH66.aside hA70 [8, 9] hbase69 rfl (by decide)
    have hH72 : Hs H68 ([(b67 + 8, none)] ++ ([(b67 + 9, none)] ++ _)) := hH71
    refine D_l (v := (.p (some (F, 0)))) rfl rfl rfl (r_mv hT22) ?_
    refine D_l (v := (.p (some (F, 0)))) rfl rfl rfl (r_mv hT22) ?_
    refine D_l (v := (.p (some (F, 0)))) rfl rfl rfl (r_nilc rfl) ?_
    refine D_l (v := (.p (some (F, 0)))) rfl rfl rfl (r_fadd' rfl rfl) ?_
    refine D_l (v := (.p (some (n6, 0)))) rfl rfl rfl (r_mv hT23) ?_
    refine D_r (v := lw) rfl rfl rfl (r_ld rfl hH72.get4 rfl) ?_
    refine D_r (v := (.agg [(.i .u8 x.1.k), (.i .u8 x.1.f), (.i .u32 (w32 (nx + ((j : Nat) : Int)))), (.i .u32 x.1.b), (.i .u16 x.1.o), (.i .u16 x.1.i), (.i .u32 x.1.p), x.1.x1, x.1.x2, x.1.x3, x.1.x4, (.sl qa51 (x.1.d).length (x.1.d).length qg52)])) rfl rfl rfl (r_ldA rfl hH72.get3 rfl) ?_
    refine D_l (v := (.agg [(.i .u8 x.1.k), (.i .u8 x.1.f), (.i .u32 (w32 (nx + ((j : Nat) : Int)))), (.i .u32 x.1.b), (.i .u16 x.1.o), (.i .u16 x.1.i), (.i .u32 x.1.p), x.1.x1, x.1.x2, x.1.x3, x.1.x4, (.sl qa51 (x.1.d).length (x.1.d).length qg52), (.p (some (n6, 0))), (.i .i64 0), (.i .i64 0), (.i .i64 0), (.i .i64 0)])) rfl rfl rfl (r_build rfl) ?_
    refine D_m (f := fun n => ((.p (some (n, 0))), .cells [(.i .u8 x.1.k), (.i .u8 x.1.f), (.i .u32 (w32 (nx + ((j : Nat) : Int)))), (.i .u32 x.1.b), (.i .u16 x.1.o), (.i .u16 x.1.i), (.i .u32 x.1.p), x.1.x1, x.1.x2, x.1.x3, x.1.x4, (.sl qa51 (x.1.d).length (x.1.d).length qg52), (.p (some (n6, 0))), (.i .i64 0), (.i .i64 0), (.i .i64 0), (.i .i64 0)] true)) rfl rfl fun H74 hW75 => ?_
    have hH77 := hH72.wr0 hW75
    generalize hn76 : b67 + 8 = n73 at hW75 hH77 ⊢
    refine And.intro (And.intro (Or.inl rfl) (And.intro (Or.inr (look_run rfl rfl (r_ld rfl hH77.get4 rfl))) True.intro)) ?_
    refine D_m (f := fun n => ((.sl (some (n, 0)) 1 1 0), .cells [(.p (some (n73, 0)))] true)) rfl rfl fun H79 hW80 => ?_
    have hH82 := hH77.wr1 hW80
    generalize hn81 : b67 + 9 = n78 at hW80 hH82 ⊢
    refine And.intro (And.intro (Or.inr (look_run rfl rfl (r_ld rfl hH82.get4 rfl))) True.intro) ?_
    refine D_qh rfl rfl (by exact r_appq (n := q1.length) (k := 1) (new := [(.p (some (n73, 0)))]) hH82.top5 hp18 rfl rfl rfl (src_blk hH82.get1 (by rfl)) rfl (by decide) (by decide) ((flat_len (pr_lens q1)).trans (by rw [List.length_map])) (by first | omega | (simp only [List.length_take, List.length_drop, List.length_append, List.length_cons, List.length_nil, beN_len] <;> omega))) fun o83 H84 hA86 => ?_
    obtain ⟨c85, hA86, hH87⟩ := hA86
    refine And.intro (And.intro (Or.inl rfl) True.intro) ?_
    obtain ⟨qa88, ql89, qc90, qg91, rfl⟩ := hA86.isSl
    refine D_l (v := (.p (some (F, 0)))) rfl rfl rfl (r_nilc rfl) ?_
    refine D_l (v := (.p (some (F, 0)))) rfl rfl rfl (r_fadd' rfl rfl) ?_
    refine D_store (vs := [(.sl qa88 ql89 qc90 qg91)]) (c' := [(.sl qa88 ql89 qc90 qg91), (.i .u32 (IntKind.u32.wrap ((w32 (nx + ((j : Nat) : Int))) + 1)))]) rfl (by rfl) hH87.get5 rfl (List.cons_ne_nil _ _) (Nat.le_of_ble_eq_true rfl) rfl fun H92 hW93 => ?_
    have hH94 := hH87.wr5 hW93
    refine And.intro True.intro ?_
    refine D_nil ?_
    refine C_region ?_
    refine O_p (.i .i64 ((((j : Nat)) : Int) + 1)) (by exact (r_addi hT26 rfl (wrap_i64 (by omega) (by omega)))) ?_
    refine O_p (.i .i64 ((((j : Nat)) : Int) + 1)) (r_mv rfl) ?_
    refine O_nil ?_
    have hH95 := ((hH94.top1).top6)
    have hH96 := En.app (y := (⟨⟨x.1, w32 (nx + ((j : Nat) : Int)), 0, 0, 0, 0⟩, n73, n6, (.sl qa51 (x.1.d).length (x.1.d).length qg52)⟩ : En)) hH95
    have hH97 := ((hH96.sub2).sub3)
    have hH98 := ((((((hH97.top5).top3).top5).top3).top4).top5)
    have hps1 := push_at (nx := nx) hxi
    have hH99 := hH98
    rw [show IntKind.u32.wrap ((w32 (nx + ((j : Nat) : Int))) + 1) = w32 (nx + ((j + 1 : Nat) : Int)) from w32_succ nx j] at hH99
    exact ⟨cs.length - (j + 1), by omega, (q1 ++ [(⟨⟨x.1, w32 (nx + ((j : Nat) : Int)), 0, 0, 0, 0⟩, n73, n6, (.sl qa51 (x.1.d).length (x.1.d).length qg52)⟩ : En)]), (.sl qa88 ql89 qc90 qg91), c85, (D1 ++ (qseg (.sl qa51 (x.1.d).length (x.1.d).length qg52) (bcells x.1.d))), (j + 1), rfl, by omega, by rw [hps1, List.map_append, hp17, List.append_assoc]; rfl, by rw [← pr_app]; exact hA86, fun z hz => by rcases List.mem_append.1 hz with h9 | h9; exact (hp19 z h9).mono fun _ hh => hh.fst; obtain rfl := List.mem_singleton.1 h9; exact ⟨_, _, _, rfl, hqg53, Nat.le_refl _, by omega, fun _ hh => Sq.bs (R := []) hSq54 (by rw [List.append_nil]; exact hh.sub)⟩, fun H2 hh => hp20 H2 hh.fst, by rw [List.length_append]; show q1.length + 1 = _; omega, hH99, hT22, hT23, hT24, hT25, rfl⟩
  ·
    try simp only [decide_eq_true_eq, decide_eq_false_iff_not, Bool.not_eq_true', Bool.not_eq_false', Bool.and_eq_true, Bool.or_eq_true, Bool.or_eq_false_iff, Bool.not_not, Bool.and_eq_false_iff] at hc28
    refine C_exit ?_
    refine nx_exit ?_
    refine nx_exit ?_
    refine bk_hit ?_
    refine C_seq ?_
    refine C_region ?_
    refine O_p (.i .i64 0) (r_mv rfl) ?_
    refine O_nil ?_
    refine C_ret ?_
    have hH100 := ((((((hH27.top5).top5).top5).top5).top5).top5)
    have hjn : j = cs.length := by omega
    have hH101 := hH100
    rw [hjn] at hH101
    exact ⟨.inr rfl, _, resL_one (r_tmp (v := (.i .i64 0)) rfl), q1, lw, lwc, n6, D1, rfl, by have h9 := hp17; rw [hjn, List.take_length] at h9; exact h9, hp18, hp19, hp20, hH101⟩
end Go.Proofs.Ytipcacpaadgagaa.E
