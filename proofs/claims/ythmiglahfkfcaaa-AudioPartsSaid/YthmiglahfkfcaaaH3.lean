/- The forwarder, hearing. It bears no condition. -/
import Derived.Test.YthmiglahfkfcaaaH2
namespace Go.Proofs.Ythmiglahfkfcaaa.E
set_option linter.unusedVariables false
set_option linter.unusedSimpArgs false
set_option maxHeartbeats 2000000 in
theorem hear20_ev {H : AH} {R D B : HL} {F Lb room : Nat} {p : Pk} {da : Option (Nat × Nat)} {dc dg : Nat} {s0 t0 : Spk} {v0 : AV} {c0 : List AV} {l0 : Int} {s1 t1 : Spk} {v1 : AV} {c1 : List AV} {l1 : Int} {rows1 : List (List AV)} {w1 : List Pk} (hkind : p.kind ≤ 127) (hdl : p.d.length ≤ 1188) (hdg : dg = 0 ∨ dg = 1) (hdc : p.d.length ≤ dc) (hdm : dc ≤ 9223372036854775807) (hpb : ∀ H', Hs H' B → Bs H' (.sl da p.d.length dc dg) p.d) (hsq1 : Sq 6 v1 c1 rows1.flatten) (hpr1 : PksR D rows1 w1) (hlost1 : 0 ≤ l1 ∧ l1 < 4611686018427387904) (hroom64 : room ≤ 64) (hH0 : Hs H ([(F, some (.cells ([(.sl (some (Lb, 0)) 2 2 0), (.i .i64 ((room : Nat) : Int))]) true))] ++ ([(Lb, some (.cells ((([(lrowS true s0 t0 v0 l0), (lrowS true s1 t1 v1 l1)] : List (List AV))).flatten) true))] ++ ((qseg v0 c0) ++ ((qseg v1 c1) ++ (D ++ (B ++ (R)))))))) : Ev tabA spA (.fn (.func 11) [] []) [.p (some (F, 0)), .i .i64 0, .agg [(.b p.m), (.i .u8 p.kind), (.i .u16 p.seq), (.i .u32 p.stamp), (.i .u32 p.src), (.sl da p.d.length dc dg)]] H (fun r H' => ∃ n D' v1x c1x rows1x, r = .tup [.i .i64 n, .i .i64 0] ∧ (∀ H', Hs H' D' → Hs H' D) ∧ Sq 6 v1x c1x rows1x.flatten ∧ PksR D' rows1x (handW s1 room w1 l1 1 p).2.1 ∧ Hs H' ([(F, some (.cells ([(.sl (some (Lb, 0)) 2 2 0), (.i .i64 ((room : Nat) : Int))]) true))] ++ ([(Lb, some (.cells ((([(lrowS true s0 t0 v0 l0), (lrowS true (handW s1 room w1 l1 1 p).1 t1 v1x (handW s1 room w1 l1 1 p).2.2.1)] : List (List AV))).flatten) true))] ++ ((qseg v0 c0) ++ ((qseg v1x c1x) ++ (D' ++ (B ++ (R)))))))) := by
  refine Ev_C (F := x11) rfl ?_
  refine C_seq ?_
  refine C_region ?_
  refine O_box (z := [(.b p.m), (.i .u8 p.kind), (.i .u16 p.seq), (.i .u32 p.stamp), (.i .u32 p.src), (.sl da p.d.length dc dg)]) rfl fun n1 H2 hN3 => ?_
  have hH4 := hH0.new hN3
  refine O_p (.i .i64 0) (r_mv rfl) ?_
  refine O_p (.i .i64 0) (r_mv rfl) ?_
  refine O_nil ?_
  refine C_seq ?_
  refine C_region ?_
  refine O_p (.p (some (F, 0))) (r_mv rfl) ?_
  refine O_p (.i .i64 0) (r_mv rfl) ?_
  have hH5 := (hH4.top1)
  refine O_call (Ev.mono (at_ev (k := 0) (np := 2) (by decide) hH5) fun v6 H7 hq8 => ?_)
  obtain ⟨rfl, hH9⟩ := hq8
  refine O_p (.p (some (Lb, (0 * 67 + 0)))) (r_mv rfl) ?_
  refine O_nil ?_
  refine C_seq ?_
  refine C_seq ?_
  refine C_region ?_
  refine O_p (.p (some (Lb, (0 * 67 + 0)))) (r_mv rfl) ?_
  refine O_p (.b false) (r_nilq_s rfl) ?_
  refine O_nil ?_
  refine C_cond (x := false) rfl (fun h => by cases h) (fun _ => ?_)
  refine C_skip ?_
  refine C_seq ?_
  refine C_seq ?_
  refine C_region ?_
  refine O_p (.agg [(.b p.m), (.i .u8 p.kind), (.i .u16 p.seq), (.i .u32 p.stamp), (.i .u32 p.src), (.sl da p.d.length dc dg)]) (r_ldA rfl hH9.get1 rfl) ?_
  refine O_call (Ev.mono (right_ev hkind hdl hH9) fun v10 H11 hq12 => ?_)
  obtain ⟨rfl, hH13⟩ := hq12
  refine O_p (.i .i64 0) (r_mv rfl) ?_
  refine O_nil ?_
  refine C_seq ?_
  refine C_region ?_
  refine O_p (.i .i64 0) (r_mv rfl) ?_
  refine O_p (.b false) (r_bin rfl rfl rfl) ?_
  refine O_nil ?_
  refine C_cond (x := false) rfl (fun h => by cases h) (fun _ => ?_)
  refine C_skip ?_
  refine C_seq ?_
  refine C_seq ?_
  refine C_region ?_
  have hall0 : ∀ x ∈ ([(lrowS true s0 t0 v0 l0), (lrowS true s1 t1 v1 l1)] : List (List AV)), x.length = 67 := fun x hx => by simp only [List.mem_cons, List.not_mem_nil, or_false] at hx; rcases hx with rfl | rfl <;> rfl
  have hH14 : Hs H11 ([(F, some (.cells ([(.sl (some (Lb, 0)) 2 2 0), (.i .i64 ((room : Nat) : Int))]) true))] ++ ([(n1, some (.cells ([(.b p.m), (.i .u8 p.kind), (.i .u16 p.seq), (.i .u32 p.stamp), (.i .u32 p.src), (.sl da p.d.length dc dg)]) true))] ++ ([(Lb, some (.cells (((([(lrowS true s0 t0 v0 l0), (lrowS true s1 t1 v1 l1)] : List (List AV))).set 0 (lrowS true s0 t0 v0 l0)).flatten) true))] ++ ((qseg v0 c0) ++ ((qseg v1 c1) ++ (D ++ (B ++ (R)))))))) := hH13
  refine O_p (.p (some (Lb, (0 * 67 + 0)))) (r_mv rfl) ?_
  refine O_p (.p (some (Lb, (0 * 67 + 0)))) (r_nilc rfl) ?_
  refine O_p (.p (some (Lb, (0 * 67 + 0)))) (r_fadd' rfl rfl) ?_
  refine O_p (.b true) (by exact (r_ld rfl hH14.get2 ((foc_get (hall0) (Nat.le_of_ble_eq_true rfl) rfl (by decide)).trans rfl))) ?_
  refine O_p (.b false) (r_un rfl rfl) ?_
  refine O_nil ?_
  refine C_cond (x := false) rfl (fun h => by cases h) (fun _ => ?_)
  refine C_skip ?_
  refine C_seq ?_
  refine C_region ?_
  refine O_p (.i .i64 0) (r_mv rfl) ?_
  refine O_nil ?_
  refine C_seq ?_
  refine C_region ?_
  refine O_p (.p (some (n1, 5))) (r_fadd' rfl rfl) ?_
  refine O_p (.sl da p.d.length dc dg) (r_ld rfl hH14.get1 rfl) ?_
  refine O_p (.sl da p.d.length dc dg) (r_mv rfl) ?_
  refine O_nil ?_
  refine C_seq ?_
  refine C_seq ?_
  refine C_region ?_
  refine O_p (.p (some (F, 0))) (r_mv rfl) ?_
  refine O_p (.p (some (F, 0))) (r_nilc rfl) ?_
  refine O_p (.p (some (F, 0))) (r_fadd' rfl rfl) ?_
  refine O_p (.sl (some (Lb, 0)) 2 2 0) (r_ld rfl hH14.get0 rfl) ?_
  refine O_p (.i .i64 2) (r_len rfl) ?_
  refine O_p (.i .i64 0) (r_mv rfl) ?_
  refine O_nil ?_
  refine C_block ?_
  refine C_loop ?_
  refine C_seq ?_
  refine C_region ?_
  refine O_p (.b true) (r_bin rfl rfl rfl) ?_
  refine O_nil ?_
  refine C_seq ?_
  refine C_cond (x := true) rfl (fun _ => ?_) (fun h => by cases h)
  refine C_skip ?_
  refine C_seq ?_
  refine C_block ?_
  refine C_seq ?_
  refine C_region ?_
  refine O_p (.i .i64 0) (r_mv rfl) ?_
  refine O_p (.i .i64 0) (r_mv rfl) ?_
  refine O_nil ?_
  refine C_seq ?_
  refine C_region ?_
  refine O_p (.sl da p.d.length dc dg) (r_mv rfl) ?_
  refine O_call (Ev.mono (clone_ev (tab := tabA) (sp := spA) rfl hH14.ok hdg (hpb _ hH14.top6.fst) (by first | omega | (simp only [List.length_take, List.length_drop, List.length_append, List.length_cons, List.length_nil, beN_len] <;> omega)) (by first | omega | (simp only [List.length_take, List.length_drop, List.length_append, List.length_cons, List.length_nil, beN_len] <;> omega)) (by first | omega | (simp only [List.length_take, List.length_drop, List.length_append, List.length_cons, List.length_nil, beN_len] <;> omega))) fun v15 H16 hq17 => ?_)
  obtain ⟨hM18, hK19⟩ := hq17
  obtain ⟨qa20, qg21, rfl, hqg22, _⟩ := hM18.own.bs
  have hH24 := Hs.ofMine hH14 hM18 hK19
  have hSq23 := Sq.ofMine hH14 hM18 hK19
  have hH25 := (hH24.top6)
  have hH26 := Hs.unassoc hH25
  refine O_p (.p (some (n1, 5))) (r_fadd' rfl rfl) ?_
  refine O_store (vs := [(.sl qa20 (p.d).length (p.d).length qg21)]) (c' := [(.b p.m), (.i .u8 p.kind), (.i .u16 p.seq), (.i .u32 p.stamp), (.i .u32 p.src), (.sl qa20 (p.d).length (p.d).length qg21)]) rfl (by rfl) hH26.get2 rfl (List.cons_ne_nil _ _) (Nat.le_of_ble_eq_true rfl) rfl fun H27 hW28 => ?_
  have hH29 := hH26.wr2 hW28
  refine O_nil ?_
  refine C_seq ?_
  refine C_draw fun b30 H31 hbase32 hA33 => ?_
  have hH34 := hH29.keep (by have := hA33.1; omega) (fun q _ => hA33.2 q) ((hH29.old).aside hA33).ok
  refine D_l (v := (.i .i64 0)) rfl rfl rfl (r_mv rfl) ?_
  refine D_l (v := (.i .i64 0)) rfl rfl rfl (r_mv rfl) ?_
  refine D_l (v := (.b false)) rfl rfl rfl (r_bin rfl rfl rfl) ?_
  refine D_l (v := (.b false)) rfl rfl rfl (r_mv rfl) ?_
  refine D_gf rfl ?_
  refine D_gf rfl ?_
  refine D_gf rfl ?_
  refine D_gf rfl ?_
  refine D_gf rfl ?_
  refine D_gf rfl ?_
  refine D_gf rfl ?_
  refine D_gf rfl ?_
  refine D_gf rfl ?_
  refine D_gf rfl ?_
  refine D_gf rfl ?_
  refine D_gf rfl ?_
  refine D_gf rfl ?_
  refine D_l (v := (.b false)) rfl rfl rfl (r_pick_f rfl rfl) ?_
  refine D_nil ?_
  refine C_cond (x := false) rfl (fun h => by cases h) (fun _ => ?_)
  refine C_skip ?_
  refine C_region ?_
  refine O_p (.i .i64 1) (r_bin rfl rfl rfl) ?_
  refine O_p (.i .i64 1) (r_mv rfl) ?_
  refine O_nil ?_
  refine C_loop ?_
  refine C_seq ?_
  refine C_region ?_
  refine O_p (.b true) (r_bin rfl rfl rfl) ?_
  refine O_nil ?_
  refine C_seq ?_
  refine C_cond (x := true) rfl (fun _ => ?_) (fun h => by cases h)
  refine C_skip ?_
  refine C_seq ?_
  refine C_block ?_
  refine C_seq ?_
  refine C_region ?_
  refine O_p (.i .i64 1) (r_mv rfl) ?_
  refine O_p (.i .i64 1) (r_mv rfl) ?_
  refine O_nil ?_
  refine C_seq ?_
  refine C_region ?_
  refine O_p (.sl da p.d.length dc dg) (r_mv rfl) ?_
  refine O_call (Ev.mono (clone_ev (tab := tabA) (sp := spA) rfl hH34.ok hdg (hpb _ hH34.top6.fst) (by first | omega | (simp only [List.length_take, List.length_drop, List.length_append, List.length_cons, List.length_nil, beN_len] <;> omega)) (by first | omega | (simp only [List.length_take, List.length_drop, List.length_append, List.length_cons, List.length_nil, beN_len] <;> omega)) (by first | omega | (simp only [List.length_take, List.length_drop, List.length_append, List.length_cons, List.length_nil, beN_len] <;> omega))) fun v35 H36 hq37 => ?_)
  obtain ⟨hM38, hK39⟩ := hq37
  obtain ⟨qa40, qg41, rfl, hqg42, _⟩ := hM38.own.bs
  have hH44 := Hs.ofMine hH34 hM38 hK39
  have hSq43 := Sq.ofMine hH34 hM38 hK39
  have hH45 := (hH44.top1)
  have hH46 := Hs.unassoc hH45
  refine O_p (.p (some (n1, 5))) (r_fadd' rfl rfl) ?_
  refine O_store (vs := [(.sl qa40 (p.d).length (p.d).length qg41)]) (c' := [(.b p.m), (.i .u8 p.kind), (.i .u16 p.seq), (.i .u32 p.stamp), (.i .u32 p.src), (.sl qa40 (p.d).length (p.d).length qg41)]) rfl (by rfl) hH46.get2 rfl (List.cons_ne_nil _ _) (Nat.le_of_ble_eq_true rfl) rfl fun H47 hW48 => ?_
  have hH49 := hH46.wr2 hW48
  refine O_nil ?_
  refine C_seq ?_
  refine C_draw fun b50 H51 hbase52 hA53 => ?_
  have hH54 := hH49.keep (by have := hA53.1; omega) (fun q _ => hA53.2 q) ((hH49.old).aside hA53).ok
  refine D_l (v := (.i .i64 1)) rfl rfl rfl (r_mv rfl) ?_
  refine D_l (v := (.i .i64 0)) rfl rfl rfl (r_mv rfl) ?_
  refine D_l (v := (.b true)) rfl rfl rfl (r_bin rfl rfl rfl) ?_
  refine D_l (v := (.b true)) rfl rfl rfl (r_mv rfl) ?_
  refine D_gk rfl ?_
  refine D_l (v := (.p (some (F, 0)))) rfl rfl rfl (r_mv rfl) ?_
  refine D_gk rfl ?_
  refine D_l (v := (.p (some (F, 0)))) rfl rfl rfl (r_nilc rfl) ?_
  refine D_gk rfl ?_
  refine D_l (v := (.p (some (F, 0)))) rfl rfl rfl (r_fadd' rfl rfl) ?_
  refine D_gk rfl ?_
  refine D_l (v := (.i .i64 1)) rfl rfl rfl (r_mv rfl) ?_
  refine D_gk rfl ?_
  refine D_l (v := (.i .i64 0)) rfl rfl rfl (r_mv rfl) ?_
  refine D_gk rfl ?_
  refine D_l (v := (.p (some (F, 0)))) rfl rfl rfl (r_mv rfl) ?_
  refine D_gk rfl ?_
  refine D_l (v := (.p (some (F, 0)))) rfl rfl rfl (r_nilc rfl) ?_
  refine D_gk rfl ?_
  refine D_l (v := (.p (some (F, 1)))) rfl rfl rfl (r_fadd' rfl rfl) ?_
  refine D_gk rfl ?_
  refine D_r (v := (.sl (some (Lb, 0)) 2 2 0)) rfl rfl rfl (r_ld rfl hH54.get1 rfl) ?_
  refine D_gk rfl ?_
  refine D_l (v := (.p (some (Lb, (1 * 67 + 0))))) rfl rfl rfl (by exact (r_islr (b := Lb) (k := 1) (len := 2) (cap := 2) (g := 0) rfl rfl (by decide))) ?_
  refine D_gk rfl ?_
  refine D_r (v := (.agg [(.b p.m), (.i .u8 p.kind), (.i .u16 p.seq), (.i .u32 p.stamp), (.i .u32 p.src), (.sl qa40 (p.d).length (p.d).length qg41)])) rfl rfl rfl (r_ldA rfl hH54.get2 rfl) ?_
  refine D_gk rfl ?_
  refine D_r (v := (.i .i64 ((room : Nat) : Int))) rfl rfl rfl (r_ld rfl hH54.get1 rfl) ?_
  refine D_gk rfl ?_
  have hH55 := ((hH54.top5).top4)
  have hH56 : Hs H51 ([(Lb, some (.cells (((([(lrowS true s0 t0 v0 l0), (lrowS true s1 t1 v1 l1)] : List (List AV))).set 1 (lrowS true s1 t1 v1 l1)).flatten) true))] ++ ((qseg v1 c1) ++ (((D ++ (qseg (.sl qa20 (p.d).length (p.d).length qg21) (bcells p.d))) ++ (qseg (.sl qa40 (p.d).length (p.d).length qg41) (bcells p.d))) ++ ([(F, some (.cells ([(.sl (some (Lb, 0)) 2 2 0), (.i .i64 ((room : Nat) : Int))]) true))] ++ ([(n1, some (.cells ([(.b p.m), (.i .u8 p.kind), (.i .u16 p.seq), (.i .u32 p.stamp), (.i .u32 p.src), (.sl qa40 (p.d).length (p.d).length qg41)]) true))] ++ ((qseg v0 c0) ++ (B ++ (R)))))))) := hH55
  have hH57 := ((hH56.top1).top1)
  refine D_call (Ev.mono (hand0_ev (i := 1) (rws := ([(lrowS true s0 t0 v0 l0), (lrowS true s1 t1 v1 l1)] : List (List AV))) (D := ((D ++ (qseg (.sl qa20 (p.d).length (p.d).length qg21) (bcells p.d))) ++ (qseg (.sl qa40 (p.d).length (p.d).length qg41) (bcells p.d)))) (p := p) hall0 (Nat.le_of_ble_eq_true rfl) hsq1 (hpr1.mono (fun _ hh => hh.fst.fst)) ⟨_, _, _, rfl, hqg42, Nat.le_refl _, by omega, fun _ hh => Sq.bs (R := []) hSq43 (by rw [List.append_nil]; exact hh.sub)⟩ hroom64 hlost1 hH57) fun v58 H59 hq60 => ?_)
  obtain ⟨v1x, c1x, rows1x, rfl, hsq1x, hpr1x, hh1x⟩ := hq60
  have hall1 : ∀ x ∈ ([(lrowS true s0 t0 v0 l0), (lrowS true (handW s1 room w1 l1 1 p).1 t1 v1x (handW s1 room w1 l1 1 p).2.2.1)] : List (List AV)), x.length = 67 := fun x hx => by simp only [List.mem_cons, List.not_mem_nil, or_false] at hx; rcases hx with rfl | rfl <;> rfl
  refine And.intro (And.intro (Or.inl rfl) (And.intro (Or.inl rfl) (And.intro (Or.inl rfl) True.intro))) ?_
  refine D_l (v := (.b (handW s1 room w1 l1 1 p).2.2.2)) rfl rfl rfl (r_pick_t rfl rfl) ?_
  refine D_nil ?_
  refine C_cond (x := (handW s1 room w1 l1 1 p).2.2.2) rfl (fun hc61 => ?_) (fun hc61 => ?_)
  ·
    try simp only [decide_eq_true_eq, decide_eq_false_iff_not, Bool.not_eq_true', Bool.not_eq_false', Bool.and_eq_true, Bool.or_eq_true, Bool.or_eq_false_iff, Bool.not_not, Bool.and_eq_false_iff] at hc61
    refine C_region ?_
    refine O_p (.i .i64 0) (r_mv rfl) ?_
    refine O_p (.i .i64 1) (r_bin rfl rfl rfl) ?_
    refine O_p (.i .i64 1) (r_mv rfl) ?_
    refine O_nil ?_
    refine C_region ?_
    refine O_p (.i .i64 2) (r_bin rfl rfl rfl) ?_
    refine O_p (.i .i64 2) (r_mv rfl) ?_
    refine O_nil ?_
    refine C_loop ?_
    refine C_seq ?_
    refine C_region ?_
    refine O_p (.b false) (r_bin rfl rfl rfl) ?_
    refine O_nil ?_
    refine C_seq ?_
    refine C_cond (x := false) rfl (fun h => by cases h) (fun _ => ?_)
    refine C_exit ?_
    refine nx_exit ?_
    refine nx_exit ?_
    refine bk_hit ?_
    refine C_seq ?_
    refine C_region ?_
    refine O_p (.i .i64 1) (r_mv rfl) ?_
    refine O_p (.i .i64 1) (r_mv rfl) ?_
    refine O_p (.i .i64 0) (r_mv rfl) ?_
    refine O_nil ?_
    refine C_ret ?_
    have hH62 := (hh1x.sub4)
    have hH63 := ((((((hH62.top5).top3).top3).top5).top4).top5)
    have hH64 : Hs H59 ([(F, some (.cells ([(.sl (some (Lb, 0)) 2 2 0), (.i .i64 ((room : Nat) : Int))]) true))] ++ ([(Lb, some (.cells ((([(lrowS true s0 t0 v0 l0), (lrowS true (handW s1 room w1 l1 1 p).1 t1 v1x (handW s1 room w1 l1 1 p).2.2.1)] : List (List AV))).flatten) true))] ++ ((qseg v0 c0) ++ ((qseg v1x c1x) ++ (((D ++ (qseg (.sl qa20 (p.d).length (p.d).length qg21) (bcells p.d))) ++ (qseg (.sl qa40 (p.d).length (p.d).length qg41) (bcells p.d))) ++ (B ++ (R))))))) := hH63
    exact ⟨.inr rfl, _, resL_cons (r_tmp (v := (.i .i64 1)) rfl) (resL_one (r_tmp (v := .i .i64 0) rfl)), _, ((D ++ (qseg (.sl qa20 (p.d).length (p.d).length qg21) (bcells p.d))) ++ (qseg (.sl qa40 (p.d).length (p.d).length qg41) (bcells p.d))), v1x, c1x, rows1x, rfl, (fun _ hh => hh.fst.fst), hsq1x, hpr1x.mono (fun _ hh => hh), hH64⟩
  ·
    try simp only [decide_eq_true_eq, decide_eq_false_iff_not, Bool.not_eq_true', Bool.not_eq_false', Bool.and_eq_true, Bool.or_eq_true, Bool.or_eq_false_iff, Bool.not_not, Bool.and_eq_false_iff] at hc61
    refine C_skip ?_
    refine C_region ?_
    refine O_p (.i .i64 2) (r_bin rfl rfl rfl) ?_
    refine O_p (.i .i64 2) (r_mv rfl) ?_
    refine O_nil ?_
    refine C_loop ?_
    refine C_seq ?_
    refine C_region ?_
    refine O_p (.b false) (r_bin rfl rfl rfl) ?_
    refine O_nil ?_
    refine C_seq ?_
    refine C_cond (x := false) rfl (fun h => by cases h) (fun _ => ?_)
    refine C_exit ?_
    refine nx_exit ?_
    refine nx_exit ?_
    refine bk_hit ?_
    refine C_seq ?_
    refine C_region ?_
    refine O_p (.i .i64 0) (r_mv rfl) ?_
    refine O_p (.i .i64 0) (r_mv rfl) ?_
    refine O_p (.i .i64 0) (r_mv rfl) ?_
    refine O_nil ?_
    refine C_ret ?_
    have hH65 := (hh1x.sub4)
    have hH66 := ((((((hH65.top5).top3).top3).top5).top4).top5)
    have hH67 : Hs H59 ([(F, some (.cells ([(.sl (some (Lb, 0)) 2 2 0), (.i .i64 ((room : Nat) : Int))]) true))] ++ ([(Lb, some (.cells ((([(lrowS true s0 t0 v0 l0), (lrowS true (handW s1 room w1 l1 1 p).1 t1 v1x (handW s1 room w1 l1 1 p).2.2.1)] : List (List AV))).flatten) true))] ++ ((qseg v0 c0) ++ ((qseg v1x c1x) ++ (((D ++ (qseg (.sl qa20 (p.d).length (p.d).length qg21) (bcells p.d))) ++ (qseg (.sl qa40 (p.d).length (p.d).length qg41) (bcells p.d))) ++ (B ++ (R))))))) := hH66
    exact ⟨.inr rfl, _, resL_cons (r_tmp (v := (.i .i64 0)) rfl) (resL_one (r_tmp (v := .i .i64 0) rfl)), _, ((D ++ (qseg (.sl qa20 (p.d).length (p.d).length qg21) (bcells p.d))) ++ (qseg (.sl qa40 (p.d).length (p.d).length qg41) (bcells p.d))), v1x, c1x, rows1x, rfl, (fun _ hh => hh.fst.fst), hsq1x, hpr1x.mono (fun _ hh => hh), hH67⟩
set_option maxHeartbeats 2000000 in
theorem hear30_ev {H : AH} {R D B : HL} {F Lb room : Nat} {p : Pk} {da : Option (Nat × Nat)} {dc dg : Nat} {s0 t0 : Spk} {v0 : AV} {c0 : List AV} {l0 : Int} {s1 t1 : Spk} {v1 : AV} {c1 : List AV} {l1 : Int} {s2 t2 : Spk} {v2 : AV} {c2 : List AV} {l2 : Int} {rows1 : List (List AV)} {w1 : List Pk} {rows2 : List (List AV)} {w2 : List Pk} (hkind : p.kind ≤ 127) (hdl : p.d.length ≤ 1188) (hdg : dg = 0 ∨ dg = 1) (hdc : p.d.length ≤ dc) (hdm : dc ≤ 9223372036854775807) (hpb : ∀ H', Hs H' B → Bs H' (.sl da p.d.length dc dg) p.d) (hsq1 : Sq 6 v1 c1 rows1.flatten) (hpr1 : PksR D rows1 w1) (hlost1 : 0 ≤ l1 ∧ l1 < 4611686018427387904) (hsq2 : Sq 6 v2 c2 rows2.flatten) (hpr2 : PksR D rows2 w2) (hlost2 : 0 ≤ l2 ∧ l2 < 4611686018427387904) (hroom64 : room ≤ 64) (hH0 : Hs H ([(F, some (.cells ([(.sl (some (Lb, 0)) 3 3 0), (.i .i64 ((room : Nat) : Int))]) true))] ++ ([(Lb, some (.cells ((([(lrowS true s0 t0 v0 l0), (lrowS true s1 t1 v1 l1), (lrowS true s2 t2 v2 l2)] : List (List AV))).flatten) true))] ++ ((qseg v0 c0) ++ ((qseg v1 c1) ++ ((qseg v2 c2) ++ (D ++ (B ++ (R))))))))) : Ev tabA spA (.fn (.func 11) [] []) [.p (some (F, 0)), .i .i64 0, .agg [(.b p.m), (.i .u8 p.kind), (.i .u16 p.seq), (.i .u32 p.stamp), (.i .u32 p.src), (.sl da p.d.length dc dg)]] H (fun r H' => ∃ n D' v1x c1x rows1x v2x c2x rows2x, r = .tup [.i .i64 n, .i .i64 0] ∧ (∀ H', Hs H' D' → Hs H' D) ∧ Sq 6 v1x c1x rows1x.flatten ∧ PksR D' rows1x (handW s1 room w1 l1 1 p).2.1 ∧ Sq 6 v2x c2x rows2x.flatten ∧ PksR D' rows2x (handW s2 room w2 l2 1 p).2.1 ∧ Hs H' ([(F, some (.cells ([(.sl (some (Lb, 0)) 3 3 0), (.i .i64 ((room : Nat) : Int))]) true))] ++ ([(Lb, some (.cells ((([(lrowS true s0 t0 v0 l0), (lrowS true (handW s1 room w1 l1 1 p).1 t1 v1x (handW s1 room w1 l1 1 p).2.2.1), (lrowS true (handW s2 room w2 l2 1 p).1 t2 v2x (handW s2 room w2 l2 1 p).2.2.1)] : List (List AV))).flatten) true))] ++ ((qseg v0 c0) ++ ((qseg v1x c1x) ++ ((qseg v2x c2x) ++ (D' ++ (B ++ (R))))))))) := by
  refine Ev_C (F := x11) rfl ?_
  refine C_seq ?_
  refine C_region ?_
  refine O_box (z := [(.b p.m), (.i .u8 p.kind), (.i .u16 p.seq), (.i .u32 p.stamp), (.i .u32 p.src), (.sl da p.d.length dc dg)]) rfl fun n1 H2 hN3 => ?_
  have hH4 := hH0.new hN3
  refine O_p (.i .i64 0) (r_mv rfl) ?_
  refine O_p (.i .i64 0) (r_mv rfl) ?_
  refine O_nil ?_
  refine C_seq ?_
  refine C_region ?_
  refine O_p (.p (some (F, 0))) (r_mv rfl) ?_
  refine O_p (.i .i64 0) (r_mv rfl) ?_
  have hH5 := (hH4.top1)
  refine O_call (Ev.mono (at_ev (k := 0) (np := 3) (by decide) hH5) fun v6 H7 hq8 => ?_)
  obtain ⟨rfl, hH9⟩ := hq8
  refine O_p (.p (some (Lb, (0 * 67 + 0)))) (r_mv rfl) ?_
  refine O_nil ?_
  refine C_seq ?_
  refine C_seq ?_
  refine C_region ?_
  refine O_p (.p (some (Lb, (0 * 67 + 0)))) (r_mv rfl) ?_
  refine O_p (.b false) (r_nilq_s rfl) ?_
  refine O_nil ?_
  refine C_cond (x := false) rfl (fun h => by cases h) (fun _ => ?_)
  refine C_skip ?_
  refine C_seq ?_
  refine C_seq ?_
  refine C_region ?_
  refine O_p (.agg [(.b p.m), (.i .u8 p.kind), (.i .u16 p.seq), (.i .u32 p.stamp), (.i .u32 p.src), (.sl da p.d.length dc dg)]) (r_ldA rfl hH9.get1 rfl) ?_
  refine O_call (Ev.mono (right_ev hkind hdl hH9) fun v10 H11 hq12 => ?_)
  obtain ⟨rfl, hH13⟩ := hq12
  refine O_p (.i .i64 0) (r_mv rfl) ?_
  refine O_nil ?_
  refine C_seq ?_
  refine C_region ?_
  refine O_p (.i .i64 0) (r_mv rfl) ?_
  refine O_p (.b false) (r_bin rfl rfl rfl) ?_
  refine O_nil ?_
  refine C_cond (x := false) rfl (fun h => by cases h) (fun _ => ?_)
  refine C_skip ?_
  refine C_seq ?_
  refine C_seq ?_
  refine C_region ?_
  have hall0 : ∀ x ∈ ([(lrowS true s0 t0 v0 l0), (lrowS true s1 t1 v1 l1), (lrowS true s2 t2 v2 l2)] : List (List AV)), x.length = 67 := fun x hx => by simp only [List.mem_cons, List.not_mem_nil, or_false] at hx; rcases hx with rfl | rfl | rfl <;> rfl
  have hH14 : Hs H11 ([(F, some (.cells ([(.sl (some (Lb, 0)) 3 3 0), (.i .i64 ((room : Nat) : Int))]) true))] ++ ([(n1, some (.cells ([(.b p.m), (.i .u8 p.kind), (.i .u16 p.seq), (.i .u32 p.stamp), (.i .u32 p.src), (.sl da p.d.length dc dg)]) true))] ++ ([(Lb, some (.cells (((([(lrowS true s0 t0 v0 l0), (lrowS true s1 t1 v1 l1), (lrowS true s2 t2 v2 l2)] : List (List AV))).set 0 (lrowS true s0 t0 v0 l0)).flatten) true))] ++ ((qseg v0 c0) ++ ((qseg v1 c1) ++ ((qseg v2 c2) ++ (D ++ (B ++ (R))))))))) := hH13
  refine O_p (.p (some (Lb, (0 * 67 + 0)))) (r_mv rfl) ?_
  refine O_p (.p (some (Lb, (0 * 67 + 0)))) (r_nilc rfl) ?_
  refine O_p (.p (some (Lb, (0 * 67 + 0)))) (r_fadd' rfl rfl) ?_
  refine O_p (.b true) (by exact (r_ld rfl hH14.get2 ((foc_get (hall0) (Nat.le_of_ble_eq_true rfl) rfl (by decide)).trans rfl))) ?_
  refine O_p (.b false) (r_un rfl rfl) ?_
  refine O_nil ?_
  refine C_cond (x := false) rfl (fun h => by cases h) (fun _ => ?_)
  refine C_skip ?_
  refine C_seq ?_
  refine C_region ?_
  refine O_p (.i .i64 0) (r_mv rfl) ?_
  refine O_nil ?_
  refine C_seq ?_
  refine C_region ?_
  refine O_p (.p (some (n1, 5))) (r_fadd' rfl rfl) ?_
  refine O_p (.sl da p.d.length dc dg) (r_ld rfl hH14.get1 rfl) ?_
  refine O_p (.sl da p.d.length dc dg) (r_mv rfl) ?_
  refine O_nil ?_
  refine C_seq ?_
  refine C_seq ?_
  refine C_region ?_
  refine O_p (.p (some (F, 0))) (r_mv rfl) ?_
  refine O_p (.p (some (F, 0))) (r_nilc rfl) ?_
  refine O_p (.p (some (F, 0))) (r_fadd' rfl rfl) ?_
  refine O_p (.sl (some (Lb, 0)) 3 3 0) (r_ld rfl hH14.get0 rfl) ?_
  refine O_p (.i .i64 3) (r_len rfl) ?_
  refine O_p (.i .i64 0) (r_mv rfl) ?_
  refine O_nil ?_
  refine C_block ?_
  refine C_loop ?_
  refine C_seq ?_
  refine C_region ?_
  refine O_p (.b true) (r_bin rfl rfl rfl) ?_
  refine O_nil ?_
  refine C_seq ?_
  refine C_cond (x := true) rfl (fun _ => ?_) (fun h => by cases h)
  refine C_skip ?_
  refine C_seq ?_
  refine C_block ?_
  refine C_seq ?_
  refine C_region ?_
  refine O_p (.i .i64 0) (r_mv rfl) ?_
  refine O_p (.i .i64 0) (r_mv rfl) ?_
  refine O_nil ?_
  refine C_seq ?_
  refine C_region ?_
  refine O_p (.sl da p.d.length dc dg) (r_mv rfl) ?_
  refine O_call (Ev.mono (clone_ev (tab := tabA) (sp := spA) rfl hH14.ok hdg (hpb _ hH14.top7.fst) (by first | omega | (simp only [List.length_take, List.length_drop, List.length_append, List.length_cons, List.length_nil, beN_len] <;> omega)) (by first | omega | (simp only [List.length_take, List.length_drop, List.length_append, List.length_cons, List.length_nil, beN_len] <;> omega)) (by first | omega | (simp only [List.length_take, List.length_drop, List.length_append, List.length_cons, List.length_nil, beN_len] <;> omega))) fun v15 H16 hq17 => ?_)
  obtain ⟨hM18, hK19⟩ := hq17
  obtain ⟨qa20, qg21, rfl, hqg22, _⟩ := hM18.own.bs
  have hH24 := Hs.ofMine hH14 hM18 hK19
  have hSq23 := Sq.ofMine hH14 hM18 hK19
  have hH25 := (hH24.top7)
  have hH26 := Hs.unassoc hH25
  refine O_p (.p (some (n1, 5))) (r_fadd' rfl rfl) ?_
  refine O_store (vs := [(.sl qa20 (p.d).length (p.d).length qg21)]) (c' := [(.b p.m), (.i .u8 p.kind), (.i .u16 p.seq), (.i .u32 p.stamp), (.i .u32 p.src), (.sl qa20 (p.d).length (p.d).length qg21)]) rfl (by rfl) hH26.get2 rfl (List.cons_ne_nil _ _) (Nat.le_of_ble_eq_true rfl) rfl fun H27 hW28 => ?_
  have hH29 := hH26.wr2 hW28
  refine O_nil ?_
  refine C_seq ?_
  refine C_draw fun b30 H31 hbase32 hA33 => ?_
  have hH34 := hH29.keep (by have := hA33.1; omega) (fun q _ => hA33.2 q) ((hH29.old).aside hA33).ok
  refine D_l (v := (.i .i64 0)) rfl rfl rfl (r_mv rfl) ?_
  refine D_l (v := (.i .i64 0)) rfl rfl rfl (r_mv rfl) ?_
  refine D_l (v := (.b false)) rfl rfl rfl (r_bin rfl rfl rfl) ?_
  refine D_l (v := (.b false)) rfl rfl rfl (r_mv rfl) ?_
  refine D_gf rfl ?_
  refine D_gf rfl ?_
  refine D_gf rfl ?_
  refine D_gf rfl ?_
  refine D_gf rfl ?_
  refine D_gf rfl ?_
  refine D_gf rfl ?_
  refine D_gf rfl ?_
  refine D_gf rfl ?_
  refine D_gf rfl ?_
  refine D_gf rfl ?_
  refine D_gf rfl ?_
  refine D_gf rfl ?_
  refine D_l (v := (.b false)) rfl rfl rfl (r_pick_f rfl rfl) ?_
  refine D_nil ?_
  refine C_cond (x := false) rfl (fun h => by cases h) (fun _ => ?_)
  refine C_skip ?_
  refine C_region ?_
  refine O_p (.i .i64 1) (r_bin rfl rfl rfl) ?_
  refine O_p (.i .i64 1) (r_mv rfl) ?_
  refine O_nil ?_
  refine C_loop ?_
  refine C_seq ?_
  refine C_region ?_
  refine O_p (.b true) (r_bin rfl rfl rfl) ?_
  refine O_nil ?_
  refine C_seq ?_
  refine C_cond (x := true) rfl (fun _ => ?_) (fun h => by cases h)
  refine C_skip ?_
  refine C_seq ?_
  refine C_block ?_
  refine C_seq ?_
  refine C_region ?_
  refine O_p (.i .i64 1) (r_mv rfl) ?_
  refine O_p (.i .i64 1) (r_mv rfl) ?_
  refine O_nil ?_
  refine C_seq ?_
  refine C_region ?_
  refine O_p (.sl da p.d.length dc dg) (r_mv rfl) ?_
  refine O_call (Ev.mono (clone_ev (tab := tabA) (sp := spA) rfl hH34.ok hdg (hpb _ hH34.top7.fst) (by first | omega | (simp only [List.length_take, List.length_drop, List.length_append, List.length_cons, List.length_nil, beN_len] <;> omega)) (by first | omega | (simp only [List.length_take, List.length_drop, List.length_append, List.length_cons, List.length_nil, beN_len] <;> omega)) (by first | omega | (simp only [List.length_take, List.length_drop, List.length_append, List.length_cons, List.length_nil, beN_len] <;> omega))) fun v35 H36 hq37 => ?_)
  obtain ⟨hM38, hK39⟩ := hq37
  obtain ⟨qa40, qg41, rfl, hqg42, _⟩ := hM38.own.bs
  have hH44 := Hs.ofMine hH34 hM38 hK39
  have hSq43 := Sq.ofMine hH34 hM38 hK39
  have hH45 := (hH44.top1)
  have hH46 := Hs.unassoc hH45
  refine O_p (.p (some (n1, 5))) (r_fadd' rfl rfl) ?_
  refine O_store (vs := [(.sl qa40 (p.d).length (p.d).length qg41)]) (c' := [(.b p.m), (.i .u8 p.kind), (.i .u16 p.seq), (.i .u32 p.stamp), (.i .u32 p.src), (.sl qa40 (p.d).length (p.d).length qg41)]) rfl (by rfl) hH46.get2 rfl (List.cons_ne_nil _ _) (Nat.le_of_ble_eq_true rfl) rfl fun H47 hW48 => ?_
  have hH49 := hH46.wr2 hW48
  refine O_nil ?_
  refine C_seq ?_
  refine C_draw fun b50 H51 hbase52 hA53 => ?_
  have hH54 := hH49.keep (by have := hA53.1; omega) (fun q _ => hA53.2 q) ((hH49.old).aside hA53).ok
  refine D_l (v := (.i .i64 1)) rfl rfl rfl (r_mv rfl) ?_
  refine D_l (v := (.i .i64 0)) rfl rfl rfl (r_mv rfl) ?_
  refine D_l (v := (.b true)) rfl rfl rfl (r_bin rfl rfl rfl) ?_
  refine D_l (v := (.b true)) rfl rfl rfl (r_mv rfl) ?_
  refine D_gk rfl ?_
  refine D_l (v := (.p (some (F, 0)))) rfl rfl rfl (r_mv rfl) ?_
  refine D_gk rfl ?_
  refine D_l (v := (.p (some (F, 0)))) rfl rfl rfl (r_nilc rfl) ?_
  refine D_gk rfl ?_
  refine D_l (v := (.p (some (F, 0)))) rfl rfl rfl (r_fadd' rfl rfl) ?_
  refine D_gk rfl ?_
  refine D_l (v := (.i .i64 1)) rfl rfl rfl (r_mv rfl) ?_
  refine D_gk rfl ?_
  refine D_l (v := (.i .i64 0)) rfl rfl rfl (r_mv rfl) ?_
  refine D_gk rfl ?_
  refine D_l (v := (.p (some (F, 0)))) rfl rfl rfl (r_mv rfl) ?_
  refine D_gk rfl ?_
  refine D_l (v := (.p (some (F, 0)))) rfl rfl rfl (r_nilc rfl) ?_
  refine D_gk rfl ?_
  refine D_l (v := (.p (some (F, 1)))) rfl rfl rfl (r_fadd' rfl rfl) ?_
  refine D_gk rfl ?_
  refine D_r (v := (.sl (some (Lb, 0)) 3 3 0)) rfl rfl rfl (r_ld rfl hH54.get1 rfl) ?_
  refine D_gk rfl ?_
  refine D_l (v := (.p (some (Lb, (1 * 67 + 0))))) rfl rfl rfl (by exact (r_islr (b := Lb) (k := 1) (len := 3) (cap := 3) (g := 0) rfl rfl (by decide))) ?_
  refine D_gk rfl ?_
  refine D_r (v := (.agg [(.b p.m), (.i .u8 p.kind), (.i .u16 p.seq), (.i .u32 p.stamp), (.i .u32 p.src), (.sl qa40 (p.d).length (p.d).length qg41)])) rfl rfl rfl (r_ldA rfl hH54.get2 rfl) ?_
  refine D_gk rfl ?_
  refine D_r (v := (.i .i64 ((room : Nat) : Int))) rfl rfl rfl (r_ld rfl hH54.get1 rfl) ?_
  refine D_gk rfl ?_
  have hH55 := ((hH54.top5).top4)
  have hH56 : Hs H51 ([(Lb, some (.cells (((([(lrowS true s0 t0 v0 l0), (lrowS true s1 t1 v1 l1), (lrowS true s2 t2 v2 l2)] : List (List AV))).set 1 (lrowS true s1 t1 v1 l1)).flatten) true))] ++ ((qseg v1 c1) ++ (((D ++ (qseg (.sl qa20 (p.d).length (p.d).length qg21) (bcells p.d))) ++ (qseg (.sl qa40 (p.d).length (p.d).length qg41) (bcells p.d))) ++ ([(F, some (.cells ([(.sl (some (Lb, 0)) 3 3 0), (.i .i64 ((room : Nat) : Int))]) true))] ++ ([(n1, some (.cells ([(.b p.m), (.i .u8 p.kind), (.i .u16 p.seq), (.i .u32 p.stamp), (.i .u32 p.src), (.sl qa40 (p.d).length (p.d).length qg41)]) true))] ++ ((qseg v0 c0) ++ ((qseg v2 c2) ++ (B ++ (R))))))))) := hH55
  have hH57 := ((hH56.top1).top1)
  refine D_call (Ev.mono (hand0_ev (i := 1) (rws := ([(lrowS true s0 t0 v0 l0), (lrowS true s1 t1 v1 l1), (lrowS true s2 t2 v2 l2)] : List (List AV))) (D := ((D ++ (qseg (.sl qa20 (p.d).length (p.d).length qg21) (bcells p.d))) ++ (qseg (.sl qa40 (p.d).length (p.d).length qg41) (bcells p.d)))) (p := p) hall0 (Nat.le_of_ble_eq_true rfl) hsq1 (hpr1.mono (fun _ hh => hh.fst.fst)) ⟨_, _, _, rfl, hqg42, Nat.le_refl _, by omega, fun _ hh => Sq.bs (R := []) hSq43 (by rw [List.append_nil]; exact hh.sub)⟩ hroom64 hlost1 hH57) fun v58 H59 hq60 => ?_)
  obtain ⟨v1x, c1x, rows1x, rfl, hsq1x, hpr1x, hh1x⟩ := hq60
  have hall1 : ∀ x ∈ ([(lrowS true s0 t0 v0 l0), (lrowS true (handW s1 room w1 l1 1 p).1 t1 v1x (handW s1 room w1 l1 1 p).2.2.1), (lrowS true s2 t2 v2 l2)] : List (List AV)), x.length = 67 := fun x hx => by simp only [List.mem_cons, List.not_mem_nil, or_false] at hx; rcases hx with rfl | rfl | rfl <;> rfl
  refine And.intro (And.intro (Or.inl rfl) (And.intro (Or.inl rfl) (And.intro (Or.inl rfl) True.intro))) ?_
  refine D_l (v := (.b (handW s1 room w1 l1 1 p).2.2.2)) rfl rfl rfl (r_pick_t rfl rfl) ?_
  refine D_nil ?_
  refine C_cond (x := (handW s1 room w1 l1 1 p).2.2.2) rfl (fun hc61 => ?_) (fun hc61 => ?_)
  ·
    try simp only [decide_eq_true_eq, decide_eq_false_iff_not, Bool.not_eq_true', Bool.not_eq_false', Bool.and_eq_true, Bool.or_eq_true, Bool.or_eq_false_iff, Bool.not_not, Bool.and_eq_false_iff] at hc61
    refine C_region ?_
    refine O_p (.i .i64 0) (r_mv rfl) ?_
    refine O_p (.i .i64 1) (r_bin rfl rfl rfl) ?_
    refine O_p (.i .i64 1) (r_mv rfl) ?_
    refine O_nil ?_
    refine C_region ?_
    refine O_p (.i .i64 2) (r_bin rfl rfl rfl) ?_
    refine O_p (.i .i64 2) (r_mv rfl) ?_
    refine O_nil ?_
    refine C_loop ?_
    refine C_seq ?_
    refine C_region ?_
    refine O_p (.b true) (r_bin rfl rfl rfl) ?_
    refine O_nil ?_
    refine C_seq ?_
    refine C_cond (x := true) rfl (fun _ => ?_) (fun h => by cases h)
    refine C_skip ?_
    refine C_seq ?_
    refine C_block ?_
    refine C_seq ?_
    refine C_region ?_
    refine O_p (.i .i64 2) (r_mv rfl) ?_
    refine O_p (.i .i64 2) (r_mv rfl) ?_
    refine O_nil ?_
    refine C_seq ?_
    refine C_region ?_
    refine O_p (.sl da p.d.length dc dg) (r_mv rfl) ?_
    refine O_call (Ev.mono (clone_ev (tab := tabA) (sp := spA) rfl hh1x.ok hdg (hpb _ hh1x.top7.fst) (by first | omega | (simp only [List.length_take, List.length_drop, List.length_append, List.length_cons, List.length_nil, beN_len] <;> omega)) (by first | omega | (simp only [List.length_take, List.length_drop, List.length_append, List.length_cons, List.length_nil, beN_len] <;> omega)) (by first | omega | (simp only [List.length_take, List.length_drop, List.length_append, List.length_cons, List.length_nil, beN_len] <;> omega))) fun v62 H63 hq64 => ?_)
    obtain ⟨hM65, hK66⟩ := hq64
    obtain ⟨qa67, qg68, rfl, hqg69, _⟩ := hM65.own.bs
    have hH71 := Hs.ofMine hh1x hM65 hK66
    have hSq70 := Sq.ofMine hh1x hM65 hK66
    have hH72 := (hH71.top3)
    have hH73 := Hs.unassoc hH72
    refine O_p (.p (some (n1, 5))) (r_fadd' rfl rfl) ?_
    refine O_store (vs := [(.sl qa67 (p.d).length (p.d).length qg68)]) (c' := [(.b p.m), (.i .u8 p.kind), (.i .u16 p.seq), (.i .u32 p.stamp), (.i .u32 p.src), (.sl qa67 (p.d).length (p.d).length qg68)]) rfl (by rfl) hH73.get4 rfl (List.cons_ne_nil _ _) (Nat.le_of_ble_eq_true rfl) rfl fun H74 hW75 => ?_
    have hH76 := hH73.wr4 hW75
    refine O_nil ?_
    refine C_seq ?_
    refine C_draw fun b77 H78 hbase79 hA80 => ?_
    have hH81 := hH76.keep (by have := hA80.1; omega) (fun q _ => hA80.2 q) ((hH76.old).aside hA80).ok
    refine D_l (v := (.i .i64 2)) rfl rfl rfl (r_mv rfl) ?_
    refine D_l (v := (.i .i64 0)) rfl rfl rfl (r_mv rfl) ?_
    refine D_l (v := (.b true)) rfl rfl rfl (r_bin rfl rfl rfl) ?_
    refine D_l (v := (.b true)) rfl rfl rfl (r_mv rfl) ?_
    refine D_gk rfl ?_
    refine D_l (v := (.p (some (F, 0)))) rfl rfl rfl (r_mv rfl) ?_
    refine D_gk rfl ?_
    refine D_l (v := (.p (some (F, 0)))) rfl rfl rfl (r_nilc rfl) ?_
    refine D_gk rfl ?_
    refine D_l (v := (.p (some (F, 0)))) rfl rfl rfl (r_fadd' rfl rfl) ?_
    refine D_gk rfl ?_
    refine D_l (v := (.i .i64 2)) rfl rfl rfl (r_mv rfl) ?_
    refine D_gk rfl ?_
    refine D_l (v := (.i .i64 0)) rfl rfl rfl (r_mv rfl) ?_
    refine D_gk rfl ?_
    refine D_l (v := (.p (some (F, 0)))) rfl rfl rfl (r_mv rfl) ?_
    refine D_gk rfl ?_
    refine D_l (v := (.p (some (F, 0)))) rfl rfl rfl (r_nilc rfl) ?_
    refine D_gk rfl ?_
    refine D_l (v := (.p (some (F, 1)))) rfl rfl rfl (r_fadd' rfl rfl) ?_
    refine D_gk rfl ?_
    refine D_r (v := (.sl (some (Lb, 0)) 3 3 0)) rfl rfl rfl (r_ld rfl hH81.get3 rfl) ?_
    refine D_gk rfl ?_
    refine D_l (v := (.p (some (Lb, (2 * 67 + 0))))) rfl rfl rfl (by exact (r_islr (b := Lb) (k := 2) (len := 3) (cap := 3) (g := 0) rfl rfl (by decide))) ?_
    refine D_gk rfl ?_
    refine D_r (v := (.agg [(.b p.m), (.i .u8 p.kind), (.i .u16 p.seq), (.i .u32 p.stamp), (.i .u32 p.src), (.sl qa67 (p.d).length (p.d).length qg68)])) rfl rfl rfl (r_ldA rfl hH81.get4 rfl) ?_
    refine D_gk rfl ?_
    refine D_r (v := (.i .i64 ((room : Nat) : Int))) rfl rfl rfl (r_ld rfl hH81.get3 rfl) ?_
    refine D_gk rfl ?_
    have hH82 := ((hH81.top6).top2)
    have hH83 : Hs H78 ([(Lb, some (.cells (((([(lrowS true s0 t0 v0 l0), (lrowS true (handW s1 room w1 l1 1 p).1 t1 v1x (handW s1 room w1 l1 1 p).2.2.1), (lrowS true s2 t2 v2 l2)] : List (List AV))).set 2 (lrowS true s2 t2 v2 l2)).flatten) true))] ++ ((qseg v2 c2) ++ ((((D ++ (qseg (.sl qa20 (p.d).length (p.d).length qg21) (bcells p.d))) ++ (qseg (.sl qa40 (p.d).length (p.d).length qg41) (bcells p.d))) ++ (qseg (.sl qa67 (p.d).length (p.d).length qg68) (bcells p.d))) ++ ((qseg v1x c1x) ++ ([(F, some (.cells ([(.sl (some (Lb, 0)) 3 3 0), (.i .i64 ((room : Nat) : Int))]) true))] ++ ([(n1, some (.cells ([(.b p.m), (.i .u8 p.kind), (.i .u16 p.seq), (.i .u32 p.stamp), (.i .u32 p.src), (.sl qa67 (p.d).length (p.d).length qg68)]) true))] ++ ((qseg v0 c0) ++ (B ++ (R))))))))) := hH82
    have hH84 := ((hH83.top1).top1)
    refine D_call (Ev.mono (hand0_ev (i := 2) (rws := ([(lrowS true s0 t0 v0 l0), (lrowS true (handW s1 room w1 l1 1 p).1 t1 v1x (handW s1 room w1 l1 1 p).2.2.1), (lrowS true s2 t2 v2 l2)] : List (List AV))) (D := (((D ++ (qseg (.sl qa20 (p.d).length (p.d).length qg21) (bcells p.d))) ++ (qseg (.sl qa40 (p.d).length (p.d).length qg41) (bcells p.d))) ++ (qseg (.sl qa67 (p.d).length (p.d).length qg68) (bcells p.d)))) (p := p) hall1 (Nat.le_of_ble_eq_true rfl) hsq2 (hpr2.mono (fun _ hh => hh.fst.fst.fst)) ⟨_, _, _, rfl, hqg69, Nat.le_refl _, by omega, fun _ hh => Sq.bs (R := []) hSq70 (by rw [List.append_nil]; exact hh.sub)⟩ hroom64 hlost2 hH84) fun v85 H86 hq87 => ?_)
    obtain ⟨v2x, c2x, rows2x, rfl, hsq2x, hpr2x, hh2x⟩ := hq87
    have hall2 : ∀ x ∈ ([(lrowS true s0 t0 v0 l0), (lrowS true (handW s1 room w1 l1 1 p).1 t1 v1x (handW s1 room w1 l1 1 p).2.2.1), (lrowS true (handW s2 room w2 l2 1 p).1 t2 v2x (handW s2 room w2 l2 1 p).2.2.1)] : List (List AV)), x.length = 67 := fun x hx => by simp only [List.mem_cons, List.not_mem_nil, or_false] at hx; rcases hx with rfl | rfl | rfl <;> rfl
    refine And.intro (And.intro (Or.inl rfl) (And.intro (Or.inl rfl) (And.intro (Or.inl rfl) True.intro))) ?_
    refine D_l (v := (.b (handW s2 room w2 l2 1 p).2.2.2)) rfl rfl rfl (r_pick_t rfl rfl) ?_
    refine D_nil ?_
    refine C_cond (x := (handW s2 room w2 l2 1 p).2.2.2) rfl (fun hc88 => ?_) (fun hc88 => ?_)
    ·
      try simp only [decide_eq_true_eq, decide_eq_false_iff_not, Bool.not_eq_true', Bool.not_eq_false', Bool.and_eq_true, Bool.or_eq_true, Bool.or_eq_false_iff, Bool.not_not, Bool.and_eq_false_iff] at hc88
      refine C_region ?_
      refine O_p (.i .i64 1) (r_mv rfl) ?_
      refine O_p (.i .i64 2) (r_bin rfl rfl rfl) ?_
      refine O_p (.i .i64 2) (r_mv rfl) ?_
      refine O_nil ?_
      refine C_region ?_
      refine O_p (.i .i64 3) (r_bin rfl rfl rfl) ?_
      refine O_p (.i .i64 3) (r_mv rfl) ?_
      refine O_nil ?_
      refine C_loop ?_
      refine C_seq ?_
      refine C_region ?_
      refine O_p (.b false) (r_bin rfl rfl rfl) ?_
      refine O_nil ?_
      refine C_seq ?_
      refine C_cond (x := false) rfl (fun h => by cases h) (fun _ => ?_)
      refine C_exit ?_
      refine nx_exit ?_
      refine nx_exit ?_
      refine bk_hit ?_
      refine C_seq ?_
      refine C_region ?_
      refine O_p (.i .i64 2) (r_mv rfl) ?_
      refine O_p (.i .i64 2) (r_mv rfl) ?_
      refine O_p (.i .i64 0) (r_mv rfl) ?_
      refine O_nil ?_
      refine C_ret ?_
      have hH89 := (hh2x.sub5)
      have hH90 := (((((((hH89.top6).top3).top3).top4).top6).top5).top6)
      have hH91 : Hs H86 ([(F, some (.cells ([(.sl (some (Lb, 0)) 3 3 0), (.i .i64 ((room : Nat) : Int))]) true))] ++ ([(Lb, some (.cells ((([(lrowS true s0 t0 v0 l0), (lrowS true (handW s1 room w1 l1 1 p).1 t1 v1x (handW s1 room w1 l1 1 p).2.2.1), (lrowS true (handW s2 room w2 l2 1 p).1 t2 v2x (handW s2 room w2 l2 1 p).2.2.1)] : List (List AV))).flatten) true))] ++ ((qseg v0 c0) ++ ((qseg v1x c1x) ++ ((qseg v2x c2x) ++ ((((D ++ (qseg (.sl qa20 (p.d).length (p.d).length qg21) (bcells p.d))) ++ (qseg (.sl qa40 (p.d).length (p.d).length qg41) (bcells p.d))) ++ (qseg (.sl qa67 (p.d).length (p.d).length qg68) (bcells p.d))) ++ (B ++ (R)))))))) := hH90
      exact ⟨.inr rfl, _, resL_cons (r_tmp (v := (.i .i64 2)) rfl) (resL_one (r_tmp (v := .i .i64 0) rfl)), _, (((D ++ (qseg (.sl qa20 (p.d).length (p.d).length qg21) (bcells p.d))) ++ (qseg (.sl qa40 (p.d).length (p.d).length qg41) (bcells p.d))) ++ (qseg (.sl qa67 (p.d).length (p.d).length qg68) (bcells p.d))), v1x, c1x, rows1x, v2x, c2x, rows2x, rfl, (fun _ hh => hh.fst.fst.fst), hsq1x, hpr1x.mono (fun _ hh => hh.fst), hsq2x, hpr2x.mono (fun _ hh => hh), hH91⟩
    ·
      try simp only [decide_eq_true_eq, decide_eq_false_iff_not, Bool.not_eq_true', Bool.not_eq_false', Bool.and_eq_true, Bool.or_eq_true, Bool.or_eq_false_iff, Bool.not_not, Bool.and_eq_false_iff] at hc88
      refine C_skip ?_
      refine C_region ?_
      refine O_p (.i .i64 3) (r_bin rfl rfl rfl) ?_
      refine O_p (.i .i64 3) (r_mv rfl) ?_
      refine O_nil ?_
      refine C_loop ?_
      refine C_seq ?_
      refine C_region ?_
      refine O_p (.b false) (r_bin rfl rfl rfl) ?_
      refine O_nil ?_
      refine C_seq ?_
      refine C_cond (x := false) rfl (fun h => by cases h) (fun _ => ?_)
      refine C_exit ?_
      refine nx_exit ?_
      refine nx_exit ?_
      refine bk_hit ?_
      refine C_seq ?_
      refine C_region ?_
      refine O_p (.i .i64 1) (r_mv rfl) ?_
      refine O_p (.i .i64 1) (r_mv rfl) ?_
      refine O_p (.i .i64 0) (r_mv rfl) ?_
      refine O_nil ?_
      refine C_ret ?_
      have hH92 := (hh2x.sub5)
      have hH93 := (((((((hH92.top6).top3).top3).top4).top6).top5).top6)
      have hH94 : Hs H86 ([(F, some (.cells ([(.sl (some (Lb, 0)) 3 3 0), (.i .i64 ((room : Nat) : Int))]) true))] ++ ([(Lb, some (.cells ((([(lrowS true s0 t0 v0 l0), (lrowS true (handW s1 room w1 l1 1 p).1 t1 v1x (handW s1 room w1 l1 1 p).2.2.1), (lrowS true (handW s2 room w2 l2 1 p).1 t2 v2x (handW s2 room w2 l2 1 p).2.2.1)] : List (List AV))).flatten) true))] ++ ((qseg v0 c0) ++ ((qseg v1x c1x) ++ ((qseg v2x c2x) ++ ((((D ++ (qseg (.sl qa20 (p.d).length (p.d).length qg21) (bcells p.d))) ++ (qseg (.sl qa40 (p.d).length (p.d).length qg41) (bcells p.d))) ++ (qseg (.sl qa67 (p.d).length (p.d).length qg68) (bcells p.d))) ++ (B ++ (R)))))))) := hH93
      exact ⟨.inr rfl, _, resL_cons (r_tmp (v := (.i .i64 1)) rfl) (resL_one (r_tmp (v := .i .i64 0) rfl)), _, (((D ++ (qseg (.sl qa20 (p.d).length (p.d).length qg21) (bcells p.d))) ++ (qseg (.sl qa40 (p.d).length (p.d).length qg41) (bcells p.d))) ++ (qseg (.sl qa67 (p.d).length (p.d).length qg68) (bcells p.d))), v1x, c1x, rows1x, v2x, c2x, rows2x, rfl, (fun _ hh => hh.fst.fst.fst), hsq1x, hpr1x.mono (fun _ hh => hh.fst), hsq2x, hpr2x.mono (fun _ hh => hh), hH94⟩
  ·
    try simp only [decide_eq_true_eq, decide_eq_false_iff_not, Bool.not_eq_true', Bool.not_eq_false', Bool.and_eq_true, Bool.or_eq_true, Bool.or_eq_false_iff, Bool.not_not, Bool.and_eq_false_iff] at hc61
    refine C_skip ?_
    refine C_region ?_
    refine O_p (.i .i64 2) (r_bin rfl rfl rfl) ?_
    refine O_p (.i .i64 2) (r_mv rfl) ?_
    refine O_nil ?_
    refine C_loop ?_
    refine C_seq ?_
    refine C_region ?_
    refine O_p (.b true) (r_bin rfl rfl rfl) ?_
    refine O_nil ?_
    refine C_seq ?_
    refine C_cond (x := true) rfl (fun _ => ?_) (fun h => by cases h)
    refine C_skip ?_
    refine C_seq ?_
    refine C_block ?_
    refine C_seq ?_
    refine C_region ?_
    refine O_p (.i .i64 2) (r_mv rfl) ?_
    refine O_p (.i .i64 2) (r_mv rfl) ?_
    refine O_nil ?_
    refine C_seq ?_
    refine C_region ?_
    refine O_p (.sl da p.d.length dc dg) (r_mv rfl) ?_
    refine O_call (Ev.mono (clone_ev (tab := tabA) (sp := spA) rfl hh1x.ok hdg (hpb _ hh1x.top7.fst) (by first | omega | (simp only [List.length_take, List.length_drop, List.length_append, List.length_cons, List.length_nil, beN_len] <;> omega)) (by first | omega | (simp only [List.length_take, List.length_drop, List.length_append, List.length_cons, List.length_nil, beN_len] <;> omega)) (by first | omega | (simp only [List.length_take, List.length_drop, List.length_append, List.length_cons, List.length_nil, beN_len] <;> omega))) fun v95 H96 hq97 => ?_)
    obtain ⟨hM98, hK99⟩ := hq97
    obtain ⟨qa100, qg101, rfl, hqg102, _⟩ := hM98.own.bs
    have hH104 := Hs.ofMine hh1x hM98 hK99
    have hSq103 := Sq.ofMine hh1x hM98 hK99
    have hH105 := (hH104.top3)
    have hH106 := Hs.unassoc hH105
    refine O_p (.p (some (n1, 5))) (r_fadd' rfl rfl) ?_
    refine O_store (vs := [(.sl qa100 (p.d).length (p.d).length qg101)]) (c' := [(.b p.m), (.i .u8 p.kind), (.i .u16 p.seq), (.i .u32 p.stamp), (.i .u32 p.src), (.sl qa100 (p.d).length (p.d).length qg101)]) rfl (by rfl) hH106.get4 rfl (List.cons_ne_nil _ _) (Nat.le_of_ble_eq_true rfl) rfl fun H107 hW108 => ?_
    have hH109 := hH106.wr4 hW108
    refine O_nil ?_
    refine C_seq ?_
    refine C_draw fun b110 H111 hbase112 hA113 => ?_
    have hH114 := hH109.keep (by have := hA113.1; omega) (fun q _ => hA113.2 q) ((hH109.old).aside hA113).ok
    refine D_l (v := (.i .i64 2)) rfl rfl rfl (r_mv rfl) ?_
    refine D_l (v := (.i .i64 0)) rfl rfl rfl (r_mv rfl) ?_
    refine D_l (v := (.b true)) rfl rfl rfl (r_bin rfl rfl rfl) ?_
    refine D_l (v := (.b true)) rfl rfl rfl (r_mv rfl) ?_
    refine D_gk rfl ?_
    refine D_l (v := (.p (some (F, 0)))) rfl rfl rfl (r_mv rfl) ?_
    refine D_gk rfl ?_
    refine D_l (v := (.p (some (F, 0)))) rfl rfl rfl (r_nilc rfl) ?_
    refine D_gk rfl ?_
    refine D_l (v := (.p (some (F, 0)))) rfl rfl rfl (r_fadd' rfl rfl) ?_
    refine D_gk rfl ?_
    refine D_l (v := (.i .i64 2)) rfl rfl rfl (r_mv rfl) ?_
    refine D_gk rfl ?_
    refine D_l (v := (.i .i64 0)) rfl rfl rfl (r_mv rfl) ?_
    refine D_gk rfl ?_
    refine D_l (v := (.p (some (F, 0)))) rfl rfl rfl (r_mv rfl) ?_
    refine D_gk rfl ?_
    refine D_l (v := (.p (some (F, 0)))) rfl rfl rfl (r_nilc rfl) ?_
    refine D_gk rfl ?_
    refine D_l (v := (.p (some (F, 1)))) rfl rfl rfl (r_fadd' rfl rfl) ?_
    refine D_gk rfl ?_
    refine D_r (v := (.sl (some (Lb, 0)) 3 3 0)) rfl rfl rfl (r_ld rfl hH114.get3 rfl) ?_
    refine D_gk rfl ?_
    refine D_l (v := (.p (some (Lb, (2 * 67 + 0))))) rfl rfl rfl (by exact (r_islr (b := Lb) (k := 2) (len := 3) (cap := 3) (g := 0) rfl rfl (by decide))) ?_
    refine D_gk rfl ?_
    refine D_r (v := (.agg [(.b p.m), (.i .u8 p.kind), (.i .u16 p.seq), (.i .u32 p.stamp), (.i .u32 p.src), (.sl qa100 (p.d).length (p.d).length qg101)])) rfl rfl rfl (r_ldA rfl hH114.get4 rfl) ?_
    refine D_gk rfl ?_
    refine D_r (v := (.i .i64 ((room : Nat) : Int))) rfl rfl rfl (r_ld rfl hH114.get3 rfl) ?_
    refine D_gk rfl ?_
    have hH115 := ((hH114.top6).top2)
    have hH116 : Hs H111 ([(Lb, some (.cells (((([(lrowS true s0 t0 v0 l0), (lrowS true (handW s1 room w1 l1 1 p).1 t1 v1x (handW s1 room w1 l1 1 p).2.2.1), (lrowS true s2 t2 v2 l2)] : List (List AV))).set 2 (lrowS true s2 t2 v2 l2)).flatten) true))] ++ ((qseg v2 c2) ++ ((((D ++ (qseg (.sl qa20 (p.d).length (p.d).length qg21) (bcells p.d))) ++ (qseg (.sl qa40 (p.d).length (p.d).length qg41) (bcells p.d))) ++ (qseg (.sl qa100 (p.d).length (p.d).length qg101) (bcells p.d))) ++ ((qseg v1x c1x) ++ ([(F, some (.cells ([(.sl (some (Lb, 0)) 3 3 0), (.i .i64 ((room : Nat) : Int))]) true))] ++ ([(n1, some (.cells ([(.b p.m), (.i .u8 p.kind), (.i .u16 p.seq), (.i .u32 p.stamp), (.i .u32 p.src), (.sl qa100 (p.d).length (p.d).length qg101)]) true))] ++ ((qseg v0 c0) ++ (B ++ (R))))))))) := hH115
    have hH117 := ((hH116.top1).top1)
    refine D_call (Ev.mono (hand0_ev (i := 2) (rws := ([(lrowS true s0 t0 v0 l0), (lrowS true (handW s1 room w1 l1 1 p).1 t1 v1x (handW s1 room w1 l1 1 p).2.2.1), (lrowS true s2 t2 v2 l2)] : List (List AV))) (D := (((D ++ (qseg (.sl qa20 (p.d).length (p.d).length qg21) (bcells p.d))) ++ (qseg (.sl qa40 (p.d).length (p.d).length qg41) (bcells p.d))) ++ (qseg (.sl qa100 (p.d).length (p.d).length qg101) (bcells p.d)))) (p := p) hall1 (Nat.le_of_ble_eq_true rfl) hsq2 (hpr2.mono (fun _ hh => hh.fst.fst.fst)) ⟨_, _, _, rfl, hqg102, Nat.le_refl _, by omega, fun _ hh => Sq.bs (R := []) hSq103 (by rw [List.append_nil]; exact hh.sub)⟩ hroom64 hlost2 hH117) fun v118 H119 hq120 => ?_)
    obtain ⟨v2x, c2x, rows2x, rfl, hsq2x, hpr2x, hh2x⟩ := hq120
    have hall2 : ∀ x ∈ ([(lrowS true s0 t0 v0 l0), (lrowS true (handW s1 room w1 l1 1 p).1 t1 v1x (handW s1 room w1 l1 1 p).2.2.1), (lrowS true (handW s2 room w2 l2 1 p).1 t2 v2x (handW s2 room w2 l2 1 p).2.2.1)] : List (List AV)), x.length = 67 := fun x hx => by simp only [List.mem_cons, List.not_mem_nil, or_false] at hx; rcases hx with rfl | rfl | rfl <;> rfl
    refine And.intro (And.intro (Or.inl rfl) (And.intro (Or.inl rfl) (And.intro (Or.inl rfl) True.intro))) ?_
    refine D_l (v := (.b (handW s2 room w2 l2 1 p).2.2.2)) rfl rfl rfl (r_pick_t rfl rfl) ?_
    refine D_nil ?_
    refine C_cond (x := (handW s2 room w2 l2 1 p).2.2.2) rfl (fun hc121 => ?_) (fun hc121 => ?_)
    ·
      try simp only [decide_eq_true_eq, decide_eq_false_iff_not, Bool.not_eq_true', Bool.not_eq_false', Bool.and_eq_true, Bool.or_eq_true, Bool.or_eq_false_iff, Bool.not_not, Bool.and_eq_false_iff] at hc121
      refine C_region ?_
      refine O_p (.i .i64 0) (r_mv rfl) ?_
      refine O_p (.i .i64 1) (r_bin rfl rfl rfl) ?_
      refine O_p (.i .i64 1) (r_mv rfl) ?_
      refine O_nil ?_
      refine C_region ?_
      refine O_p (.i .i64 3) (r_bin rfl rfl rfl) ?_
      refine O_p (.i .i64 3) (r_mv rfl) ?_
      refine O_nil ?_
      refine C_loop ?_
      refine C_seq ?_
      refine C_region ?_
      refine O_p (.b false) (r_bin rfl rfl rfl) ?_
      refine O_nil ?_
      refine C_seq ?_
      refine C_cond (x := false) rfl (fun h => by cases h) (fun _ => ?_)
      refine C_exit ?_
      refine nx_exit ?_
      refine nx_exit ?_
      refine bk_hit ?_
      refine C_seq ?_
      refine C_region ?_
      refine O_p (.i .i64 1) (r_mv rfl) ?_
      refine O_p (.i .i64 1) (r_mv rfl) ?_
      refine O_p (.i .i64 0) (r_mv rfl) ?_
      refine O_nil ?_
      refine C_ret ?_
      have hH122 := (hh2x.sub5)
      have hH123 := (((((((hH122.top6).top3).top3).top4).top6).top5).top6)
      have hH124 : Hs H119 ([(F, some (.cells ([(.sl (some (Lb, 0)) 3 3 0), (.i .i64 ((room : Nat) : Int))]) true))] ++ ([(Lb, some (.cells ((([(lrowS true s0 t0 v0 l0), (lrowS true (handW s1 room w1 l1 1 p).1 t1 v1x (handW s1 room w1 l1 1 p).2.2.1), (lrowS true (handW s2 room w2 l2 1 p).1 t2 v2x (handW s2 room w2 l2 1 p).2.2.1)] : List (List AV))).flatten) true))] ++ ((qseg v0 c0) ++ ((qseg v1x c1x) ++ ((qseg v2x c2x) ++ ((((D ++ (qseg (.sl qa20 (p.d).length (p.d).length qg21) (bcells p.d))) ++ (qseg (.sl qa40 (p.d).length (p.d).length qg41) (bcells p.d))) ++ (qseg (.sl qa100 (p.d).length (p.d).length qg101) (bcells p.d))) ++ (B ++ (R)))))))) := hH123
      exact ⟨.inr rfl, _, resL_cons (r_tmp (v := (.i .i64 1)) rfl) (resL_one (r_tmp (v := .i .i64 0) rfl)), _, (((D ++ (qseg (.sl qa20 (p.d).length (p.d).length qg21) (bcells p.d))) ++ (qseg (.sl qa40 (p.d).length (p.d).length qg41) (bcells p.d))) ++ (qseg (.sl qa100 (p.d).length (p.d).length qg101) (bcells p.d))), v1x, c1x, rows1x, v2x, c2x, rows2x, rfl, (fun _ hh => hh.fst.fst.fst), hsq1x, hpr1x.mono (fun _ hh => hh.fst), hsq2x, hpr2x.mono (fun _ hh => hh), hH124⟩
    ·
      try simp only [decide_eq_true_eq, decide_eq_false_iff_not, Bool.not_eq_true', Bool.not_eq_false', Bool.and_eq_true, Bool.or_eq_true, Bool.or_eq_false_iff, Bool.not_not, Bool.and_eq_false_iff] at hc121
      refine C_skip ?_
      refine C_region ?_
      refine O_p (.i .i64 3) (r_bin rfl rfl rfl) ?_
      refine O_p (.i .i64 3) (r_mv rfl) ?_
      refine O_nil ?_
      refine C_loop ?_
      refine C_seq ?_
      refine C_region ?_
      refine O_p (.b false) (r_bin rfl rfl rfl) ?_
      refine O_nil ?_
      refine C_seq ?_
      refine C_cond (x := false) rfl (fun h => by cases h) (fun _ => ?_)
      refine C_exit ?_
      refine nx_exit ?_
      refine nx_exit ?_
      refine bk_hit ?_
      refine C_seq ?_
      refine C_region ?_
      refine O_p (.i .i64 0) (r_mv rfl) ?_
      refine O_p (.i .i64 0) (r_mv rfl) ?_
      refine O_p (.i .i64 0) (r_mv rfl) ?_
      refine O_nil ?_
      refine C_ret ?_
      have hH125 := (hh2x.sub5)
      have hH126 := (((((((hH125.top6).top3).top3).top4).top6).top5).top6)
      have hH127 : Hs H119 ([(F, some (.cells ([(.sl (some (Lb, 0)) 3 3 0), (.i .i64 ((room : Nat) : Int))]) true))] ++ ([(Lb, some (.cells ((([(lrowS true s0 t0 v0 l0), (lrowS true (handW s1 room w1 l1 1 p).1 t1 v1x (handW s1 room w1 l1 1 p).2.2.1), (lrowS true (handW s2 room w2 l2 1 p).1 t2 v2x (handW s2 room w2 l2 1 p).2.2.1)] : List (List AV))).flatten) true))] ++ ((qseg v0 c0) ++ ((qseg v1x c1x) ++ ((qseg v2x c2x) ++ ((((D ++ (qseg (.sl qa20 (p.d).length (p.d).length qg21) (bcells p.d))) ++ (qseg (.sl qa40 (p.d).length (p.d).length qg41) (bcells p.d))) ++ (qseg (.sl qa100 (p.d).length (p.d).length qg101) (bcells p.d))) ++ (B ++ (R)))))))) := hH126
      exact ⟨.inr rfl, _, resL_cons (r_tmp (v := (.i .i64 0)) rfl) (resL_one (r_tmp (v := .i .i64 0) rfl)), _, (((D ++ (qseg (.sl qa20 (p.d).length (p.d).length qg21) (bcells p.d))) ++ (qseg (.sl qa40 (p.d).length (p.d).length qg41) (bcells p.d))) ++ (qseg (.sl qa100 (p.d).length (p.d).length qg101) (bcells p.d))), v1x, c1x, rows1x, v2x, c2x, rows2x, rfl, (fun _ hh => hh.fst.fst.fst), hsq1x, hpr1x.mono (fun _ hh => hh.fst), hsq2x, hpr2x.mono (fun _ hh => hh), hH127⟩
set_option maxHeartbeats 2000000 in
theorem hear31_ev {H : AH} {R D B : HL} {F Lb room : Nat} {p : Pk} {da : Option (Nat × Nat)} {dc dg : Nat} {s0 t0 : Spk} {v0 : AV} {c0 : List AV} {l0 : Int} {s1 t1 : Spk} {v1 : AV} {c1 : List AV} {l1 : Int} {s2 t2 : Spk} {v2 : AV} {c2 : List AV} {l2 : Int} {rows0 : List (List AV)} {w0 : List Pk} {rows2 : List (List AV)} {w2 : List Pk} (hkind : p.kind ≤ 127) (hdl : p.d.length ≤ 1188) (hdg : dg = 0 ∨ dg = 1) (hdc : p.d.length ≤ dc) (hdm : dc ≤ 9223372036854775807) (hpb : ∀ H', Hs H' B → Bs H' (.sl da p.d.length dc dg) p.d) (hsq0 : Sq 6 v0 c0 rows0.flatten) (hpr0 : PksR D rows0 w0) (hlost0 : 0 ≤ l0 ∧ l0 < 4611686018427387904) (hsq2 : Sq 6 v2 c2 rows2.flatten) (hpr2 : PksR D rows2 w2) (hlost2 : 0 ≤ l2 ∧ l2 < 4611686018427387904) (hroom64 : room ≤ 64) (hH0 : Hs H ([(F, some (.cells ([(.sl (some (Lb, 0)) 3 3 0), (.i .i64 ((room : Nat) : Int))]) true))] ++ ([(Lb, some (.cells ((([(lrowS true s0 t0 v0 l0), (lrowS true s1 t1 v1 l1), (lrowS true s2 t2 v2 l2)] : List (List AV))).flatten) true))] ++ ((qseg v0 c0) ++ ((qseg v1 c1) ++ ((qseg v2 c2) ++ (D ++ (B ++ (R))))))))) : Ev tabA spA (.fn (.func 11) [] []) [.p (some (F, 0)), .i .i64 1, .agg [(.b p.m), (.i .u8 p.kind), (.i .u16 p.seq), (.i .u32 p.stamp), (.i .u32 p.src), (.sl da p.d.length dc dg)]] H (fun r H' => ∃ n D' v0x c0x rows0x v2x c2x rows2x, r = .tup [.i .i64 n, .i .i64 0] ∧ (∀ H', Hs H' D' → Hs H' D) ∧ Sq 6 v0x c0x rows0x.flatten ∧ PksR D' rows0x (handW t0 room w0 l0 2 p).2.1 ∧ Sq 6 v2x c2x rows2x.flatten ∧ PksR D' rows2x (handW t2 room w2 l2 2 p).2.1 ∧ Hs H' ([(F, some (.cells ([(.sl (some (Lb, 0)) 3 3 0), (.i .i64 ((room : Nat) : Int))]) true))] ++ ([(Lb, some (.cells ((([(lrowS true s0 (handW t0 room w0 l0 2 p).1 v0x (handW t0 room w0 l0 2 p).2.2.1), (lrowS true s1 t1 v1 l1), (lrowS true s2 (handW t2 room w2 l2 2 p).1 v2x (handW t2 room w2 l2 2 p).2.2.1)] : List (List AV))).flatten) true))] ++ ((qseg v0x c0x) ++ ((qseg v1 c1) ++ ((qseg v2x c2x) ++ (D' ++ (B ++ (R))))))))) := by
  refine Ev_C (F := x11) rfl ?_
  refine C_seq ?_
  refine C_region ?_
  refine O_box (z := [(.b p.m), (.i .u8 p.kind), (.i .u16 p.seq), (.i .u32 p.stamp), (.i .u32 p.src), (.sl da p.d.length dc dg)]) rfl fun n1 H2 hN3 => ?_
  have hH4 := hH0.new hN3
  refine O_p (.i .i64 0) (r_mv rfl) ?_
  refine O_p (.i .i64 0) (r_mv rfl) ?_
  refine O_nil ?_
  refine C_seq ?_
  refine C_region ?_
  refine O_p (.p (some (F, 0))) (r_mv rfl) ?_
  refine O_p (.i .i64 1) (r_mv rfl) ?_
  have hH5 := (hH4.top1)
  refine O_call (Ev.mono (at_ev (k := 1) (np := 3) (by decide) hH5) fun v6 H7 hq8 => ?_)
  obtain ⟨rfl, hH9⟩ := hq8
  refine O_p (.p (some (Lb, (1 * 67 + 0)))) (r_mv rfl) ?_
  refine O_nil ?_
  refine C_seq ?_
  refine C_seq ?_
  refine C_region ?_
  refine O_p (.p (some (Lb, (1 * 67 + 0)))) (r_mv rfl) ?_
  refine O_p (.b false) (r_nilq_s rfl) ?_
  refine O_nil ?_
  refine C_cond (x := false) rfl (fun h => by cases h) (fun _ => ?_)
  refine C_skip ?_
  refine C_seq ?_
  refine C_seq ?_
  refine C_region ?_
  refine O_p (.agg [(.b p.m), (.i .u8 p.kind), (.i .u16 p.seq), (.i .u32 p.stamp), (.i .u32 p.src), (.sl da p.d.length dc dg)]) (r_ldA rfl hH9.get1 rfl) ?_
  refine O_call (Ev.mono (right_ev hkind hdl hH9) fun v10 H11 hq12 => ?_)
  obtain ⟨rfl, hH13⟩ := hq12
  refine O_p (.i .i64 0) (r_mv rfl) ?_
  refine O_nil ?_
  refine C_seq ?_
  refine C_region ?_
  refine O_p (.i .i64 0) (r_mv rfl) ?_
  refine O_p (.b false) (r_bin rfl rfl rfl) ?_
  refine O_nil ?_
  refine C_cond (x := false) rfl (fun h => by cases h) (fun _ => ?_)
  refine C_skip ?_
  refine C_seq ?_
  refine C_seq ?_
  refine C_region ?_
  have hall0 : ∀ x ∈ ([(lrowS true s0 t0 v0 l0), (lrowS true s1 t1 v1 l1), (lrowS true s2 t2 v2 l2)] : List (List AV)), x.length = 67 := fun x hx => by simp only [List.mem_cons, List.not_mem_nil, or_false] at hx; rcases hx with rfl | rfl | rfl <;> rfl
  have hH14 : Hs H11 ([(F, some (.cells ([(.sl (some (Lb, 0)) 3 3 0), (.i .i64 ((room : Nat) : Int))]) true))] ++ ([(n1, some (.cells ([(.b p.m), (.i .u8 p.kind), (.i .u16 p.seq), (.i .u32 p.stamp), (.i .u32 p.src), (.sl da p.d.length dc dg)]) true))] ++ ([(Lb, some (.cells (((([(lrowS true s0 t0 v0 l0), (lrowS true s1 t1 v1 l1), (lrowS true s2 t2 v2 l2)] : List (List AV))).set 1 (lrowS true s1 t1 v1 l1)).flatten) true))] ++ ((qseg v0 c0) ++ ((qseg v1 c1) ++ ((qseg v2 c2) ++ (D ++ (B ++ (R))))))))) := hH13
  refine O_p (.p (some (Lb, (1 * 67 + 0)))) (r_mv rfl) ?_
  refine O_p (.p (some (Lb, (1 * 67 + 0)))) (r_nilc rfl) ?_
  refine O_p (.p (some (Lb, (1 * 67 + 0)))) (r_fadd' rfl rfl) ?_
  refine O_p (.b true) (by exact (r_ld rfl hH14.get2 ((foc_get (hall0) (Nat.le_of_ble_eq_true rfl) rfl (by decide)).trans rfl))) ?_
  refine O_p (.b false) (r_un rfl rfl) ?_
  refine O_nil ?_
  refine C_cond (x := false) rfl (fun h => by cases h) (fun _ => ?_)
  refine C_skip ?_
  refine C_seq ?_
  refine C_region ?_
  refine O_p (.i .i64 0) (r_mv rfl) ?_
  refine O_nil ?_
  refine C_seq ?_
  refine C_region ?_
  refine O_p (.p (some (n1, 5))) (r_fadd' rfl rfl) ?_
  refine O_p (.sl da p.d.length dc dg) (r_ld rfl hH14.get1 rfl) ?_
  refine O_p (.sl da p.d.length dc dg) (r_mv rfl) ?_
  refine O_nil ?_
  refine C_seq ?_
  refine C_seq ?_
  refine C_region ?_
  refine O_p (.p (some (F, 0))) (r_mv rfl) ?_
  refine O_p (.p (some (F, 0))) (r_nilc rfl) ?_
  refine O_p (.p (some (F, 0))) (r_fadd' rfl rfl) ?_
  refine O_p (.sl (some (Lb, 0)) 3 3 0) (r_ld rfl hH14.get0 rfl) ?_
  refine O_p (.i .i64 3) (r_len rfl) ?_
  refine O_p (.i .i64 0) (r_mv rfl) ?_
  refine O_nil ?_
  refine C_block ?_
  refine C_loop ?_
  refine C_seq ?_
  refine C_region ?_
  refine O_p (.b true) (r_bin rfl rfl rfl) ?_
  refine O_nil ?_
  refine C_seq ?_
  refine C_cond (x := true) rfl (fun _ => ?_) (fun h => by cases h)
  refine C_skip ?_
  refine C_seq ?_
  refine C_block ?_
  refine C_seq ?_
  refine C_region ?_
  refine O_p (.i .i64 0) (r_mv rfl) ?_
  refine O_p (.i .i64 0) (r_mv rfl) ?_
  refine O_nil ?_
  refine C_seq ?_
  refine C_region ?_
  refine O_p (.sl da p.d.length dc dg) (r_mv rfl) ?_
  refine O_call (Ev.mono (clone_ev (tab := tabA) (sp := spA) rfl hH14.ok hdg (hpb _ hH14.top7.fst) (by first | omega | (simp only [List.length_take, List.length_drop, List.length_append, List.length_cons, List.length_nil, beN_len] <;> omega)) (by first | omega | (simp only [List.length_take, List.length_drop, List.length_append, List.length_cons, List.length_nil, beN_len] <;> omega)) (by first | omega | (simp only [List.length_take, List.length_drop, List.length_append, List.length_cons, List.length_nil, beN_len] <;> omega))) fun v15 H16 hq17 => ?_)
  obtain ⟨hM18, hK19⟩ := hq17
  obtain ⟨qa20, qg21, rfl, hqg22, _⟩ := hM18.own.bs
  have hH24 := Hs.ofMine hH14 hM18 hK19
  have hSq23 := Sq.ofMine hH14 hM18 hK19
  have hH25 := (hH24.top7)
  have hH26 := Hs.unassoc hH25
  refine O_p (.p (some (n1, 5))) (r_fadd' rfl rfl) ?_
  refine O_store (vs := [(.sl qa20 (p.d).length (p.d).length qg21)]) (c' := [(.b p.m), (.i .u8 p.kind), (.i .u16 p.seq), (.i .u32 p.stamp), (.i .u32 p.src), (.sl qa20 (p.d).length (p.d).length qg21)]) rfl (by rfl) hH26.get2 rfl (List.cons_ne_nil _ _) (Nat.le_of_ble_eq_true rfl) rfl fun H27 hW28 => ?_
  have hH29 := hH26.wr2 hW28
  refine O_nil ?_
  refine C_seq ?_
  refine C_draw fun b30 H31 hbase32 hA33 => ?_
  have hH34 := hH29.keep (by have := hA33.1; omega) (fun q _ => hA33.2 q) ((hH29.old).aside hA33).ok
  refine D_l (v := (.i .i64 0)) rfl rfl rfl (r_mv rfl) ?_
  refine D_l (v := (.i .i64 1)) rfl rfl rfl (r_mv rfl) ?_
  refine D_l (v := (.b true)) rfl rfl rfl (r_bin rfl rfl rfl) ?_
  refine D_l (v := (.b true)) rfl rfl rfl (r_mv rfl) ?_
  refine D_gk rfl ?_
  refine D_l (v := (.p (some (F, 0)))) rfl rfl rfl (r_mv rfl) ?_
  refine D_gk rfl ?_
  refine D_l (v := (.p (some (F, 0)))) rfl rfl rfl (r_nilc rfl) ?_
  refine D_gk rfl ?_
  refine D_l (v := (.p (some (F, 0)))) rfl rfl rfl (r_fadd' rfl rfl) ?_
  refine D_gk rfl ?_
  refine D_l (v := (.i .i64 0)) rfl rfl rfl (r_mv rfl) ?_
  refine D_gk rfl ?_
  refine D_l (v := (.i .i64 1)) rfl rfl rfl (r_mv rfl) ?_
  refine D_gk rfl ?_
  refine D_l (v := (.p (some (F, 0)))) rfl rfl rfl (r_mv rfl) ?_
  refine D_gk rfl ?_
  refine D_l (v := (.p (some (F, 0)))) rfl rfl rfl (r_nilc rfl) ?_
  refine D_gk rfl ?_
  refine D_l (v := (.p (some (F, 1)))) rfl rfl rfl (r_fadd' rfl rfl) ?_
  refine D_gk rfl ?_
  refine D_r (v := (.sl (some (Lb, 0)) 3 3 0)) rfl rfl rfl (r_ld rfl hH34.get1 rfl) ?_
  refine D_gk rfl ?_
  refine D_l (v := (.p (some (Lb, (0 * 67 + 0))))) rfl rfl rfl (by exact (r_islr (b := Lb) (k := 0) (len := 3) (cap := 3) (g := 0) rfl rfl (by decide))) ?_
  refine D_gk rfl ?_
  refine D_r (v := (.agg [(.b p.m), (.i .u8 p.kind), (.i .u16 p.seq), (.i .u32 p.stamp), (.i .u32 p.src), (.sl qa20 (p.d).length (p.d).length qg21)])) rfl rfl rfl (r_ldA rfl hH34.get2 rfl) ?_
  refine D_gk rfl ?_
  refine D_r (v := (.i .i64 ((room : Nat) : Int))) rfl rfl rfl (r_ld rfl hH34.get1 rfl) ?_
  refine D_gk rfl ?_
  have hH35 := ((hH34.top4).top4)
  have hH36 : Hs H31 ([(Lb, some (.cells (((([(lrowS true s0 t0 v0 l0), (lrowS true s1 t1 v1 l1), (lrowS true s2 t2 v2 l2)] : List (List AV))).set 0 (lrowS true s0 t0 v0 l0)).flatten) true))] ++ ((qseg v0 c0) ++ ((D ++ (qseg (.sl qa20 (p.d).length (p.d).length qg21) (bcells p.d))) ++ ([(F, some (.cells ([(.sl (some (Lb, 0)) 3 3 0), (.i .i64 ((room : Nat) : Int))]) true))] ++ ([(n1, some (.cells ([(.b p.m), (.i .u8 p.kind), (.i .u16 p.seq), (.i .u32 p.stamp), (.i .u32 p.src), (.sl qa20 (p.d).length (p.d).length qg21)]) true))] ++ ((qseg v1 c1) ++ ((qseg v2 c2) ++ (B ++ (R))))))))) := hH35
  have hH37 := ((hH36.top1).top1)
  refine D_call (Ev.mono (hand1_ev (i := 0) (rws := ([(lrowS true s0 t0 v0 l0), (lrowS true s1 t1 v1 l1), (lrowS true s2 t2 v2 l2)] : List (List AV))) (D := (D ++ (qseg (.sl qa20 (p.d).length (p.d).length qg21) (bcells p.d)))) (p := p) hall0 (Nat.le_of_ble_eq_true rfl) hsq0 (hpr0.mono (fun _ hh => hh.fst)) ⟨_, _, _, rfl, hqg22, Nat.le_refl _, by omega, fun _ hh => Sq.bs (R := []) hSq23 (by rw [List.append_nil]; exact hh.sub)⟩ hroom64 hlost0 hH37) fun v38 H39 hq40 => ?_)
  obtain ⟨v0x, c0x, rows0x, rfl, hsq0x, hpr0x, hh0x⟩ := hq40
  have hall1 : ∀ x ∈ ([(lrowS true s0 (handW t0 room w0 l0 2 p).1 v0x (handW t0 room w0 l0 2 p).2.2.1), (lrowS true s1 t1 v1 l1), (lrowS true s2 t2 v2 l2)] : List (List AV)), x.length = 67 := fun x hx => by simp only [List.mem_cons, List.not_mem_nil, or_false] at hx; rcases hx with rfl | rfl | rfl <;> rfl
  refine And.intro (And.intro (Or.inl rfl) (And.intro (Or.inl rfl) (And.intro (Or.inl rfl) True.intro))) ?_
  refine D_l (v := (.b (handW t0 room w0 l0 2 p).2.2.2)) rfl rfl rfl (r_pick_t rfl rfl) ?_
  refine D_nil ?_
  refine C_cond (x := (handW t0 room w0 l0 2 p).2.2.2) rfl (fun hc41 => ?_) (fun hc41 => ?_)
  ·
    try simp only [decide_eq_true_eq, decide_eq_false_iff_not, Bool.not_eq_true', Bool.not_eq_false', Bool.and_eq_true, Bool.or_eq_true, Bool.or_eq_false_iff, Bool.not_not, Bool.and_eq_false_iff] at hc41
    refine C_region ?_
    refine O_p (.i .i64 0) (r_mv rfl) ?_
    refine O_p (.i .i64 1) (r_bin rfl rfl rfl) ?_
    refine O_p (.i .i64 1) (r_mv rfl) ?_
    refine O_nil ?_
    refine C_region ?_
    refine O_p (.i .i64 1) (r_bin rfl rfl rfl) ?_
    refine O_p (.i .i64 1) (r_mv rfl) ?_
    refine O_nil ?_
    refine C_loop ?_
    refine C_seq ?_
    refine C_region ?_
    refine O_p (.b true) (r_bin rfl rfl rfl) ?_
    refine O_nil ?_
    refine C_seq ?_
    refine C_cond (x := true) rfl (fun _ => ?_) (fun h => by cases h)
    refine C_skip ?_
    refine C_seq ?_
    refine C_block ?_
    refine C_seq ?_
    refine C_region ?_
    refine O_p (.i .i64 1) (r_mv rfl) ?_
    refine O_p (.i .i64 1) (r_mv rfl) ?_
    refine O_nil ?_
    refine C_seq ?_
    refine C_region ?_
    refine O_p (.sl da p.d.length dc dg) (r_mv rfl) ?_
    refine O_call (Ev.mono (clone_ev (tab := tabA) (sp := spA) rfl hh0x.ok hdg (hpb _ hh0x.top7.fst) (by first | omega | (simp only [List.length_take, List.length_drop, List.length_append, List.length_cons, List.length_nil, beN_len] <;> omega)) (by first | omega | (simp only [List.length_take, List.length_drop, List.length_append, List.length_cons, List.length_nil, beN_len] <;> omega)) (by first | omega | (simp only [List.length_take, List.length_drop, List.length_append, List.length_cons, List.length_nil, beN_len] <;> omega))) fun v42 H43 hq44 => ?_)
    obtain ⟨hM45, hK46⟩ := hq44
    obtain ⟨qa47, qg48, rfl, hqg49, _⟩ := hM45.own.bs
    have hH51 := Hs.ofMine hh0x hM45 hK46
    have hSq50 := Sq.ofMine hh0x hM45 hK46
    have hH52 := (hH51.top3)
    have hH53 := Hs.unassoc hH52
    refine O_p (.p (some (n1, 5))) (r_fadd' rfl rfl) ?_
    refine O_store (vs := [(.sl qa47 (p.d).length (p.d).length qg48)]) (c' := [(.b p.m), (.i .u8 p.kind), (.i .u16 p.seq), (.i .u32 p.stamp), (.i .u32 p.src), (.sl qa47 (p.d).length (p.d).length qg48)]) rfl (by rfl) hH53.get4 rfl (List.cons_ne_nil _ _) (Nat.le_of_ble_eq_true rfl) rfl fun H54 hW55 => ?_
    have hH56 := hH53.wr4 hW55
    refine O_nil ?_
    refine C_seq ?_
    refine C_draw fun b57 H58 hbase59 hA60 => ?_
    have hH61 := hH56.keep (by have := hA60.1; omega) (fun q _ => hA60.2 q) ((hH56.old).aside hA60).ok
    refine D_l (v := (.i .i64 1)) rfl rfl rfl (r_mv rfl) ?_
    refine D_l (v := (.i .i64 1)) rfl rfl rfl (r_mv rfl) ?_
    refine D_l (v := (.b false)) rfl rfl rfl (r_bin rfl rfl rfl) ?_
    refine D_l (v := (.b false)) rfl rfl rfl (r_mv rfl) ?_
    refine D_gf rfl ?_
    refine D_gf rfl ?_
    refine D_gf rfl ?_
    refine D_gf rfl ?_
    refine D_gf rfl ?_
    refine D_gf rfl ?_
    refine D_gf rfl ?_
    refine D_gf rfl ?_
    refine D_gf rfl ?_
    refine D_gf rfl ?_
    refine D_gf rfl ?_
    refine D_gf rfl ?_
    refine D_gf rfl ?_
    refine D_l (v := (.b false)) rfl rfl rfl (r_pick_f rfl rfl) ?_
    refine D_nil ?_
    refine C_cond (x := false) rfl (fun h => by cases h) (fun _ => ?_)
    refine C_skip ?_
    refine C_region ?_
    refine O_p (.i .i64 2) (r_bin rfl rfl rfl) ?_
    refine O_p (.i .i64 2) (r_mv rfl) ?_
    refine O_nil ?_
    refine C_loop ?_
    refine C_seq ?_
    refine C_region ?_
    refine O_p (.b true) (r_bin rfl rfl rfl) ?_
    refine O_nil ?_
    refine C_seq ?_
    refine C_cond (x := true) rfl (fun _ => ?_) (fun h => by cases h)
    refine C_skip ?_
    refine C_seq ?_
    refine C_block ?_
    refine C_seq ?_
    refine C_region ?_
    refine O_p (.i .i64 2) (r_mv rfl) ?_
    refine O_p (.i .i64 2) (r_mv rfl) ?_
    refine O_nil ?_
    refine C_seq ?_
    refine C_region ?_
    refine O_p (.sl da p.d.length dc dg) (r_mv rfl) ?_
    refine O_call (Ev.mono (clone_ev (tab := tabA) (sp := spA) rfl hH61.ok hdg (hpb _ hH61.top7.fst) (by first | omega | (simp only [List.length_take, List.length_drop, List.length_append, List.length_cons, List.length_nil, beN_len] <;> omega)) (by first | omega | (simp only [List.length_take, List.length_drop, List.length_append, List.length_cons, List.length_nil, beN_len] <;> omega)) (by first | omega | (simp only [List.length_take, List.length_drop, List.length_append, List.length_cons, List.length_nil, beN_len] <;> omega))) fun v62 H63 hq64 => ?_)
    obtain ⟨hM65, hK66⟩ := hq64
    obtain ⟨qa67, qg68, rfl, hqg69, _⟩ := hM65.own.bs
    have hH71 := Hs.ofMine hH61 hM65 hK66
    have hSq70 := Sq.ofMine hH61 hM65 hK66
    have hH72 := (hH71.top1)
    have hH73 := Hs.unassoc hH72
    refine O_p (.p (some (n1, 5))) (r_fadd' rfl rfl) ?_
    refine O_store (vs := [(.sl qa67 (p.d).length (p.d).length qg68)]) (c' := [(.b p.m), (.i .u8 p.kind), (.i .u16 p.seq), (.i .u32 p.stamp), (.i .u32 p.src), (.sl qa67 (p.d).length (p.d).length qg68)]) rfl (by rfl) hH73.get4 rfl (List.cons_ne_nil _ _) (Nat.le_of_ble_eq_true rfl) rfl fun H74 hW75 => ?_
    have hH76 := hH73.wr4 hW75
    refine O_nil ?_
    refine C_seq ?_
    refine C_draw fun b77 H78 hbase79 hA80 => ?_
    have hH81 := hH76.keep (by have := hA80.1; omega) (fun q _ => hA80.2 q) ((hH76.old).aside hA80).ok
    refine D_l (v := (.i .i64 2)) rfl rfl rfl (r_mv rfl) ?_
    refine D_l (v := (.i .i64 1)) rfl rfl rfl (r_mv rfl) ?_
    refine D_l (v := (.b true)) rfl rfl rfl (r_bin rfl rfl rfl) ?_
    refine D_l (v := (.b true)) rfl rfl rfl (r_mv rfl) ?_
    refine D_gk rfl ?_
    refine D_l (v := (.p (some (F, 0)))) rfl rfl rfl (r_mv rfl) ?_
    refine D_gk rfl ?_
    refine D_l (v := (.p (some (F, 0)))) rfl rfl rfl (r_nilc rfl) ?_
    refine D_gk rfl ?_
    refine D_l (v := (.p (some (F, 0)))) rfl rfl rfl (r_fadd' rfl rfl) ?_
    refine D_gk rfl ?_
    refine D_l (v := (.i .i64 2)) rfl rfl rfl (r_mv rfl) ?_
    refine D_gk rfl ?_
    refine D_l (v := (.i .i64 1)) rfl rfl rfl (r_mv rfl) ?_
    refine D_gk rfl ?_
    refine D_l (v := (.p (some (F, 0)))) rfl rfl rfl (r_mv rfl) ?_
    refine D_gk rfl ?_
    refine D_l (v := (.p (some (F, 0)))) rfl rfl rfl (r_nilc rfl) ?_
    refine D_gk rfl ?_
    refine D_l (v := (.p (some (F, 1)))) rfl rfl rfl (r_fadd' rfl rfl) ?_
    refine D_gk rfl ?_
    refine D_r (v := (.sl (some (Lb, 0)) 3 3 0)) rfl rfl rfl (r_ld rfl hH81.get3 rfl) ?_
    refine D_gk rfl ?_
    refine D_l (v := (.p (some (Lb, (2 * 67 + 0))))) rfl rfl rfl (by exact (r_islr (b := Lb) (k := 2) (len := 3) (cap := 3) (g := 0) rfl rfl (by decide))) ?_
    refine D_gk rfl ?_
    refine D_r (v := (.agg [(.b p.m), (.i .u8 p.kind), (.i .u16 p.seq), (.i .u32 p.stamp), (.i .u32 p.src), (.sl qa67 (p.d).length (p.d).length qg68)])) rfl rfl rfl (r_ldA rfl hH81.get4 rfl) ?_
    refine D_gk rfl ?_
    refine D_r (v := (.i .i64 ((room : Nat) : Int))) rfl rfl rfl (r_ld rfl hH81.get3 rfl) ?_
    refine D_gk rfl ?_
    have hH82 := ((hH81.top6).top2)
    have hH83 : Hs H78 ([(Lb, some (.cells (((([(lrowS true s0 (handW t0 room w0 l0 2 p).1 v0x (handW t0 room w0 l0 2 p).2.2.1), (lrowS true s1 t1 v1 l1), (lrowS true s2 t2 v2 l2)] : List (List AV))).set 2 (lrowS true s2 t2 v2 l2)).flatten) true))] ++ ((qseg v2 c2) ++ ((((D ++ (qseg (.sl qa20 (p.d).length (p.d).length qg21) (bcells p.d))) ++ (qseg (.sl qa47 (p.d).length (p.d).length qg48) (bcells p.d))) ++ (qseg (.sl qa67 (p.d).length (p.d).length qg68) (bcells p.d))) ++ ((qseg v0x c0x) ++ ([(F, some (.cells ([(.sl (some (Lb, 0)) 3 3 0), (.i .i64 ((room : Nat) : Int))]) true))] ++ ([(n1, some (.cells ([(.b p.m), (.i .u8 p.kind), (.i .u16 p.seq), (.i .u32 p.stamp), (.i .u32 p.src), (.sl qa67 (p.d).length (p.d).length qg68)]) true))] ++ ((qseg v1 c1) ++ (B ++ (R))))))))) := hH82
    have hH84 := ((hH83.top1).top1)
    refine D_call (Ev.mono (hand1_ev (i := 2) (rws := ([(lrowS true s0 (handW t0 room w0 l0 2 p).1 v0x (handW t0 room w0 l0 2 p).2.2.1), (lrowS true s1 t1 v1 l1), (lrowS true s2 t2 v2 l2)] : List (List AV))) (D := (((D ++ (qseg (.sl qa20 (p.d).length (p.d).length qg21) (bcells p.d))) ++ (qseg (.sl qa47 (p.d).length (p.d).length qg48) (bcells p.d))) ++ (qseg (.sl qa67 (p.d).length (p.d).length qg68) (bcells p.d)))) (p := p) hall1 (Nat.le_of_ble_eq_true rfl) hsq2 (hpr2.mono (fun _ hh => hh.fst.fst.fst)) ⟨_, _, _, rfl, hqg69, Nat.le_refl _, by omega, fun _ hh => Sq.bs (R := []) hSq70 (by rw [List.append_nil]; exact hh.sub)⟩ hroom64 hlost2 hH84) fun v85 H86 hq87 => ?_)
    obtain ⟨v2x, c2x, rows2x, rfl, hsq2x, hpr2x, hh2x⟩ := hq87
    have hall2 : ∀ x ∈ ([(lrowS true s0 (handW t0 room w0 l0 2 p).1 v0x (handW t0 room w0 l0 2 p).2.2.1), (lrowS true s1 t1 v1 l1), (lrowS true s2 (handW t2 room w2 l2 2 p).1 v2x (handW t2 room w2 l2 2 p).2.2.1)] : List (List AV)), x.length = 67 := fun x hx => by simp only [List.mem_cons, List.not_mem_nil, or_false] at hx; rcases hx with rfl | rfl | rfl <;> rfl
    refine And.intro (And.intro (Or.inl rfl) (And.intro (Or.inl rfl) (And.intro (Or.inl rfl) True.intro))) ?_
    refine D_l (v := (.b (handW t2 room w2 l2 2 p).2.2.2)) rfl rfl rfl (r_pick_t rfl rfl) ?_
    refine D_nil ?_
    refine C_cond (x := (handW t2 room w2 l2 2 p).2.2.2) rfl (fun hc88 => ?_) (fun hc88 => ?_)
    ·
      try simp only [decide_eq_true_eq, decide_eq_false_iff_not, Bool.not_eq_true', Bool.not_eq_false', Bool.and_eq_true, Bool.or_eq_true, Bool.or_eq_false_iff, Bool.not_not, Bool.and_eq_false_iff] at hc88
      refine C_region ?_
      refine O_p (.i .i64 1) (r_mv rfl) ?_
      refine O_p (.i .i64 2) (r_bin rfl rfl rfl) ?_
      refine O_p (.i .i64 2) (r_mv rfl) ?_
      refine O_nil ?_
      refine C_region ?_
      refine O_p (.i .i64 3) (r_bin rfl rfl rfl) ?_
      refine O_p (.i .i64 3) (r_mv rfl) ?_
      refine O_nil ?_
      refine C_loop ?_
      refine C_seq ?_
      refine C_region ?_
      refine O_p (.b false) (r_bin rfl rfl rfl) ?_
      refine O_nil ?_
      refine C_seq ?_
      refine C_cond (x := false) rfl (fun h => by cases h) (fun _ => ?_)
      refine C_exit ?_
      refine nx_exit ?_
      refine nx_exit ?_
      refine bk_hit ?_
      refine C_seq ?_
      refine C_region ?_
      refine O_p (.i .i64 2) (r_mv rfl) ?_
      refine O_p (.i .i64 2) (r_mv rfl) ?_
      refine O_p (.i .i64 0) (r_mv rfl) ?_
      refine O_nil ?_
      refine C_ret ?_
      have hH89 := (hh2x.sub5)
      have hH90 := (((((((hH89.top6).top3).top3).top6).top5).top5).top6)
      have hH91 : Hs H86 ([(F, some (.cells ([(.sl (some (Lb, 0)) 3 3 0), (.i .i64 ((room : Nat) : Int))]) true))] ++ ([(Lb, some (.cells ((([(lrowS true s0 (handW t0 room w0 l0 2 p).1 v0x (handW t0 room w0 l0 2 p).2.2.1), (lrowS true s1 t1 v1 l1), (lrowS true s2 (handW t2 room w2 l2 2 p).1 v2x (handW t2 room w2 l2 2 p).2.2.1)] : List (List AV))).flatten) true))] ++ ((qseg v0x c0x) ++ ((qseg v1 c1) ++ ((qseg v2x c2x) ++ ((((D ++ (qseg (.sl qa20 (p.d).length (p.d).length qg21) (bcells p.d))) ++ (qseg (.sl qa47 (p.d).length (p.d).length qg48) (bcells p.d))) ++ (qseg (.sl qa67 (p.d).length (p.d).length qg68) (bcells p.d))) ++ (B ++ (R)))))))) := hH90
      exact ⟨.inr rfl, _, resL_cons (r_tmp (v := (.i .i64 2)) rfl) (resL_one (r_tmp (v := .i .i64 0) rfl)), _, (((D ++ (qseg (.sl qa20 (p.d).length (p.d).length qg21) (bcells p.d))) ++ (qseg (.sl qa47 (p.d).length (p.d).length qg48) (bcells p.d))) ++ (qseg (.sl qa67 (p.d).length (p.d).length qg68) (bcells p.d))), v0x, c0x, rows0x, v2x, c2x, rows2x, rfl, (fun _ hh => hh.fst.fst.fst), hsq0x, hpr0x.mono (fun _ hh => hh.fst.fst), hsq2x, hpr2x.mono (fun _ hh => hh), hH91⟩
    ·
      try simp only [decide_eq_true_eq, decide_eq_false_iff_not, Bool.not_eq_true', Bool.not_eq_false', Bool.and_eq_true, Bool.or_eq_true, Bool.or_eq_false_iff, Bool.not_not, Bool.and_eq_false_iff] at hc88
      refine C_skip ?_
      refine C_region ?_
      refine O_p (.i .i64 3) (r_bin rfl rfl rfl) ?_
      refine O_p (.i .i64 3) (r_mv rfl) ?_
      refine O_nil ?_
      refine C_loop ?_
      refine C_seq ?_
      refine C_region ?_
      refine O_p (.b false) (r_bin rfl rfl rfl) ?_
      refine O_nil ?_
      refine C_seq ?_
      refine C_cond (x := false) rfl (fun h => by cases h) (fun _ => ?_)
      refine C_exit ?_
      refine nx_exit ?_
      refine nx_exit ?_
      refine bk_hit ?_
      refine C_seq ?_
      refine C_region ?_
      refine O_p (.i .i64 1) (r_mv rfl) ?_
      refine O_p (.i .i64 1) (r_mv rfl) ?_
      refine O_p (.i .i64 0) (r_mv rfl) ?_
      refine O_nil ?_
      refine C_ret ?_
      have hH92 := (hh2x.sub5)
      have hH93 := (((((((hH92.top6).top3).top3).top6).top5).top5).top6)
      have hH94 : Hs H86 ([(F, some (.cells ([(.sl (some (Lb, 0)) 3 3 0), (.i .i64 ((room : Nat) : Int))]) true))] ++ ([(Lb, some (.cells ((([(lrowS true s0 (handW t0 room w0 l0 2 p).1 v0x (handW t0 room w0 l0 2 p).2.2.1), (lrowS true s1 t1 v1 l1), (lrowS true s2 (handW t2 room w2 l2 2 p).1 v2x (handW t2 room w2 l2 2 p).2.2.1)] : List (List AV))).flatten) true))] ++ ((qseg v0x c0x) ++ ((qseg v1 c1) ++ ((qseg v2x c2x) ++ ((((D ++ (qseg (.sl qa20 (p.d).length (p.d).length qg21) (bcells p.d))) ++ (qseg (.sl qa47 (p.d).length (p.d).length qg48) (bcells p.d))) ++ (qseg (.sl qa67 (p.d).length (p.d).length qg68) (bcells p.d))) ++ (B ++ (R)))))))) := hH93
      exact ⟨.inr rfl, _, resL_cons (r_tmp (v := (.i .i64 1)) rfl) (resL_one (r_tmp (v := .i .i64 0) rfl)), _, (((D ++ (qseg (.sl qa20 (p.d).length (p.d).length qg21) (bcells p.d))) ++ (qseg (.sl qa47 (p.d).length (p.d).length qg48) (bcells p.d))) ++ (qseg (.sl qa67 (p.d).length (p.d).length qg68) (bcells p.d))), v0x, c0x, rows0x, v2x, c2x, rows2x, rfl, (fun _ hh => hh.fst.fst.fst), hsq0x, hpr0x.mono (fun _ hh => hh.fst.fst), hsq2x, hpr2x.mono (fun _ hh => hh), hH94⟩
  ·
    try simp only [decide_eq_true_eq, decide_eq_false_iff_not, Bool.not_eq_true', Bool.not_eq_false', Bool.and_eq_true, Bool.or_eq_true, Bool.or_eq_false_iff, Bool.not_not, Bool.and_eq_false_iff] at hc41
    refine C_skip ?_
    refine C_region ?_
    refine O_p (.i .i64 1) (r_bin rfl rfl rfl) ?_
    refine O_p (.i .i64 1) (r_mv rfl) ?_
    refine O_nil ?_
    refine C_loop ?_
    refine C_seq ?_
    refine C_region ?_
    refine O_p (.b true) (r_bin rfl rfl rfl) ?_
    refine O_nil ?_
    refine C_seq ?_
    refine C_cond (x := true) rfl (fun _ => ?_) (fun h => by cases h)
    refine C_skip ?_
    refine C_seq ?_
    refine C_block ?_
    refine C_seq ?_
    refine C_region ?_
    refine O_p (.i .i64 1) (r_mv rfl) ?_
    refine O_p (.i .i64 1) (r_mv rfl) ?_
    refine O_nil ?_
    refine C_seq ?_
    refine C_region ?_
    refine O_p (.sl da p.d.length dc dg) (r_mv rfl) ?_
    refine O_call (Ev.mono (clone_ev (tab := tabA) (sp := spA) rfl hh0x.ok hdg (hpb _ hh0x.top7.fst) (by first | omega | (simp only [List.length_take, List.length_drop, List.length_append, List.length_cons, List.length_nil, beN_len] <;> omega)) (by first | omega | (simp only [List.length_take, List.length_drop, List.length_append, List.length_cons, List.length_nil, beN_len] <;> omega)) (by first | omega | (simp only [List.length_take, List.length_drop, List.length_append, List.length_cons, List.length_nil, beN_len] <;> omega))) fun v95 H96 hq97 => ?_)
    obtain ⟨hM98, hK99⟩ := hq97
    obtain ⟨qa100, qg101, rfl, hqg102, _⟩ := hM98.own.bs
    have hH104 := Hs.ofMine hh0x hM98 hK99
    have hSq103 := Sq.ofMine hh0x hM98 hK99
    have hH105 := (hH104.top3)
    have hH106 := Hs.unassoc hH105
    refine O_p (.p (some (n1, 5))) (r_fadd' rfl rfl) ?_
    refine O_store (vs := [(.sl qa100 (p.d).length (p.d).length qg101)]) (c' := [(.b p.m), (.i .u8 p.kind), (.i .u16 p.seq), (.i .u32 p.stamp), (.i .u32 p.src), (.sl qa100 (p.d).length (p.d).length qg101)]) rfl (by rfl) hH106.get4 rfl (List.cons_ne_nil _ _) (Nat.le_of_ble_eq_true rfl) rfl fun H107 hW108 => ?_
    have hH109 := hH106.wr4 hW108
    refine O_nil ?_
    refine C_seq ?_
    refine C_draw fun b110 H111 hbase112 hA113 => ?_
    have hH114 := hH109.keep (by have := hA113.1; omega) (fun q _ => hA113.2 q) ((hH109.old).aside hA113).ok
    refine D_l (v := (.i .i64 1)) rfl rfl rfl (r_mv rfl) ?_
    refine D_l (v := (.i .i64 1)) rfl rfl rfl (r_mv rfl) ?_
    refine D_l (v := (.b false)) rfl rfl rfl (r_bin rfl rfl rfl) ?_
    refine D_l (v := (.b false)) rfl rfl rfl (r_mv rfl) ?_
    refine D_gf rfl ?_
    refine D_gf rfl ?_
    refine D_gf rfl ?_
    refine D_gf rfl ?_
    refine D_gf rfl ?_
    refine D_gf rfl ?_
    refine D_gf rfl ?_
    refine D_gf rfl ?_
    refine D_gf rfl ?_
    refine D_gf rfl ?_
    refine D_gf rfl ?_
    refine D_gf rfl ?_
    refine D_gf rfl ?_
    refine D_l (v := (.b false)) rfl rfl rfl (r_pick_f rfl rfl) ?_
    refine D_nil ?_
    refine C_cond (x := false) rfl (fun h => by cases h) (fun _ => ?_)
    refine C_skip ?_
    refine C_region ?_
    refine O_p (.i .i64 2) (r_bin rfl rfl rfl) ?_
    refine O_p (.i .i64 2) (r_mv rfl) ?_
    refine O_nil ?_
    refine C_loop ?_
    refine C_seq ?_
    refine C_region ?_
    refine O_p (.b true) (r_bin rfl rfl rfl) ?_
    refine O_nil ?_
    refine C_seq ?_
    refine C_cond (x := true) rfl (fun _ => ?_) (fun h => by cases h)
    refine C_skip ?_
    refine C_seq ?_
    refine C_block ?_
    refine C_seq ?_
    refine C_region ?_
    refine O_p (.i .i64 2) (r_mv rfl) ?_
    refine O_p (.i .i64 2) (r_mv rfl) ?_
    refine O_nil ?_
    refine C_seq ?_
    refine C_region ?_
    refine O_p (.sl da p.d.length dc dg) (r_mv rfl) ?_
    refine O_call (Ev.mono (clone_ev (tab := tabA) (sp := spA) rfl hH114.ok hdg (hpb _ hH114.top7.fst) (by first | omega | (simp only [List.length_take, List.length_drop, List.length_append, List.length_cons, List.length_nil, beN_len] <;> omega)) (by first | omega | (simp only [List.length_take, List.length_drop, List.length_append, List.length_cons, List.length_nil, beN_len] <;> omega)) (by first | omega | (simp only [List.length_take, List.length_drop, List.length_append, List.length_cons, List.length_nil, beN_len] <;> omega))) fun v115 H116 hq117 => ?_)
    obtain ⟨hM118, hK119⟩ := hq117
    obtain ⟨qa120, qg121, rfl, hqg122, _⟩ := hM118.own.bs
    have hH124 := Hs.ofMine hH114 hM118 hK119
    have hSq123 := Sq.ofMine hH114 hM118 hK119
    have hH125 := (hH124.top1)
    have hH126 := Hs.unassoc hH125
    refine O_p (.p (some (n1, 5))) (r_fadd' rfl rfl) ?_
    refine O_store (vs := [(.sl qa120 (p.d).length (p.d).length qg121)]) (c' := [(.b p.m), (.i .u8 p.kind), (.i .u16 p.seq), (.i .u32 p.stamp), (.i .u32 p.src), (.sl qa120 (p.d).length (p.d).length qg121)]) rfl (by rfl) hH126.get4 rfl (List.cons_ne_nil _ _) (Nat.le_of_ble_eq_true rfl) rfl fun H127 hW128 => ?_
    have hH129 := hH126.wr4 hW128
    refine O_nil ?_
    refine C_seq ?_
    refine C_draw fun b130 H131 hbase132 hA133 => ?_
    have hH134 := hH129.keep (by have := hA133.1; omega) (fun q _ => hA133.2 q) ((hH129.old).aside hA133).ok
    refine D_l (v := (.i .i64 2)) rfl rfl rfl (r_mv rfl) ?_
    refine D_l (v := (.i .i64 1)) rfl rfl rfl (r_mv rfl) ?_
    refine D_l (v := (.b true)) rfl rfl rfl (r_bin rfl rfl rfl) ?_
    refine D_l (v := (.b true)) rfl rfl rfl (r_mv rfl) ?_
    refine D_gk rfl ?_
    refine D_l (v := (.p (some (F, 0)))) rfl rfl rfl (r_mv rfl) ?_
    refine D_gk rfl ?_
    refine D_l (v := (.p (some (F, 0)))) rfl rfl rfl (r_nilc rfl) ?_
    refine D_gk rfl ?_
    refine D_l (v := (.p (some (F, 0)))) rfl rfl rfl (r_fadd' rfl rfl) ?_
    refine D_gk rfl ?_
    refine D_l (v := (.i .i64 2)) rfl rfl rfl (r_mv rfl) ?_
    refine D_gk rfl ?_
    refine D_l (v := (.i .i64 1)) rfl rfl rfl (r_mv rfl) ?_
    refine D_gk rfl ?_
    refine D_l (v := (.p (some (F, 0)))) rfl rfl rfl (r_mv rfl) ?_
    refine D_gk rfl ?_
    refine D_l (v := (.p (some (F, 0)))) rfl rfl rfl (r_nilc rfl) ?_
    refine D_gk rfl ?_
    refine D_l (v := (.p (some (F, 1)))) rfl rfl rfl (r_fadd' rfl rfl) ?_
    refine D_gk rfl ?_
    refine D_r (v := (.sl (some (Lb, 0)) 3 3 0)) rfl rfl rfl (r_ld rfl hH134.get3 rfl) ?_
    refine D_gk rfl ?_
    refine D_l (v := (.p (some (Lb, (2 * 67 + 0))))) rfl rfl rfl (by exact (r_islr (b := Lb) (k := 2) (len := 3) (cap := 3) (g := 0) rfl rfl (by decide))) ?_
    refine D_gk rfl ?_
    refine D_r (v := (.agg [(.b p.m), (.i .u8 p.kind), (.i .u16 p.seq), (.i .u32 p.stamp), (.i .u32 p.src), (.sl qa120 (p.d).length (p.d).length qg121)])) rfl rfl rfl (r_ldA rfl hH134.get4 rfl) ?_
    refine D_gk rfl ?_
    refine D_r (v := (.i .i64 ((room : Nat) : Int))) rfl rfl rfl (r_ld rfl hH134.get3 rfl) ?_
    refine D_gk rfl ?_
    have hH135 := ((hH134.top6).top2)
    have hH136 : Hs H131 ([(Lb, some (.cells (((([(lrowS true s0 (handW t0 room w0 l0 2 p).1 v0x (handW t0 room w0 l0 2 p).2.2.1), (lrowS true s1 t1 v1 l1), (lrowS true s2 t2 v2 l2)] : List (List AV))).set 2 (lrowS true s2 t2 v2 l2)).flatten) true))] ++ ((qseg v2 c2) ++ ((((D ++ (qseg (.sl qa20 (p.d).length (p.d).length qg21) (bcells p.d))) ++ (qseg (.sl qa100 (p.d).length (p.d).length qg101) (bcells p.d))) ++ (qseg (.sl qa120 (p.d).length (p.d).length qg121) (bcells p.d))) ++ ((qseg v0x c0x) ++ ([(F, some (.cells ([(.sl (some (Lb, 0)) 3 3 0), (.i .i64 ((room : Nat) : Int))]) true))] ++ ([(n1, some (.cells ([(.b p.m), (.i .u8 p.kind), (.i .u16 p.seq), (.i .u32 p.stamp), (.i .u32 p.src), (.sl qa120 (p.d).length (p.d).length qg121)]) true))] ++ ((qseg v1 c1) ++ (B ++ (R))))))))) := hH135
    have hH137 := ((hH136.top1).top1)
    refine D_call (Ev.mono (hand1_ev (i := 2) (rws := ([(lrowS true s0 (handW t0 room w0 l0 2 p).1 v0x (handW t0 room w0 l0 2 p).2.2.1), (lrowS true s1 t1 v1 l1), (lrowS true s2 t2 v2 l2)] : List (List AV))) (D := (((D ++ (qseg (.sl qa20 (p.d).length (p.d).length qg21) (bcells p.d))) ++ (qseg (.sl qa100 (p.d).length (p.d).length qg101) (bcells p.d))) ++ (qseg (.sl qa120 (p.d).length (p.d).length qg121) (bcells p.d)))) (p := p) hall1 (Nat.le_of_ble_eq_true rfl) hsq2 (hpr2.mono (fun _ hh => hh.fst.fst.fst)) ⟨_, _, _, rfl, hqg122, Nat.le_refl _, by omega, fun _ hh => Sq.bs (R := []) hSq123 (by rw [List.append_nil]; exact hh.sub)⟩ hroom64 hlost2 hH137) fun v138 H139 hq140 => ?_)
    obtain ⟨v2x, c2x, rows2x, rfl, hsq2x, hpr2x, hh2x⟩ := hq140
    have hall2 : ∀ x ∈ ([(lrowS true s0 (handW t0 room w0 l0 2 p).1 v0x (handW t0 room w0 l0 2 p).2.2.1), (lrowS true s1 t1 v1 l1), (lrowS true s2 (handW t2 room w2 l2 2 p).1 v2x (handW t2 room w2 l2 2 p).2.2.1)] : List (List AV)), x.length = 67 := fun x hx => by simp only [List.mem_cons, List.not_mem_nil, or_false] at hx; rcases hx with rfl | rfl | rfl <;> rfl
    refine And.intro (And.intro (Or.inl rfl) (And.intro (Or.inl rfl) (And.intro (Or.inl rfl) True.intro))) ?_
    refine D_l (v := (.b (handW t2 room w2 l2 2 p).2.2.2)) rfl rfl rfl (r_pick_t rfl rfl) ?_
    refine D_nil ?_
    refine C_cond (x := (handW t2 room w2 l2 2 p).2.2.2) rfl (fun hc141 => ?_) (fun hc141 => ?_)
    ·
      try simp only [decide_eq_true_eq, decide_eq_false_iff_not, Bool.not_eq_true', Bool.not_eq_false', Bool.and_eq_true, Bool.or_eq_true, Bool.or_eq_false_iff, Bool.not_not, Bool.and_eq_false_iff] at hc141
      refine C_region ?_
      refine O_p (.i .i64 0) (r_mv rfl) ?_
      refine O_p (.i .i64 1) (r_bin rfl rfl rfl) ?_
      refine O_p (.i .i64 1) (r_mv rfl) ?_
      refine O_nil ?_
      refine C_region ?_
      refine O_p (.i .i64 3) (r_bin rfl rfl rfl) ?_
      refine O_p (.i .i64 3) (r_mv rfl) ?_
      refine O_nil ?_
      refine C_loop ?_
      refine C_seq ?_
      refine C_region ?_
      refine O_p (.b false) (r_bin rfl rfl rfl) ?_
      refine O_nil ?_
      refine C_seq ?_
      refine C_cond (x := false) rfl (fun h => by cases h) (fun _ => ?_)
      refine C_exit ?_
      refine nx_exit ?_
      refine nx_exit ?_
      refine bk_hit ?_
      refine C_seq ?_
      refine C_region ?_
      refine O_p (.i .i64 1) (r_mv rfl) ?_
      refine O_p (.i .i64 1) (r_mv rfl) ?_
      refine O_p (.i .i64 0) (r_mv rfl) ?_
      refine O_nil ?_
      refine C_ret ?_
      have hH142 := (hh2x.sub5)
      have hH143 := (((((((hH142.top6).top3).top3).top6).top5).top5).top6)
      have hH144 : Hs H139 ([(F, some (.cells ([(.sl (some (Lb, 0)) 3 3 0), (.i .i64 ((room : Nat) : Int))]) true))] ++ ([(Lb, some (.cells ((([(lrowS true s0 (handW t0 room w0 l0 2 p).1 v0x (handW t0 room w0 l0 2 p).2.2.1), (lrowS true s1 t1 v1 l1), (lrowS true s2 (handW t2 room w2 l2 2 p).1 v2x (handW t2 room w2 l2 2 p).2.2.1)] : List (List AV))).flatten) true))] ++ ((qseg v0x c0x) ++ ((qseg v1 c1) ++ ((qseg v2x c2x) ++ ((((D ++ (qseg (.sl qa20 (p.d).length (p.d).length qg21) (bcells p.d))) ++ (qseg (.sl qa100 (p.d).length (p.d).length qg101) (bcells p.d))) ++ (qseg (.sl qa120 (p.d).length (p.d).length qg121) (bcells p.d))) ++ (B ++ (R)))))))) := hH143
      exact ⟨.inr rfl, _, resL_cons (r_tmp (v := (.i .i64 1)) rfl) (resL_one (r_tmp (v := .i .i64 0) rfl)), _, (((D ++ (qseg (.sl qa20 (p.d).length (p.d).length qg21) (bcells p.d))) ++ (qseg (.sl qa100 (p.d).length (p.d).length qg101) (bcells p.d))) ++ (qseg (.sl qa120 (p.d).length (p.d).length qg121) (bcells p.d))), v0x, c0x, rows0x, v2x, c2x, rows2x, rfl, (fun _ hh => hh.fst.fst.fst), hsq0x, hpr0x.mono (fun _ hh => hh.fst.fst), hsq2x, hpr2x.mono (fun _ hh => hh), hH144⟩
    ·
      try simp only [decide_eq_true_eq, decide_eq_false_iff_not, Bool.not_eq_true', Bool.not_eq_false', Bool.and_eq_true, Bool.or_eq_true, Bool.or_eq_false_iff, Bool.not_not, Bool.and_eq_false_iff] at hc141
      refine C_skip ?_
      refine C_region ?_
      refine O_p (.i .i64 3) (r_bin rfl rfl rfl) ?_
      refine O_p (.i .i64 3) (r_mv rfl) ?_
      refine O_nil ?_
      refine C_loop ?_
      refine C_seq ?_
      refine C_region ?_
      refine O_p (.b false) (r_bin rfl rfl rfl) ?_
      refine O_nil ?_
      refine C_seq ?_
      refine C_cond (x := false) rfl (fun h => by cases h) (fun _ => ?_)
      refine C_exit ?_
      refine nx_exit ?_
      refine nx_exit ?_
      refine bk_hit ?_
      refine C_seq ?_
      refine C_region ?_
      refine O_p (.i .i64 0) (r_mv rfl) ?_
      refine O_p (.i .i64 0) (r_mv rfl) ?_
      refine O_p (.i .i64 0) (r_mv rfl) ?_
      refine O_nil ?_
      refine C_ret ?_
      have hH145 := (hh2x.sub5)
      have hH146 := (((((((hH145.top6).top3).top3).top6).top5).top5).top6)
      have hH147 : Hs H139 ([(F, some (.cells ([(.sl (some (Lb, 0)) 3 3 0), (.i .i64 ((room : Nat) : Int))]) true))] ++ ([(Lb, some (.cells ((([(lrowS true s0 (handW t0 room w0 l0 2 p).1 v0x (handW t0 room w0 l0 2 p).2.2.1), (lrowS true s1 t1 v1 l1), (lrowS true s2 (handW t2 room w2 l2 2 p).1 v2x (handW t2 room w2 l2 2 p).2.2.1)] : List (List AV))).flatten) true))] ++ ((qseg v0x c0x) ++ ((qseg v1 c1) ++ ((qseg v2x c2x) ++ ((((D ++ (qseg (.sl qa20 (p.d).length (p.d).length qg21) (bcells p.d))) ++ (qseg (.sl qa100 (p.d).length (p.d).length qg101) (bcells p.d))) ++ (qseg (.sl qa120 (p.d).length (p.d).length qg121) (bcells p.d))) ++ (B ++ (R)))))))) := hH146
      exact ⟨.inr rfl, _, resL_cons (r_tmp (v := (.i .i64 0)) rfl) (resL_one (r_tmp (v := .i .i64 0) rfl)), _, (((D ++ (qseg (.sl qa20 (p.d).length (p.d).length qg21) (bcells p.d))) ++ (qseg (.sl qa100 (p.d).length (p.d).length qg101) (bcells p.d))) ++ (qseg (.sl qa120 (p.d).length (p.d).length qg121) (bcells p.d))), v0x, c0x, rows0x, v2x, c2x, rows2x, rfl, (fun _ hh => hh.fst.fst.fst), hsq0x, hpr0x.mono (fun _ hh => hh.fst.fst), hsq2x, hpr2x.mono (fun _ hh => hh), hH147⟩
end Go.Proofs.Ythmiglahfkfcaaa.E
