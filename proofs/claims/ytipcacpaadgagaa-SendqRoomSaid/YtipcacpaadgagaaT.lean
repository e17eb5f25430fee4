/- Queues of chunks: what is sent. It bears no condition. -/
import Derived.Test.YtipcacpaadgagaaC
namespace Go.Proofs.Ytipcacpaadgagaa.E
set_option linter.unusedVariables false
set_option linter.unusedSimpArgs false
def Ea.ca (e : Ea) : Cx × Int := (e.c, e.a)
def take2 (now : Int) (es : List Ea) (room : Int) : List Ea × List Ea := if (takeL 2 now es room).2.2.2 then ((takeL 2 now es room).1, (takeL 2 now es room).2.1) else ((takeL 0 now (takeL 2 now es room).1 (takeL 2 now es room).2.2.1).1, (takeL 2 now es room).2.1 ++ (takeL 0 now (takeL 2 now es room).1 (takeL 2 now es room).2.2.1).2.1)
section
variable {S now RM : Int} {q q0 : List En} {j : Nat} {e0 x y : En}
theorem drop_at {α : Type} {l : List α} {j : Nat} {x : α} (h : l[j]? = some x) : l.drop j = x :: l.drop (j + 1) := by
  obtain ⟨hj, rfl⟩ := List.getElem?_eq_some_iff.1 h
  exact List.drop_eq_getElem_cons hj
theorem tk_len : (takeL S now ((q0.map En.e).take j) RM).1.length = min j q0.length := by rw [takeL_len, List.length_take, List.length_map]
theorem tk_same {l1 : List Ea} (h : q.map En.e = l1 ++ (q0.map En.e).drop j) (hl : l1.length = min j q0.length) : ∀ k, j ≤ k → (q[k]?).map En.e = (q0[k]?).map En.e := fun k hk => by
  have e1 : (q[k]?).map En.e = (q.map En.e)[k]? := (List.getElem?_map ..).symm
  have e2 : (q0[k]?).map En.e = (q0.map En.e)[k]? := (List.getElem?_map ..).symm
  rw [e1, e2, h]
  by_cases hj : j ≤ q0.length
  · rw [Nat.min_eq_left hj] at hl
    rw [List.getElem?_append_right (by omega), List.getElem?_drop, hl]
    congr 1; omega
  · have h1 : (q0.map En.e).drop j = [] := List.drop_eq_nil_of_le (by rw [List.length_map]; omega)
    rw [h1, List.append_nil, List.getElem?_eq_none (by omega), List.getElem?_eq_none (by rw [List.length_map]; omega)]
theorem tk_skip (h : q0[j]? = some e0) (hst : ¬ e0.e.st = S) (hf : (takeL S now ((q0.map En.e).take j) RM).2.2.2 = false) : takeL S now ((q0.map En.e).take (j + 1)) RM = ((takeL S now ((q0.map En.e).take j) RM).1 ++ [e0.e], (takeL S now ((q0.map En.e).take j) RM).2.1, (takeL S now ((q0.map En.e).take j) RM).2.2.1, false) := by
  rw [take_at (en_e h), takeL_app, hf, takeL_ne hst]
  show (_, _ ++ [], _, false) = _
  rw [List.append_nil]; rfl
theorem tk_fly (h : q0[j]? = some e0) (hst : e0.e.st = S) (hf : (takeL S now ((q0.map En.e).take j) RM).2.2.2 = false) (hr : ¬ (takeL S now ((q0.map En.e).take j) RM).2.2.1 < (e0.e.c.d.length : Int)) : takeL S now ((q0.map En.e).take (j + 1)) RM = ((takeL S now ((q0.map En.e).take j) RM).1 ++ [e0.e.fly now], (takeL S now ((q0.map En.e).take j) RM).2.1 ++ [e0.e], (takeL S now ((q0.map En.e).take j) RM).2.2.1 - e0.e.c.d.length, false) := by
  rw [take_at (en_e h), takeL_app, hf, takeL_fit hst hr]; rfl
theorem tk_stop (h : q0[j]? = some e0) (hst : e0.e.st = S) (hf : (takeL S now ((q0.map En.e).take j) RM).2.2.2 = false) (hr : (takeL S now ((q0.map En.e).take j) RM).2.2.1 < (e0.e.c.d.length : Int)) : takeL S now (q0.map En.e) RM = ((takeL S now ((q0.map En.e).take j) RM).1 ++ (q0.map En.e).drop j, (takeL S now ((q0.map En.e).take j) RM).2.1, (takeL S now ((q0.map En.e).take j) RM).2.2.1, true) := by
  have e : takeL S now (q0.map En.e) RM = takeL S now ((q0.map En.e).take j ++ (q0.map En.e).drop j) RM := by rw [List.take_append_drop]
  rw [e, takeL_app, hf, drop_at (en_e h), takeL_full hst hr]
  show (_, _ ++ [], _, true) = _
  rw [List.append_nil]
theorem tk_drop (h : q0[j]? = some e0) {l1 : List Ea} (hq : q.map En.e = l1 ++ (q0.map En.e).drop j) : q.map En.e = (l1 ++ [e0.e]) ++ (q0.map En.e).drop (j + 1) := by
  rw [hq, drop_at (en_e h), List.append_assoc]; rfl
theorem tk_set {l1 : List Ea} (h : q0[j]? = some e0) (hq : q.map En.e = l1 ++ (q0.map En.e).drop j) (hl : l1.length = min j q0.length) : (q.set j y).map En.e = (l1 ++ [y.e]) ++ (q0.map En.e).drop (j + 1) := by
  have hj := (List.getElem?_eq_some_iff.1 h).1
  rw [Nat.min_eq_left (Nat.le_of_lt hj)] at hl
  rw [List.map_set, hq, drop_at (en_e h), List.set_append_right (h := by omega), hl, Nat.sub_self, List.append_assoc]; rfl
theorem set_names (hx : q[j]? = some x) (hy : y.n = x.n) (hn : q.map En.n = q0.map En.n) : (q.set j y).map En.n = q0.map En.n := by
  rw [List.map_set, hy, rows_same (by rw [List.getElem?_map, hx]; rfl), hn]
theorem set_all {P : En → Prop} (h : ∀ x ∈ q, P x) (hy : P y) : ∀ x ∈ q.set j y, P x := fun p hp => by
  rcases List.mem_or_eq_of_mem_set hp with h1 | rfl
  · exact h p h1
  · exact hy
end
theorem takeL_room {s now : Int} : ∀ {l : List Ea} {r : Int}, (takeL s now l r).2.2.1 ≤ r
  | [], r => Int.le_refl _
  | e :: l, r => by
    by_cases h : e.st = s
    · by_cases hr : r < (e.c.d.length : Int)
      · rw [takeL_full h hr]; exact Int.le_refl _
      · rw [takeL_fit h hr]
        have := takeL_room (s := s) (now := now) (l := l) (r := r - e.c.d.length)
        show (takeL s now l _).2.2.1 ≤ _
        omega
    · rw [takeL_ne h]; exact takeL_room
theorem takeL_outs {s now : Int} : ∀ {l : List Ea} {r : Int}, (takeL s now l r).2.1.length ≤ l.length
  | [], r => Nat.le_refl _
  | e :: l, r => by
    by_cases h : e.st = s
    · by_cases hr : r < (e.c.d.length : Int)
      · rw [takeL_full h hr]; exact Nat.zero_le _
      · rw [takeL_fit h hr]
        exact Nat.succ_le_succ takeL_outs
    · rw [takeL_ne h]
      exact Nat.le_trans takeL_outs (Nat.le_succ _)
theorem takeL_all {s now : Int} {P Q : Ea → Prop} (hpq : ∀ e, P e → Q e) (hf : ∀ e, P e → Q (e.fly now)) : ∀ {l : List Ea} {r : Int}, (∀ e ∈ l, P e) → ∀ e ∈ (takeL s now l r).1, Q e
  | [], r, _, e, h => by cases h
  | x :: l, r, hP, e, he => by
    have hx := hP x (List.mem_cons_self ..)
    have hl := fun z hz => hP z (List.mem_cons_of_mem _ hz)
    by_cases h : x.st = s
    · by_cases hr : r < (x.c.d.length : Int)
      · rw [takeL_full h hr] at he; exact hpq e (hP e he)
      · rw [takeL_fit h hr] at he
        rcases List.mem_cons.1 he with rfl | he
        · exact hf x hx
        · exact takeL_all hpq hf hl e he
    · rw [takeL_ne h] at he
      rcases List.mem_cons.1 he with rfl | he
      · exact hpq _ hx
      · exact takeL_all hpq hf hl e he
theorem octets_ev {H : AH} {R D : HL} {F : Nat} {lv : AV} {lc : List AV} {nx : Int} {q : List En} {sb : Nat} {ss : List Int} (hlv : Sq 1 lv lc (q.map En.pr).flatten) (hql : q.length ≤ 100000) (hok : ∀ x ∈ q, OctIn D x.dv x.e.c.d) (hsz : ∀ e ∈ q.map En.e, e.c.d.length ≤ 1000000) (hsl : ss.length ≤ 1000) (hH0 : Hs H ([(sb, some (.cells (ss.map fun z => AV.i IntKind.i64 z) true))] ++ ([(F, some (.cells ([lv, (.i .u32 nx)]) true))] ++ ((qseg lv lc) ++ ((q.flatMap En.seg) ++ (R)))))) : Ev tabA spA (.fn (.func 41) [] []) [.p (some (F, 0)), (.sl (some (sb, 0)) ss.length ss.length 0)] H (fun r H' => r = .i .i64 ((octs ss (q.map En.e) : Nat) : Int) ∧ Hs H' ([(sb, some (.cells (ss.map fun z => AV.i IntKind.i64 z) true))] ++ ([(F, some (.cells ([lv, (.i .u32 nx)]) true))] ++ ((qseg lv lc) ++ ((q.flatMap En.seg) ++ (R)))))) := by
  refine Ev_C (F := x41) rfl ?_
  refine C_seq ?_
  refine C_region ?_
  refine O_p (.i .i64 0) (r_mv rfl) ?_
  refine O_nil ?_
  refine C_seq ?_
  refine C_region ?_
  refine O_p (.p (some (F, 0))) (r_mv rfl) ?_
  refine O_p (.sl (some (sb, 0)) ss.length ss.length 0) (r_mv rfl) ?_
  refine O_call (Ev.mono (in_ev (F := F) (sb := sb) (ss := ss) hH0) fun v1 H2 hq3 => ?_)
  obtain ⟨b4, b5, rfl, hH6⟩ := hq3
  have hH7 := ((((((hH6.top5).top5).top5).top5).top5).top5)
  have hH8 := ((((((hH7.top5).top5).top5).top5).top5).top5)
  refine O_call (Ev.mono (total_ev hlv hql hsl hok hsz hH8) fun v9 H10 hq11 => ?_)
  obtain ⟨rfl, hH12⟩ := hq11
  refine O_p (.i .i64 ((((octs ss (q.map En.e)) : Nat)) : Int)) (r_mv rfl) ?_
  refine O_nil ?_
  refine C_ret ?_
  have hH13 := ((hH12.sub0).sub0)
  have hH14 := ((((hH13.top3).top3).top3).top3)
  exact ⟨.inr rfl, _, resL_one (r_tmp (v := (.i .i64 ((((octs ss (q.map En.e)) : Nat)) : Int))) rfl), rfl, hH14⟩
theorem flying_raw {H : AH} {R D : HL} {F : Nat} {lv : AV} {lc : List AV} {nx : Int} {q : List En} (hlv : Sq 1 lv lc (q.map En.pr).flatten) (hql : q.length ≤ 100000) (hok : ∀ x ∈ q, OctIn D x.dv x.e.c.d) (hsz : ∀ e ∈ q.map En.e, e.c.d.length ≤ 1000000) (hH0 : Hs H ([(F, some (.cells ([lv, (.i .u32 nx)]) true))] ++ ((qseg lv lc) ++ ((q.flatMap En.seg) ++ (R))))) : Ev tabA spA (.fn (.func 19) [] []) [.p (some (F, 0))] H (fun r H' => r = .i .i64 ((octs [1] (q.map En.e) : Nat) : Int) ∧ Hs H' ([(F, some (.cells ([lv, (.i .u32 nx)]) true))] ++ ((qseg lv lc) ++ ((q.flatMap En.seg) ++ (R))))) := by
  refine Ev_C (F := x19) rfl ?_
  refine C_seq ?_
  refine C_region ?_
  refine O_p (.i .i64 0) (r_mv rfl) ?_
  refine O_nil ?_
  refine C_seq ?_
  refine C_region ?_
  refine O_p (.p (some (F, 0))) (r_mv rfl) ?_
  refine O_bslice (c := [(.i .i64 1)]) rfl fun n1 H2 hN3 => ?_
  have hH4 := hH0.new hN3
  have hH5 := ((((hH4.top3).top3).top3).top3)
  have hH6 := ((((hH5.top3).top3).top3).top3)
  refine O_call (Ev.mono (octets_ev (ss := [1]) hlv hql hok hsz (by decide) hH6) fun v7 H8 hq9 => ?_)
  obtain ⟨rfl, hH10⟩ := hq9
  refine O_p (.i .i64 ((((octs [1] (q.map En.e)) : Nat)) : Int)) (r_mv rfl) ?_
  refine O_nil ?_
  refine C_ret ?_
  have hH11 := (hH10.sub0)
  have hH12 := (((hH11.top2).top2).top2)
  exact ⟨.inr rfl, _, resL_one (r_tmp (v := (.i .i64 ((((octs [1] (q.map En.e)) : Nat)) : Int))) rfl), rfl, hH12⟩
theorem left_raw {H : AH} {R D : HL} {F : Nat} {lv : AV} {lc : List AV} {nx : Int} {q : List En} (hlv : Sq 1 lv lc (q.map En.pr).flatten) (hql : q.length ≤ 100000) (hok : ∀ x ∈ q, OctIn D x.dv x.e.c.d) (hsz : ∀ e ∈ q.map En.e, e.c.d.length ≤ 1000000) (hH0 : Hs H ([(F, some (.cells ([lv, (.i .u32 nx)]) true))] ++ ((qseg lv lc) ++ ((q.flatMap En.seg) ++ (R))))) : Ev tabA spA (.fn (.func 20) [] []) [.p (some (F, 0))] H (fun r H' => r = .i .i64 ((octs [0, 2] (q.map En.e) : Nat) : Int) ∧ Hs H' ([(F, some (.cells ([lv, (.i .u32 nx)]) true))] ++ ((qseg lv lc) ++ ((q.flatMap En.seg) ++ (R))))) := by
  refine Ev_C (F := x20) rfl ?_
  refine C_seq ?_
  refine C_region ?_
  refine O_p (.i .i64 0) (r_mv rfl) ?_
  refine O_nil ?_
  refine C_seq ?_
  refine C_region ?_
  refine O_p (.p (some (F, 0))) (r_mv rfl) ?_
  refine O_bslice (c := [(.i .i64 0), (.i .i64 2)]) rfl fun n1 H2 hN3 => ?_
  have hH4 := hH0.new hN3
  have hH5 := ((((hH4.top3).top3).top3).top3)
  have hH6 := ((((hH5.top3).top3).top3).top3)
  refine O_call (Ev.mono (octets_ev (ss := [0, 2]) hlv hql hok hsz (by decide) hH6) fun v7 H8 hq9 => ?_)
  obtain ⟨rfl, hH10⟩ := hq9
  refine O_p (.i .i64 ((((octs [0, 2] (q.map En.e)) : Nat)) : Int)) (r_mv rfl) ?_
  refine O_nil ?_
  refine C_ret ?_
  have hH11 := (hH10.sub0)
  have hH12 := (((hH11.top2).top2).top2)
  exact ⟨.inr rfl, _, resL_one (r_tmp (v := (.i .i64 ((((octs [0, 2] (q.map En.e)) : Nat)) : Int))) rfl), rfl, hH12⟩
set_option maxHeartbeats 2000000 in
theorem take_raw {H : AH} {R D : HL} {F : Nat} {lv : AV} {lc : List AV} {nx now room : Int} {q0 : List En} (hlv : Sq 1 lv lc (q0.map En.pr).flatten) (hql : q0.length ≤ 100000) (hok : ∀ x ∈ q0, OctIn D x.dv x.e.c.d) (hsz0 : ∀ e ∈ q0.map En.e, e.c.d.length ≤ 1000000) (hse0 : ∀ e ∈ q0.map En.e, 0 ≤ e.sent ∧ e.sent ≤ 1000000) (hrm0 : room ≤ 9223372036854775807) (hH0 : Hs H ([(F, some (.cells ([lv, (.i .u32 nx)]) true))] ++ ((qseg lv lc) ++ ((q0.flatMap En.seg) ++ (D ++ (R)))))) : Ev tabA spA (.fn (.func 14) [] []) [.p (some (F, 0)), .i .i64 now, .i .i64 room] H (fun r H' => ∃ (q : List En) (ov : AV) (oc : List AV) (rows : List (List AV)) (D' : HL), r = ov ∧ q.map En.n = q0.map En.n ∧ q.map En.e = (take2 now (q0.map En.e) room).1 ∧ Sq 12 ov oc rows.flatten ∧ CxsR D' rows ((take2 now (q0.map En.e) room).2.map Ea.ca) ∧ (∀ x ∈ q, OctIn D' x.dv x.e.c.d) ∧ (∀ H', Hs H' D' → Hs H' D) ∧ Hs H' (qseg ov oc ++ ([(F, some (.cells ([lv, (.i .u32 nx)]) true))] ++ ((qseg lv lc) ++ ((q.flatMap En.seg) ++ (D' ++ (R))))))) := by
  refine Ev_C (F := x14) rfl ?_
  refine C_seq ?_
  refine C_region ?_
  refine O_box (z := [(.i .i64 now)]) rfl fun n1 H2 hN3 => ?_
  have hH4 := hH0.new hN3
  refine O_box (z := [(.i .i64 room)]) rfl fun n5 H6 hN7 => ?_
  have hH8 := hH4.new hN7
  refine O_alloc fun n9 H10 hN11 => ?_
  have hH12 := hH8.new hN11
  refine O_nil ?_
  refine C_seq ?_
  refine C_region ?_
  refine O_alloc fun n13 H14 hN15 => ?_
  have hH16 := hH12.new hN15
  refine O_nil ?_
  refine C_seq ?_
  refine C_seq ?_
  refine C_region ?_
  refine O_bslice (c := [(.i .i64 2), (.i .i64 0)]) rfl fun n17 H18 hN19 => ?_
  have hH20 := hH16.new hN19
  refine O_p (.i .i64 2) (r_len rfl) ?_
  refine O_p (.i .i64 0) (r_mv rfl) ?_
  refine O_nil ?_
  refine C_block ?_
  refine C_loop ?_
  refine C_seq ?_
  refine C_region ?_
  refine O_p (.b true) (r_bin rfl rfl rfl) ?_
  refine O_nil ?_
  refine C_seq ?_
  refine C_cond (x := true) rfl (fun _ => ?_) (fun h => by cases h)
  refine C_skip ?_
  refine C_seq ?_
  refine C_block ?_
  refine C_seq ?_
  refine C_region ?_
  refine O_p (.p (some (n17, 0))) (by exact (r_isl' rfl rfl (by decide) (by decide) rfl)) ?_
  refine O_p (.i .i64 2) (r_ld rfl hH20.get0 rfl) ?_
  refine O_p (.i .i64 2) (r_mv rfl) ?_
  refine O_nil ?_
  refine C_seq ?_
  refine C_region ?_
  refine O_p (.p (some (F, 0))) (r_mv rfl) ?_
  refine O_p (.i .i64 2) (r_mv rfl) ?_
  refine O_bslice (c := [(.i .i64 2)]) rfl fun n21 H22 hN23 => ?_
  have hH24 := hH20.new hN23
  refine O_call (Ev.mono (in_ev (F := F) (sb := n21) (ss := [2]) hH24) fun v25 H26 hq27 => ?_)
  obtain ⟨b28, b29, rfl, hH30⟩ := hq27
  refine O_nil ?_
  refine C_block ?_
  have hH31 := hH30.addnil
  refine C_rangeFn (g := 59) (first := []) (cap := [.p (some (b28, 0)), .p (some (b29, 0))]) rfl fun Tx L HLL hTx hNL0 => ?_
  obtain ⟨LB, hLB, hNL⟩ := hNL0.loop
  have hH32 := hH31.new hNL
  have hH33 := ((((((((((((((hH32.top13).top2).top6).top7).top8).top9).top10).top7).top13).top13).top13).top13).top13).top13)
  refine Ev.mono (in1_ev (F := F) (sb := n21) (nx := nx) (ss := [2]) (q0 := q0) hlv hql (by decide) (fun j HH => ∃ (q : List En), ∃ (ov : AV), ∃ (oc : List AV), ∃ (rw1 : List (List AV)), ∃ (D1 : HL), (q.map En.n = q0.map En.n) ∧ (q.map En.e = (takeL 2 now ((q0.map En.e).take j) room).1 ++ (q0.map En.e).drop j) ∧ ((takeL 2 now ((q0.map En.e).take j) room).2.2.2 = false) ∧ (Sq 12 ov oc rw1.flatten) ∧ (CxsR D1 rw1 ([] ++ (takeL 2 now ((q0.map En.e).take j) room).2.1.map Ea.ca)) ∧ (∀ x ∈ q, OctIn D1 x.dv x.e.c.d) ∧ (∀ H', Hs H' D1 → Hs H' D) ∧ Hs HH ([(b28, some (.cells ([(.p (some (F, 0)))]) true))] ++ ([(b29, some (.cells ([(.sl (some (n21, 0)) [2].length [2].length 0)]) true))] ++ ([(n21, some (.cells ([2].map fun z => AV.i IntKind.i64 z) true))] ++ ([(F, some (.cells ([lv, (.i .u32 nx)]) true))] ++ ((qseg lv lc) ++ ((q.flatMap En.seg) ++ ([(L, some LB)] ++ ([(n1, some (.cells ([(.i .i64 now)]) true))] ++ ([(n5, some (.cells ([(.i .i64 (takeL 2 now ((q0.map En.e).take j) room).2.2.1)]) true))] ++ ([(n9, some (.cells ([(.sl none 0 0 0)]) true))] ++ ([(n13, some (.cells ([ov]) true))] ++ ([(n17, some (.cells ([(.i .i64 2), (.i .i64 0)]) true))] ++ ((qseg ov oc) ++ (D1 ++ (R)))))))))))))))) (fun HH => ∃ (LB2 : Blk), ∃ (q : List En), ∃ (ov : AV), ∃ (oc : List AV), ∃ (rw1 : List (List AV)), ∃ (D1 : HL), (∃ z1 z2 z3 z4, LB2 = .loop .done (some .ret) z1 z2 z3 z4) ∧ (q.map En.n = q0.map En.n) ∧ (q.map En.e = (takeL 2 now (q0.map En.e) room).1) ∧ ((takeL 2 now (q0.map En.e) room).2.2.2 = true) ∧ (Sq 12 ov oc rw1.flatten) ∧ (CxsR D1 rw1 ([] ++ (takeL 2 now (q0.map En.e) room).2.1.map Ea.ca)) ∧ (∀ x ∈ q, OctIn D1 x.dv x.e.c.d) ∧ (∀ H', Hs H' D1 → Hs H' D) ∧ Hs HH ([(F, some (.cells ([lv, (.i .u32 nx)]) true))] ++ ((qseg lv lc) ++ ((q.flatMap En.seg) ++ ([(L, some LB2)] ++ ([(n9, some (.cells ([ov]) true))] ++ ((qseg ov oc) ++ (D1 ++ (R))))))))) ?_ ?_ ?_ ?_ ?_) fun v2 HE hE => ?_
  · exact ⟨q0, (.sl none 0 0 0), [], [], D, rfl, by rw [List.take_zero]; rfl, rfl, Sq.nil, by rw [List.take_zero]; exact CxsR.nil, hok, fun _ h => h, hH33⟩
  · rintro j H1 ⟨q, ov, oc, rw1, D1, hq0, hq1, hq2, hq3, hq4, hq5, hq6, hh⟩
    exact ⟨q, _, hq0, (tk_same hq1 tk_len), hh⟩
  · rintro j H1 H2 hn hk2 hok ⟨q, ov, oc, rw1, D1, hq0, hq1, hq2, hq3, hq4, hq5, hq6, hh⟩
    exact ⟨q, ov, oc, rw1, D1, hq0, hq1, hq2, hq3, hq4, hq5, hq6, hh.keep hn hk2 hok⟩
  · rintro j H1 e0 h0j hst ⟨q, ov, oc, rw1, D1, hq0, hq1, hq2, hq3, hq4, hq5, hq6, hh⟩
    have hts := tk_skip (S := 2) (now := now) (RM := room) h0j (by simpa using hst) hq2
    refine ⟨q, ov, oc, rw1, D1, hq0, by rw [hts]; exact tk_drop h0j hq1, by rw [hts], hq3, by rw [hts]; exact hq4, hq5, hq6, by rw [hts]; exact hh⟩
  ·
    rintro j HH e0 h0j hst ⟨q, ov, oc, rw1, D1, hq0, hq1, hq2, hq3, hq4, hq5, hq6, hHb⟩
    have hjl : j < q0.length := (List.getElem?_eq_some_iff.1 h0j).1
    obtain ⟨x, hxj, hxn, hxe⟩ := en_same (q := q) hq0 ((tk_same hq1 tk_len) j (Nat.le_refl _)) h0j
    rw [← hxn]
    refine Ev_yield ((hHb.get6).trans (congrArg some hLB)) rfl ?_
    refine C.te ?_ (hTx.cons 22 _)
    have hst2 : e0.e.st = 2 := by simpa using hst
    have hxs := hse0 x.e (by rw [hxe]; exact List.mem_of_getElem? (en_e h0j))
    have hxz := hsz0 x.e (by rw [hxe]; exact List.mem_of_getElem? (en_e h0j))
    have hrl := takeL_room (s := 2) (now := now) (l := (q0.map En.e).take j) (r := room)
    have hol := takeL_outs (s := 2) (now := now) (l := (q0.map En.e).take j) (r := room)
    have hrwl : rw1.length ≤ 200000 := by have h9 := hq4.1; rw [List.length_append, List.length_map] at h9; rw [List.length_take, List.length_map] at hol; simp only [List.length_nil] at h9; have h7 := Nat.min_le_right j q0.length; omega
    have hH34 := (hHb.top5)
    have hH35 := En.out hxj hH34
    obtain ⟨da, dc, dg, de, dhg, dhc, dhm, dhb⟩ := (hq5 x (List.mem_of_getElem? hxj))
    rw [de] at hH35
    obtain ⟨rm, hrm⟩ : ∃ z, z = (takeL 2 now ((q0.map En.e).take j) room).2.2.1 := ⟨_, rfl⟩
    rw [← hrm] at hH35 hrl
    refine C_region ?_
    refine O_p (.p (some (x.n, 0))) (r_mv rfl) ?_
    refine O_nil ?_
    refine ⟨rfl, _, _, _, _, _, (hH35.get7).trans (congrArg some hLB), fun H2 hWb => ?_⟩
    have hH36 := hH35.wr7 hWb
    refine C_block ?_
    refine C_seq ?_
    refine C_seq ?_
    by_cases hrf : rm < (x.e.c.d.length : Int)
    ·
      refine C_draw fun b37 H38 hbase39 hA40 => ?_
      have hH41 := hH36.keep (by have := hA40.1; omega) (fun q _ => hA40.2 q) ((hH36.old).aside hA40).ok
      refine D_l (v := (.p (some (x.n, 0)))) rfl rfl rfl (r_mv rfl) ?_
      refine D_r (v := (.i .i64 rm)) rfl rfl rfl (r_ld rfl hH41.get9 rfl) ?_
      refine D_call (Ev.mono (size_ev hH41) fun v42 H43 hq44 => ?_)
      obtain ⟨rfl, hH45⟩ := hq44
      refine And.intro (And.intro (Or.inr (look_run rfl rfl (r_ld rfl hH45.get9 rfl))) True.intro) ?_
      refine D_l (v := (.b true)) rfl rfl rfl (by exact (by rw [r_gtr rfl rfl, decide_eq_true hrf])) ?_
      refine D_nil ?_
      refine C_cond (x := true) rfl (fun _ => ?_) (fun h => by cases h)
      refine C_seq ?_
      refine C_region ?_
      obtain ⟨qa46, ql47, qc48, qg49, rfl⟩ := hq3.isSl
      refine O_p (.sl qa46 ql47 qc48 qg49) (r_ld rfl hH45.get11 rfl) ?_
      refine O_store (vs := [(.sl qa46 ql47 qc48 qg49)]) (c' := [(.sl qa46 ql47 qc48 qg49)]) rfl (by rfl) hH45.get10 rfl (List.cons_ne_nil _ _) (Nat.le_of_ble_eq_true rfl) rfl fun H50 hW51 => ?_
      have hH52 := hH45.wr10 hW51
      refine O_nil ?_
      refine C_ret ?_
      refine nx_ret ?_
      refine bk_ret ?_
      refine ⟨_, _, _, _, _, (hH52.get7), fun H4 hWr => ?_⟩
      have hH53 := hH52.wr7 hWr
      have hH54 := ((hH53.top1).top1)
      rw [← de] at hH54
      have hH55 := En.back0 hxj hH54
      have hH56 := (((((((hH55.sub1).sub1).sub1).sub4).sub4).sub5).sub5)
      have hH57 := (((((((hH56.top6).top6).top6).top6).top4).top6).top6)
      have hts := tk_stop (S := 2) (now := now) (RM := room) h0j hst2 hq2 (by rw [← hrm, ← hxe]; exact hrf)
      exact ⟨_, rfl, (fun h => by cases h), fun _ => ⟨_, q, (.sl qa46 ql47 qc48 qg49), oc, rw1, D1, ⟨_, _, _, _, rfl⟩, hq0, by rw [hts]; exact hq1, by rw [hts], hq3, by rw [hts]; exact hq4, hq5, hq6, hH57⟩⟩
    ·
      refine C_draw fun b58 H59 hbase60 hA61 => ?_
      have hH62 := hH36.keep (by have := hA61.1; omega) (fun q _ => hA61.2 q) ((hH36.old).aside hA61).ok
      refine D_l (v := (.p (some (x.n, 0)))) rfl rfl rfl (r_mv rfl) ?_
      refine D_r (v := (.i .i64 rm)) rfl rfl rfl (r_ld rfl hH62.get9 rfl) ?_
      refine D_call (Ev.mono (size_ev hH62) fun v63 H64 hq65 => ?_)
      obtain ⟨rfl, hH66⟩ := hq65
      refine And.intro (And.intro (Or.inr (look_run rfl rfl (r_ld rfl hH66.get9 rfl))) True.intro) ?_
      refine D_l (v := (.b false)) rfl rfl rfl (by exact (by rw [r_gtr rfl rfl, decide_eq_false hrf])) ?_
      refine D_nil ?_
      refine C_cond (x := false) rfl (fun h => by cases h) (fun _ => ?_)
      refine C_skip ?_
      refine C_seq ?_
      refine C_draw fun b67 H68 hbase69 hA70 => ?_
      have hH71 := hH66.keep (by have := hA70.1; omega) (fun q _ => hA70.2 q) ((hH66.old).aside hA70).ok
      refine D_l (v := (.p (some (x.n, 0)))) rfl rfl rfl (r_mv rfl) ?_
      refine D_r (v := (.i .i64 rm)) rfl rfl rfl (r_ld rfl hH71.get9 rfl) ?_
      refine D_call (Ev.mono (size_ev hH71) fun v72 H73 hq74 => ?_)
      obtain ⟨rfl, hH75⟩ := hq74
      refine And.intro (And.intro (Or.inr (look_run rfl rfl (r_ld rfl hH75.get9 rfl))) True.intro) ?_
      refine D_l (v := (.i .i64 (rm - (((x.e.c.d.length : Nat)) : Int)))) rfl rfl rfl (by exact (r_subi rfl rfl (wrap_i64 (by omega) (by omega)))) ?_
      refine D_store (vs := [(.i .i64 (rm - (((x.e.c.d.length : Nat)) : Int)))]) (c' := [(.i .i64 (rm - (((x.e.c.d.length : Nat)) : Int)))]) rfl (by rfl) hH75.get9 rfl (List.cons_ne_nil _ _) (Nat.le_of_ble_eq_true rfl) rfl fun H76 hW77 => ?_
      have hH78 := hH75.wr9 hW77
      refine And.intro (And.intro (Or.inl rfl) True.intro) ?_
      refine D_nil ?_
      refine C_seq ?_
      refine C_draw fun b79 H80 hbase81 hA82 => ?_
      have hH83 := hH78.keep (by have := hA82.1; omega) (fun q _ => hA82.2 q) ((hH78.old).aside hA82).ok
      refine D_l (v := (.p (some (x.n, 0)))) rfl rfl rfl (r_mv rfl) ?_
      refine D_l (v := (.p (some (x.n, 0)))) rfl rfl rfl (r_mv rfl) ?_
      refine D_l (v := (.p (some (x.n, 0)))) rfl rfl rfl (r_mv rfl) ?_
      refine D_l (v := (.p (some (x.n, 0)))) rfl rfl rfl (r_nilc rfl) ?_
      refine D_l (v := (.p (some (x.n, 13)))) rfl rfl rfl (r_fadd' rfl rfl) ?_
      refine D_r (v := (.i .i64 now)) rfl rfl rfl (r_ld rfl hH83.get8 rfl) ?_
      refine D_store (vs := [(.i .i64 1)]) (c' := [(.i .u8 x.e.c.k), (.i .u8 x.e.c.f), (.i .u32 x.e.a), (.i .u32 x.e.c.b), (.i .u16 x.e.c.o), (.i .u16 x.e.c.i), (.i .u32 x.e.c.p), x.e.c.x1, x.e.c.x2, x.e.c.x3, x.e.c.x4, (.sl da x.e.c.d.length dc dg), (.p (some (x.m, 0))), (.i .i64 1), (.i .i64 x.e.sent), (.i .i64 x.e.tm), (.i .i64 x.e.mi)]) rfl (by rfl) hH83.get0 rfl (List.cons_ne_nil _ _) (Nat.le_of_ble_eq_true rfl) rfl fun H84 hW85 => ?_
      have hH86 := hH83.wr0 hW85
      refine And.intro (And.intro (Or.inr (look_run rfl rfl (r_ld rfl hH86.get8 rfl))) True.intro) ?_
      refine D_l (v := (.p (some (x.n, 0)))) rfl rfl rfl (r_nilc rfl) ?_
      refine D_l (v := (.p (some (x.n, 15)))) rfl rfl rfl (r_fadd' rfl rfl) ?_
      refine D_store (vs := [(.i .i64 now)]) (c' := [(.i .u8 x.e.c.k), (.i .u8 x.e.c.f), (.i .u32 x.e.a), (.i .u32 x.e.c.b), (.i .u16 x.e.c.o), (.i .u16 x.e.c.i), (.i .u32 x.e.c.p), x.e.c.x1, x.e.c.x2, x.e.c.x3, x.e.c.x4, (.sl da x.e.c.d.length dc dg), (.p (some (x.m, 0))), (.i .i64 1), (.i .i64 x.e.sent), (.i .i64 now), (.i .i64 x.e.mi)]) rfl (by rfl) hH86.get0 rfl (List.cons_ne_nil _ _) (Nat.le_of_ble_eq_true rfl) rfl fun H87 hW88 => ?_
      have hH89 := hH86.wr0 hW88
      refine And.intro (And.intro (Or.inl rfl) True.intro) ?_
      refine D_l (v := (.p (some (x.n, 0)))) rfl rfl rfl (r_nilc rfl) ?_
      refine D_l (v := (.p (some (x.n, 16)))) rfl rfl rfl (r_fadd' rfl rfl) ?_
      refine D_store (vs := [(.i .i64 0)]) (c' := [(.i .u8 x.e.c.k), (.i .u8 x.e.c.f), (.i .u32 x.e.a), (.i .u32 x.e.c.b), (.i .u16 x.e.c.o), (.i .u16 x.e.c.i), (.i .u32 x.e.c.p), x.e.c.x1, x.e.c.x2, x.e.c.x3, x.e.c.x4, (.sl da x.e.c.d.length dc dg), (.p (some (x.m, 0))), (.i .i64 1), (.i .i64 x.e.sent), (.i .i64 now), (.i .i64 0)]) rfl (by rfl) hH89.get0 rfl (List.cons_ne_nil _ _) (Nat.le_of_ble_eq_true rfl) rfl fun H90 hW91 => ?_
      have hH92 := hH89.wr0 hW91
      refine And.intro True.intro ?_
      refine D_nil ?_
      refine C_seq ?_
      refine C_region ?_
      refine O_p (.p (some (x.n, 0))) (r_mv rfl) ?_
      refine O_p (.p (some (x.n, 0))) (r_nilc rfl) ?_
      refine O_p (.p (some (x.n, 14))) (r_fadd' rfl rfl) ?_
      refine O_p (.i .i64 x.e.sent) (r_ld rfl hH92.get0 rfl) ?_
      refine O_p (.i .i64 (x.e.sent + 1)) (by exact (r_addi rfl rfl (wrap_i64 (by omega) (by omega)))) ?_
      refine O_p (.p (some (x.n, 0))) (r_nilc rfl) ?_
      refine O_p (.p (some (x.n, 14))) (r_fadd' rfl rfl) ?_
      refine O_store (vs := [(.i .i64 (x.e.sent + 1))]) (c' := [(.i .u8 x.e.c.k), (.i .u8 x.e.c.f), (.i .u32 x.e.a), (.i .u32 x.e.c.b), (.i .u16 x.e.c.o), (.i .u16 x.e.c.i), (.i .u32 x.e.c.p), x.e.c.x1, x.e.c.x2, x.e.c.x3, x.e.c.x4, (.sl da x.e.c.d.length dc dg), (.p (some (x.m, 0))), (.i .i64 1), (.i .i64 (x.e.sent + 1)), (.i .i64 now), (.i .i64 0)]) rfl (by rfl) hH92.get0 rfl (List.cons_ne_nil _ _) (Nat.le_of_ble_eq_true rfl) rfl fun H93 hW94 => ?_
      have hH95 := hH92.wr0 hW94
      refine O_nil ?_
      refine C_seq ?_
      refine C_region ?_
      refine O_p (.p (some (x.n, 0))) (r_mv rfl) ?_
      refine O_p (.p (some (x.n, 0))) (r_nilc rfl) ?_
      refine O_p (.p (some (x.n, 0))) (r_fadd' rfl rfl) ?_
      refine O_p (.agg [(.i .u8 x.e.c.k), (.i .u8 x.e.c.f), (.i .u32 x.e.a), (.i .u32 x.e.c.b), (.i .u16 x.e.c.o), (.i .u16 x.e.c.i), (.i .u32 x.e.c.p), x.e.c.x1, x.e.c.x2, x.e.c.x3, x.e.c.x4, (.sl da x.e.c.d.length dc dg)]) (r_ldA rfl hH95.get0 rfl) ?_
      refine O_alloc fun n96 H97 hN98 => ?_
      have hH99 := hH95.new hN98
      refine O_store (vs := [(.i .u8 x.e.c.k), (.i .u8 x.e.c.f), (.i .u32 x.e.a), (.i .u32 x.e.c.b), (.i .u16 x.e.c.o), (.i .u16 x.e.c.i), (.i .u32 x.e.c.p), x.e.c.x1, x.e.c.x2, x.e.c.x3, x.e.c.x4, (.sl da x.e.c.d.length dc dg)]) (c' := [(.i .u8 x.e.c.k), (.i .u8 x.e.c.f), (.i .u32 x.e.a), (.i .u32 x.e.c.b), (.i .u16 x.e.c.o), (.i .u16 x.e.c.i), (.i .u32 x.e.c.p), x.e.c.x1, x.e.c.x2, x.e.c.x3, x.e.c.x4, (.sl da x.e.c.d.length dc dg)]) rfl (by rfl) hH99.get0 rfl (List.cons_ne_nil _ _) (Nat.le_of_ble_eq_true rfl) rfl fun H100 hW101 => ?_
      have hH102 := hH99.wr0 hW101
      refine O_nil ?_
      refine C_seq ?_
      refine C_region ?_
      refine O_p (.p (some (n96, 11))) (r_fadd' rfl rfl) ?_
      refine O_p (.sl da x.e.c.d.length dc dg) (r_ld rfl hH102.get0 rfl) ?_
      refine O_call (Ev.mono (clone_ev (tab := tabA) (sp := spA) rfl hH102.ok dhg (dhb _ hH102.top15.fst) (by first | omega | (simp only [List.length_take, List.length_drop, List.length_append, List.length_cons, List.length_nil, beN_len] <;> omega)) (by first | omega | (simp only [List.length_take, List.length_drop, List.length_append, List.length_cons, List.length_nil, beN_len] <;> omega)) (by first | omega | (simp only [List.length_replicate]; omega))) fun v103 H104 hq105 => ?_)
      obtain ⟨hM106, hK107⟩ := hq105
      obtain ⟨qa108, qg109, rfl, hqg110, _⟩ := hM106.own.bs
      have hH112 := Hs.ofMine hH102 hM106 hK107
      have hSq111 := Sq.ofMine hH102 hM106 hK107
      have hH113 := (hH112.top16)
      have hH114 := Hs.unassoc hH113
      refine O_p (.p (some (n96, 11))) (r_fadd' rfl rfl) ?_
      refine O_store (vs := [(.sl qa108 (x.e.c.d).length (x.e.c.d).length qg109)]) (c' := [(.i .u8 x.e.c.k), (.i .u8 x.e.c.f), (.i .u32 x.e.a), (.i .u32 x.e.c.b), (.i .u16 x.e.c.o), (.i .u16 x.e.c.i), (.i .u32 x.e.c.p), x.e.c.x1, x.e.c.x2, x.e.c.x3, x.e.c.x4, (.sl qa108 (x.e.c.d).length (x.e.c.d).length qg109)]) rfl (by rfl) hH114.get1 rfl (List.cons_ne_nil _ _) (Nat.le_of_ble_eq_true rfl) rfl fun H115 hW116 => ?_
      have hH117 := hH114.wr1 hW116
      refine O_nil ?_
      refine C_region ?_
      refine O_p ov (r_ld rfl hH117.get13 rfl) ?_
      refine O_p (.agg [(.i .u8 x.e.c.k), (.i .u8 x.e.c.f), (.i .u32 x.e.a), (.i .u32 x.e.c.b), (.i .u16 x.e.c.o), (.i .u16 x.e.c.i), (.i .u32 x.e.c.p), x.e.c.x1, x.e.c.x2, x.e.c.x3, x.e.c.x4, (.sl qa108 (x.e.c.d).length (x.e.c.d).length qg109)]) (r_ldA rfl hH117.get1 rfl) ?_
      refine O_bslice (c := [(.i .u8 x.e.c.k), (.i .u8 x.e.c.f), (.i .u32 x.e.a), (.i .u32 x.e.c.b), (.i .u16 x.e.c.o), (.i .u16 x.e.c.i), (.i .u32 x.e.c.p), x.e.c.x1, x.e.c.x2, x.e.c.x3, x.e.c.x4, (.sl qa108 (x.e.c.d).length (x.e.c.d).length qg109)]) rfl fun n118 H119 hN120 => ?_
      have hH121 := hH117.new hN120
      refine O_qh (by exact r_appq (n := rw1.length) (k := 1) (new := [(.i .u8 x.e.c.k), (.i .u8 x.e.c.f), (.i .u32 x.e.a), (.i .u32 x.e.c.b), (.i .u16 x.e.c.o), (.i .u16 x.e.c.i), (.i .u32 x.e.c.p), x.e.c.x1, x.e.c.x2, x.e.c.x3, x.e.c.x4, (.sl qa108 (x.e.c.d).length (x.e.c.d).length qg109)]) hH121.top16 hq3 rfl rfl rfl (src_blk hH121.get0 (by rfl)) rfl (by decide) (by decide) (flat_len hq4.lens) (by first | omega | (simp only [List.length_take, List.length_drop, List.length_append, List.length_cons, List.length_nil, beN_len] <;> omega))) fun o122 H123 hA125 => ?_
      obtain ⟨c124, hA125, hH126⟩ := hA125
      obtain ⟨qa127, ql128, qc129, qg130, rfl⟩ := hA125.isSl
      refine O_store (vs := [(.sl qa127 ql128 qc129 qg130)]) (c' := [(.sl qa127 ql128 qc129 qg130)]) rfl (by rfl) hH126.get15 rfl (List.cons_ne_nil _ _) (Nat.le_of_ble_eq_true rfl) rfl fun H131 hW132 => ?_
      have hH133 := hH126.wr15 hW132
      refine O_nil ?_
      refine ⟨_, _, _, _, _, (hH133.get11), fun H4 hWr => ?_⟩
      have hH134 := Hs.cong11 (B := [(L, some LB)]) (hH133.wr11 hWr) (by rw [hLB]; rfl)
      have hH135 := ((hH134.top5).top5)
      rw [← de] at hH135
      have hH136 := En.back (y := (⟨x.e.fly now, x.n, x.m, x.dv⟩ : En)) hxj hH135
      have hH137 := ((hH136.sub2).sub3)
      have hH138 := ((((((((((((((hH137.top2).top2).top13).top13).top13).top13).top13).top13).top8).top13).top13).top13).top13).top13)
      have hts := tk_fly (S := 2) (now := now) (RM := room) h0j hst2 hq2 (by rw [← hrm, ← hxe]; exact hrf)
      rw [← hxe] at hts
      exact ⟨_, rfl, fun _ => ⟨q.set j (⟨x.e.fly now, x.n, x.m, x.dv⟩ : En), (.sl qa127 ql128 qc129 qg130), c124, rw1 ++ [cxRow x.e.c x.e.a (.sl qa108 (x.e.c.d).length (x.e.c.d).length qg109)], (D1 ++ (qseg (.sl qa108 (x.e.c.d).length (x.e.c.d).length qg109) (bcells x.e.c.d))), set_names hxj rfl hq0, by rw [hts]; exact tk_set h0j hq1 tk_len, by rw [hts], by rw [← flat_snoc]; exact hA125, by rw [hts, List.map_append, ← List.append_assoc]; exact (hq4.mono fun _ hh => hh.fst).snoc (x := (x.e.c, x.e.a)) ⟨_, _, _, rfl, hqg110, Nat.le_refl _, by omega, fun _ hh => Sq.bs (R := []) hSq111 (by rw [List.append_nil]; exact hh.sub)⟩, set_all (fun z hz => (hq5 z hz).mono fun _ hh => hh.fst) ((hq5 x (List.mem_of_getElem? hxj)).mono fun _ hh => hh.fst), fun H2 hh => hq6 H2 hh.fst, by rw [hts, ← hrm]; exact hH138⟩, fun h => by cases h⟩
  rcases hE with hE | hE
  ·
    obtain ⟨q, ov, oc, rw1, D1, hq0, hq1, hq2, hq3, hq4, hq5, hq6, hHE⟩ := hE
    refine ⟨.ready, none, _, _, _, _, (hHE.get6).trans (congrArg some hLB), by decide, fun HD hD => ?_⟩
    have hH139 := hHE.drp6 hD
    have hta : (q0.map En.e).take q0.length = (q0.map En.e) := List.take_of_length_le (by rw [List.length_map]; exact Nat.le_refl _)
    have htd : (q0.map En.e).drop q0.length = [] := List.drop_eq_nil_of_le (by rw [List.length_map]; exact Nat.le_refl _)
    rw [htd, List.append_nil] at hq1
    rw [hta] at hq1 hq2 hq4 hH139
    have hn0 := hq0
    have he0 := hq1
    have hf0 := hq2
    have hs0 := hq3
    have hc0 := hq4
    have ho0k := hq5
    have hm0 := hq6
    have hrl0 := takeL_room (s := 2) (now := now) (l := q0.map En.e) (r := room)
    have hse1 : ∀ e ∈ q.map En.e, 0 ≤ e.sent ∧ e.sent ≤ 1000001 := by rw [he0]; exact takeL_all (P := fun e => 0 ≤ e.sent ∧ e.sent ≤ 1000000) (fun e h => ⟨h.1, by omega⟩) (fun e h => ⟨by show 0 ≤ e.sent + 1; omega, by show e.sent + 1 ≤ _; omega⟩) hse0
    have hsz1 : ∀ e ∈ q.map En.e, e.c.d.length ≤ 1000000 := by rw [he0]; exact takeL_all (fun e h => h) (fun e h => h) hsz0
    have hql1 : q.length ≤ 100000 := by have h9 := congrArg List.length hn0; rw [List.length_map, List.length_map] at h9; omega
    have hlv1 : Sq 1 lv lc (q.map En.pr).flatten := by rw [pr_map hn0]; exact hlv
    refine C_region ?_
    refine O_p (.i .i64 1) (r_bin rfl rfl rfl) ?_
    refine O_p (.i .i64 1) (r_mv rfl) ?_
    refine O_nil ?_
    refine C_loop ?_
    refine C_seq ?_
    refine C_region ?_
    refine O_p (.b true) (r_bin rfl rfl rfl) ?_
    refine O_nil ?_
    refine C_seq ?_
    refine C_cond (x := true) rfl (fun _ => ?_) (fun h => by cases h)
    refine C_skip ?_
    refine C_seq ?_
    refine C_block ?_
    refine C_seq ?_
    refine C_region ?_
    refine O_p (.p (some (n17, 1))) (by exact (r_isl' rfl rfl (by decide) (by decide) rfl)) ?_
    refine O_p (.i .i64 0) (r_ld rfl hH139.get10 rfl) ?_
    refine O_p (.i .i64 0) (r_mv rfl) ?_
    refine O_nil ?_
    refine C_seq ?_
    refine C_region ?_
    refine O_p (.p (some (F, 0))) (r_mv rfl) ?_
    refine O_p (.i .i64 0) (r_mv rfl) ?_
    refine O_bslice (c := [(.i .i64 0)]) rfl fun n140 H141 hN142 => ?_
    have hH143 := hH139.new hN142
    refine O_call (Ev.mono (in_ev (F := F) (sb := n140) (ss := [0]) hH143) fun v144 H145 hq146 => ?_)
    obtain ⟨b147, b148, rfl, hH149⟩ := hq146
    refine O_nil ?_
    refine C_block ?_
    refine C_rangeFn (g := 59) (first := []) (cap := [.p (some (b147, 0)), .p (some (b148, 0))]) rfl fun Tx L HLL hTx hNL0 => ?_
    obtain ⟨LB, hLB, hNL⟩ := hNL0.loop
    have hH150 := hH149.new hNL
    have hH151 := (((hH150.sub4).sub4).sub4)
    have hH152 := ((((((((((((((hH151.top13).top13).top13).top13).top13).top13).top13).top7).top13).top13).top13).top13).top13).top13)
    refine Ev.mono (in1_ev (F := F) (sb := n140) (nx := nx) (ss := [0]) (q0 := q) hlv1 hql1 (by decide) (fun j HH => ∃ (q2 : List En), ∃ (ow : AV), ∃ (od : List AV), ∃ (rw2 : List (List AV)), ∃ (D2 : HL), (q2.map En.n = q.map En.n) ∧ (q2.map En.e = (takeL 0 now ((q.map En.e).take j) (takeL 2 now (q0.map En.e) room).2.2.1).1 ++ (q.map En.e).drop j) ∧ ((takeL 0 now ((q.map En.e).take j) (takeL 2 now (q0.map En.e) room).2.2.1).2.2.2 = false) ∧ (Sq 12 ow od rw2.flatten) ∧ (CxsR D2 rw2 (((takeL 2 now (q0.map En.e) room).2.1.map Ea.ca) ++ (takeL 0 now ((q.map En.e).take j) (takeL 2 now (q0.map En.e) room).2.2.1).2.1.map Ea.ca)) ∧ (∀ x ∈ q2, OctIn D2 x.dv x.e.c.d) ∧ (∀ H', Hs H' D2 → Hs H' D1) ∧ Hs HH ([(b147, some (.cells ([(.p (some (F, 0)))]) true))] ++ ([(b148, some (.cells ([(.sl (some (n140, 0)) [0].length [0].length 0)]) true))] ++ ([(n140, some (.cells ([0].map fun z => AV.i IntKind.i64 z) true))] ++ ([(F, some (.cells ([lv, (.i .u32 nx)]) true))] ++ ((qseg lv lc) ++ ((q2.flatMap En.seg) ++ ([(L, some LB)] ++ ([(n1, some (.cells ([(.i .i64 now)]) true))] ++ ([(n5, some (.cells ([(.i .i64 (takeL 0 now ((q.map En.e).take j) (takeL 2 now (q0.map En.e) room).2.2.1).2.2.1)]) true))] ++ ([(n9, some (.cells ([(.sl none 0 0 0)]) true))] ++ ([(n13, some (.cells ([ow]) true))] ++ ([(n17, some (.cells ([(.i .i64 2), (.i .i64 0)]) true))] ++ ((qseg ow od) ++ (D2 ++ (R)))))))))))))))) (fun HH => ∃ (LB2 : Blk), ∃ (q2 : List En), ∃ (ow : AV), ∃ (od : List AV), ∃ (rw2 : List (List AV)), ∃ (D2 : HL), (∃ z1 z2 z3 z4, LB2 = .loop .done (some .ret) z1 z2 z3 z4) ∧ (q2.map En.n = q.map En.n) ∧ (q2.map En.e = (takeL 0 now (q.map En.e) (takeL 2 now (q0.map En.e) room).2.2.1).1) ∧ ((takeL 0 now (q.map En.e) (takeL 2 now (q0.map En.e) room).2.2.1).2.2.2 = true) ∧ (Sq 12 ow od rw2.flatten) ∧ (CxsR D2 rw2 (((takeL 2 now (q0.map En.e) room).2.1.map Ea.ca) ++ (takeL 0 now (q.map En.e) (takeL 2 now (q0.map En.e) room).2.2.1).2.1.map Ea.ca)) ∧ (∀ x ∈ q2, OctIn D2 x.dv x.e.c.d) ∧ (∀ H', Hs H' D2 → Hs H' D1) ∧ Hs HH ([(F, some (.cells ([lv, (.i .u32 nx)]) true))] ++ ((qseg lv lc) ++ ((q2.flatMap En.seg) ++ ([(L, some LB2)] ++ ([(n9, some (.cells ([ow]) true))] ++ ((qseg ow od) ++ (D2 ++ (R))))))))) ?_ ?_ ?_ ?_ ?_) fun v2 HE hE => ?_
    · exact ⟨q, ov, oc, rw1, D1, rfl, by rw [List.take_zero]; rfl, rfl, hs0, by rw [List.take_zero]; show CxsR D1 rw1 (_ ++ []); rw [List.append_nil]; exact hc0, ho0k, fun _ h => h, hH152⟩
    · rintro j H1 ⟨q2, ow, od, rw2, D2, hq0, hq1, hq2, hq3, hq4, hq5, hq6, hh⟩
      exact ⟨q2, _, hq0, (tk_same hq1 tk_len), hh⟩
    · rintro j H1 H2 hn hk2 hok ⟨q2, ow, od, rw2, D2, hq0, hq1, hq2, hq3, hq4, hq5, hq6, hh⟩
      exact ⟨q2, ow, od, rw2, D2, hq0, hq1, hq2, hq3, hq4, hq5, hq6, hh.keep hn hk2 hok⟩
    · rintro j H1 e0 h0j hst ⟨q2, ow, od, rw2, D2, hq0, hq1, hq2, hq3, hq4, hq5, hq6, hh⟩
      have hts := tk_skip (S := 0) (now := now) (RM := (takeL 2 now (q0.map En.e) room).2.2.1) h0j (by simpa using hst) hq2
      refine ⟨q2, ow, od, rw2, D2, hq0, by rw [hts]; exact tk_drop h0j hq1, by rw [hts], hq3, by rw [hts]; exact hq4, hq5, hq6, by rw [hts]; exact hh⟩
    ·
      rintro j HH e0 h0j hst ⟨q2, ow, od, rw2, D2, hq0, hq1, hq2, hq3, hq4, hq5, hq6, hHb⟩
      have hjl : j < q.length := (List.getElem?_eq_some_iff.1 h0j).1
      obtain ⟨x, hxj, hxn, hxe⟩ := en_same (q := q2) hq0 ((tk_same hq1 tk_len) j (Nat.le_refl _)) h0j
      rw [← hxn]
      refine Ev_yield ((hHb.get6).trans (congrArg some hLB)) rfl ?_
      refine C.te ?_ (hTx.cons 22 _)
      have hst2 : e0.e.st = 0 := by simpa using hst
      have hxs := hse1 x.e (by rw [hxe]; exact List.mem_of_getElem? (en_e h0j))
      have hxz := hsz1 x.e (by rw [hxe]; exact List.mem_of_getElem? (en_e h0j))
      have hrl := takeL_room (s := 0) (now := now) (l := (q.map En.e).take j) (r := (takeL 2 now (q0.map En.e) room).2.2.1)
      have hol := takeL_outs (s := 0) (now := now) (l := (q.map En.e).take j) (r := (takeL 2 now (q0.map En.e) room).2.2.1)
      have hrwl : rw2.length ≤ 200000 := by have h9 := hq4.1; rw [List.length_append, List.length_map] at h9; rw [List.length_take, List.length_map] at hol; rw [List.length_map] at h9; have h8 := takeL_outs (s := 2) (now := now) (l := q0.map En.e) (r := room); rw [List.length_map] at h8; have h7 := Nat.min_le_right j q.length; omega
      have hH153 := (hHb.top5)
      have hH154 := En.out hxj hH153
      obtain ⟨da, dc, dg, de, dhg, dhc, dhm, dhb⟩ := (hq5 x (List.mem_of_getElem? hxj))
      rw [de] at hH154
      obtain ⟨rm, hrm⟩ : ∃ z, z = (takeL 0 now ((q.map En.e).take j) (takeL 2 now (q0.map En.e) room).2.2.1).2.2.1 := ⟨_, rfl⟩
      rw [← hrm] at hH154 hrl
      refine C_region ?_
      refine O_p (.p (some (x.n, 0))) (r_mv rfl) ?_
      refine O_nil ?_
      refine ⟨rfl, _, _, _, _, _, (hH154.get7).trans (congrArg some hLB), fun H2 hWb => ?_⟩
      have hH155 := hH154.wr7 hWb
      refine C_block ?_
      refine C_seq ?_
      refine C_seq ?_
      by_cases hrf : rm < (x.e.c.d.length : Int)
      ·
        refine C_draw fun b156 H157 hbase158 hA159 => ?_
        have hH160 := hH155.keep (by have := hA159.1; omega) (fun q _ => hA159.2 q) ((hH155.old).aside hA159).ok
        refine D_l (v := (.p (some (x.n, 0)))) rfl rfl rfl (r_mv rfl) ?_
        refine D_r (v := (.i .i64 rm)) rfl rfl rfl (r_ld rfl hH160.get9 rfl) ?_
        refine D_call (Ev.mono (size_ev hH160) fun v161 H162 hq163 => ?_)
        obtain ⟨rfl, hH164⟩ := hq163
        refine And.intro (And.intro (Or.inr (look_run rfl rfl (r_ld rfl hH164.get9 rfl))) True.intro) ?_
        refine D_l (v := (.b true)) rfl rfl rfl (by exact (by rw [r_gtr rfl rfl, decide_eq_true hrf])) ?_
        refine D_nil ?_
        refine C_cond (x := true) rfl (fun _ => ?_) (fun h => by cases h)
        refine C_seq ?_
        refine C_region ?_
        obtain ⟨qa165, ql166, qc167, qg168, rfl⟩ := hq3.isSl
        refine O_p (.sl qa165 ql166 qc167 qg168) (r_ld rfl hH164.get11 rfl) ?_
        refine O_store (vs := [(.sl qa165 ql166 qc167 qg168)]) (c' := [(.sl qa165 ql166 qc167 qg168)]) rfl (by rfl) hH164.get10 rfl (List.cons_ne_nil _ _) (Nat.le_of_ble_eq_true rfl) rfl fun H169 hW170 => ?_
        have hH171 := hH164.wr10 hW170
        refine O_nil ?_
        refine C_ret ?_
        refine nx_ret ?_
        refine bk_ret ?_
        refine ⟨_, _, _, _, _, (hH171.get7), fun H4 hWr => ?_⟩
        have hH172 := hH171.wr7 hWr
        have hH173 := ((hH172.top1).top1)
        rw [← de] at hH173
        have hH174 := En.back0 hxj hH173
        have hH175 := (((((((hH174.sub1).sub1).sub1).sub4).sub4).sub5).sub5)
        have hH176 := (((((((hH175.top6).top6).top6).top6).top4).top6).top6)
        have hts := tk_stop (S := 0) (now := now) (RM := (takeL 2 now (q0.map En.e) room).2.2.1) h0j hst2 hq2 (by rw [← hrm, ← hxe]; exact hrf)
        exact ⟨_, rfl, (fun h => by cases h), fun _ => ⟨_, q2, (.sl qa165 ql166 qc167 qg168), od, rw2, D2, ⟨_, _, _, _, rfl⟩, hq0, by rw [hts]; exact hq1, by rw [hts], hq3, by rw [hts]; exact hq4, hq5, hq6, hH176⟩⟩
      ·
        refine C_draw fun b177 H178 hbase179 hA180 => ?_
        have hH181 := hH155.keep (by have := hA180.1; omega) (fun q _ => hA180.2 q) ((hH155.old).aside hA180).ok
        refine D_l (v := (.p (some (x.n, 0)))) rfl rfl rfl (r_mv rfl) ?_
        refine D_r (v := (.i .i64 rm)) rfl rfl rfl (r_ld rfl hH181.get9 rfl) ?_
        refine D_call (Ev.mono (size_ev hH181) fun v182 H183 hq184 => ?_)
        obtain ⟨rfl, hH185⟩ := hq184
        refine And.intro (And.intro (Or.inr (look_run rfl rfl (r_ld rfl hH185.get9 rfl))) True.intro) ?_
        refine D_l (v := (.b false)) rfl rfl rfl (by exact (by rw [r_gtr rfl rfl, decide_eq_false hrf])) ?_
        refine D_nil ?_
        refine C_cond (x := false) rfl (fun h => by cases h) (fun _ => ?_)
        refine C_skip ?_
        refine C_seq ?_
        refine C_draw fun b186 H187 hbase188 hA189 => ?_
        have hH190 := hH185.keep (by have := hA189.1; omega) (fun q _ => hA189.2 q) ((hH185.old).aside hA189).ok
        refine D_l (v := (.p (some (x.n, 0)))) rfl rfl rfl (r_mv rfl) ?_
        refine D_r (v := (.i .i64 rm)) rfl rfl rfl (r_ld rfl hH190.get9 rfl) ?_
        refine D_call (Ev.mono (size_ev hH190) fun v191 H192 hq193 => ?_)
        obtain ⟨rfl, hH194⟩ := hq193
        refine And.intro (And.intro (Or.inr (look_run rfl rfl (r_ld rfl hH194.get9 rfl))) True.intro) ?_
        refine D_l (v := (.i .i64 (rm - (((x.e.c.d.length : Nat)) : Int)))) rfl rfl rfl (by exact (r_subi rfl rfl (wrap_i64 (by omega) (by omega)))) ?_
        refine D_store (vs := [(.i .i64 (rm - (((x.e.c.d.length : Nat)) : Int)))]) (c' := [(.i .i64 (rm - (((x.e.c.d.length : Nat)) : Int)))]) rfl (by rfl) hH194.get9 rfl (List.cons_ne_nil _ _) (Nat.le_of_ble_eq_true rfl) rfl fun H195 hW196 => ?_
        have hH197 := hH194.wr9 hW196
        refine And.intro (And.intro (Or.inl rfl) True.intro) ?_
        refine D_nil ?_
        refine C_seq ?_
        refine C_draw fun b198 H199 hbase200 hA201 => ?_
        have hH202 := hH197.keep (by have := hA201.1; omega) (fun q _ => hA201.2 q) ((hH197.old).aside hA201).ok
        refine D_l (v := (.p (some (x.n, 0)))) rfl rfl rfl (r_mv rfl) ?_
        refine D_l (v := (.p (some (x.n, 0)))) rfl rfl rfl (r_mv rfl) ?_
        refine D_l (v := (.p (some (x.n, 0)))) rfl rfl rfl (r_mv rfl) ?_
        refine D_l (v := (.p (some (x.n, 0)))) rfl rfl rfl (r_nilc rfl) ?_
        refine D_l (v := (.p (some (x.n, 13)))) rfl rfl rfl (r_fadd' rfl rfl) ?_
        refine D_r (v := (.i .i64 now)) rfl rfl rfl (r_ld rfl hH202.get8 rfl) ?_
        refine D_store (vs := [(.i .i64 1)]) (c' := [(.i .u8 x.e.c.k), (.i .u8 x.e.c.f), (.i .u32 x.e.a), (.i .u32 x.e.c.b), (.i .u16 x.e.c.o), (.i .u16 x.e.c.i), (.i .u32 x.e.c.p), x.e.c.x1, x.e.c.x2, x.e.c.x3, x.e.c.x4, (.sl da x.e.c.d.length dc dg), (.p (some (x.m, 0))), (.i .i64 1), (.i .i64 x.e.sent), (.i .i64 x.e.tm), (.i .i64 x.e.mi)]) rfl (by rfl) hH202.get0 rfl (List.cons_ne_nil _ _) (Nat.le_of_ble_eq_true rfl) rfl fun H203 hW204 => ?_
        have hH205 := hH202.wr0 hW204
        refine And.intro (And.intro (Or.inr (look_run rfl rfl (r_ld rfl hH205.get8 rfl))) True.intro) ?_
        refine D_l (v := (.p (some (x.n, 0)))) rfl rfl rfl (r_nilc rfl) ?_
        refine D_l (v := (.p (some (x.n, 15)))) rfl rfl rfl (r_fadd' rfl rfl) ?_
        refine D_store (vs := [(.i .i64 now)]) (c' := [(.i .u8 x.e.c.k), (.i .u8 x.e.c.f), (.i .u32 x.e.a), (.i .u32 x.e.c.b), (.i .u16 x.e.c.o), (.i .u16 x.e.c.i), (.i .u32 x.e.c.p), x.e.c.x1, x.e.c.x2, x.e.c.x3, x.e.c.x4, (.sl da x.e.c.d.length dc dg), (.p (some (x.m, 0))), (.i .i64 1), (.i .i64 x.e.sent), (.i .i64 now), (.i .i64 x.e.mi)]) rfl (by rfl) hH205.get0 rfl (List.cons_ne_nil _ _) (Nat.le_of_ble_eq_true rfl) rfl fun H206 hW207 => ?_
        have hH208 := hH205.wr0 hW207
        refine And.intro (And.intro (Or.inl rfl) True.intro) ?_
        refine D_l (v := (.p (some (x.n, 0)))) rfl rfl rfl (r_nilc rfl) ?_
        refine D_l (v := (.p (some (x.n, 16)))) rfl rfl rfl (r_fadd' rfl rfl) ?_
        refine D_store (vs := [(.i .i64 0)]) (c' := [(.i .u8 x.e.c.k), (.i .u8 x.e.c.f), (.i .u32 x.e.a), (.i .u32 x.e.c.b), (.i .u16 x.e.c.o), (.i .u16 x.e.c.i), (.i .u32 x.e.c.p), x.e.c.x1, x.e.c.x2, x.e.c.x3, x.e.c.x4, (.sl da x.e.c.d.length dc dg), (.p (some (x.m, 0))), (.i .i64 1), (.i .i64 x.e.sent), (.i .i64 now), (.i .i64 0)]) rfl (by rfl) hH208.get0 rfl (List.cons_ne_nil _ _) (Nat.le_of_ble_eq_true rfl) rfl fun H209 hW210 => ?_
        have hH211 := hH208.wr0 hW210
        refine And.intro True.intro ?_
        refine D_nil ?_
        refine C_seq ?_
        refine C_region ?_
        refine O_p (.p (some (x.n, 0))) (r_mv rfl) ?_
        refine O_p (.p (some (x.n, 0))) (r_nilc rfl) ?_
        refine O_p (.p (some (x.n, 14))) (r_fadd' rfl rfl) ?_
        refine O_p (.i .i64 x.e.sent) (r_ld rfl hH211.get0 rfl) ?_
        refine O_p (.i .i64 (x.e.sent + 1)) (by exact (r_addi rfl rfl (wrap_i64 (by omega) (by omega)))) ?_
        refine O_p (.p (some (x.n, 0))) (r_nilc rfl) ?_
        refine O_p (.p (some (x.n, 14))) (r_fadd' rfl rfl) ?_
        refine O_store (vs := [(.i .i64 (x.e.sent + 1))]) (c' := [(.i .u8 x.e.c.k), (.i .u8 x.e.c.f), (.i .u32 x.e.a), (.i .u32 x.e.c.b), (.i .u16 x.e.c.o), (.i .u16 x.e.c.i), (.i .u32 x.e.c.p), x.e.c.x1, x.e.c.x2, x.e.c.x3, x.e.c.x4, (.sl da x.e.c.d.length dc dg), (.p (some (x.m, 0))), (.i .i64 1), (.i .i64 (x.e.sent + 1)), (.i .i64 now), (.i .i64 0)]) rfl (by rfl) hH211.get0 rfl (List.cons_ne_nil _ _) (Nat.le_of_ble_eq_true rfl) rfl fun H212 hW213 => ?_
        have hH214 := hH211.wr0 hW213
        refine O_nil ?_
        refine C_seq ?_
        refine C_region ?_
        refine O_p (.p (some (x.n, 0))) (r_mv rfl) ?_
        refine O_p (.p (some (x.n, 0))) (r_nilc rfl) ?_
        refine O_p (.p (some (x.n, 0))) (r_fadd' rfl rfl) ?_
        refine O_p (.agg [(.i .u8 x.e.c.k), (.i .u8 x.e.c.f), (.i .u32 x.e.a), (.i .u32 x.e.c.b), (.i .u16 x.e.c.o), (.i .u16 x.e.c.i), (.i .u32 x.e.c.p), x.e.c.x1, x.e.c.x2, x.e.c.x3, x.e.c.x4, (.sl da x.e.c.d.length dc dg)]) (r_ldA rfl hH214.get0 rfl) ?_
        refine O_alloc fun n215 H216 hN217 => ?_
        have hH218 := hH214.new hN217
        refine O_store (vs := [(.i .u8 x.e.c.k), (.i .u8 x.e.c.f), (.i .u32 x.e.a), (.i .u32 x.e.c.b), (.i .u16 x.e.c.o), (.i .u16 x.e.c.i), (.i .u32 x.e.c.p), x.e.c.x1, x.e.c.x2, x.e.c.x3, x.e.c.x4, (.sl da x.e.c.d.length dc dg)]) (c' := [(.i .u8 x.e.c.k), (.i .u8 x.e.c.f), (.i .u32 x.e.a), (.i .u32 x.e.c.b), (.i .u16 x.e.c.o), (.i .u16 x.e.c.i), (.i .u32 x.e.c.p), x.e.c.x1, x.e.c.x2, x.e.c.x3, x.e.c.x4, (.sl da x.e.c.d.length dc dg)]) rfl (by rfl) hH218.get0 rfl (List.cons_ne_nil _ _) (Nat.le_of_ble_eq_true rfl) rfl fun H219 hW220 => ?_
        have hH221 := hH218.wr0 hW220
        refine O_nil ?_
        refine C_seq ?_
        refine C_region ?_
        refine O_p (.p (some (n215, 11))) (r_fadd' rfl rfl) ?_
        refine O_p (.sl da x.e.c.d.length dc dg) (r_ld rfl hH221.get0 rfl) ?_
        refine O_call (Ev.mono (clone_ev (tab := tabA) (sp := spA) rfl hH221.ok dhg (dhb _ hH221.top15.fst) (by first | omega | (simp only [List.length_take, List.length_drop, List.length_append, List.length_cons, List.length_nil, beN_len] <;> omega)) (by first | omega | (simp only [List.length_take, List.length_drop, List.length_append, List.length_cons, List.length_nil, beN_len] <;> omega)) (by first | omega | (simp only [List.length_replicate]; omega))) fun v222 H223 hq224 => ?_)
        obtain ⟨hM225, hK226⟩ := hq224
        obtain ⟨qa227, qg228, rfl, hqg229, _⟩ := hM225.own.bs
        have hH231 := Hs.ofMine hH221 hM225 hK226
        have hSq230 := Sq.ofMine hH221 hM225 hK226
        have hH232 := (hH231.top16)
        have hH233 := Hs.unassoc hH232
        refine O_p (.p (some (n215, 11))) (r_fadd' rfl rfl) ?_
        refine O_store (vs := [(.sl qa227 (x.e.c.d).length (x.e.c.d).length qg228)]) (c' := [(.i .u8 x.e.c.k), (.i .u8 x.e.c.f), (.i .u32 x.e.a), (.i .u32 x.e.c.b), (.i .u16 x.e.c.o), (.i .u16 x.e.c.i), (.i .u32 x.e.c.p), x.e.c.x1, x.e.c.x2, x.e.c.x3, x.e.c.x4, (.sl qa227 (x.e.c.d).length (x.e.c.d).length qg228)]) rfl (by rfl) hH233.get1 rfl (List.cons_ne_nil _ _) (Nat.le_of_ble_eq_true rfl) rfl fun H234 hW235 => ?_
        have hH236 := hH233.wr1 hW235
        refine O_nil ?_
        refine C_region ?_
        refine O_p ow (r_ld rfl hH236.get13 rfl) ?_
        refine O_p (.agg [(.i .u8 x.e.c.k), (.i .u8 x.e.c.f), (.i .u32 x.e.a), (.i .u32 x.e.c.b), (.i .u16 x.e.c.o), (.i .u16 x.e.c.i), (.i .u32 x.e.c.p), x.e.c.x1, x.e.c.x2, x.e.c.x3, x.e.c.x4, (.sl qa227 (x.e.c.d).length (x.e.c.d).length qg228)]) (r_ldA rfl hH236.get1 rfl) ?_
        refine O_bslice (c := [(.i .u8 x.e.c.k), (.i .u8 x.e.c.f), (.i .u32 x.e.a), (.i .u32 x.e.c.b), (.i .u16 x.e.c.o), (.i .u16 x.e.c.i), (.i .u32 x.e.c.p), x.e.c.x1, x.e.c.x2, x.e.c.x3, x.e.c.x4, (.sl qa227 (x.e.c.d).length (x.e.c.d).length qg228)]) rfl fun n237 H238 hN239 => ?_
        have hH240 := hH236.new hN239
        refine O_qh (by exact r_appq (n := rw2.length) (k := 1) (new := [(.i .u8 x.e.c.k), (.i .u8 x.e.c.f), (.i .u32 x.e.a), (.i .u32 x.e.c.b), (.i .u16 x.e.c.o), (.i .u16 x.e.c.i), (.i .u32 x.e.c.p), x.e.c.x1, x.e.c.x2, x.e.c.x3, x.e.c.x4, (.sl qa227 (x.e.c.d).length (x.e.c.d).length qg228)]) hH240.top16 hq3 rfl rfl rfl (src_blk hH240.get0 (by rfl)) rfl (by decide) (by decide) (flat_len hq4.lens) (by first | omega | (simp only [List.length_take, List.length_drop, List.length_append, List.length_cons, List.length_nil, beN_len] <;> omega))) fun o241 H242 hA244 => ?_
        obtain ⟨c243, hA244, hH245⟩ := hA244
        obtain ⟨qa246, ql247, qc248, qg249, rfl⟩ := hA244.isSl
        refine O_store (vs := [(.sl qa246 ql247 qc248 qg249)]) (c' := [(.sl qa246 ql247 qc248 qg249)]) rfl (by rfl) hH245.get15 rfl (List.cons_ne_nil _ _) (Nat.le_of_ble_eq_true rfl) rfl fun H250 hW251 => ?_
        have hH252 := hH245.wr15 hW251
        refine O_nil ?_
        refine ⟨_, _, _, _, _, (hH252.get11), fun H4 hWr => ?_⟩
        have hH253 := Hs.cong11 (B := [(L, some LB)]) (hH252.wr11 hWr) (by rw [hLB]; rfl)
        have hH254 := ((hH253.top5).top5)
        rw [← de] at hH254
        have hH255 := En.back (y := (⟨x.e.fly now, x.n, x.m, x.dv⟩ : En)) hxj hH254
        have hH256 := ((hH255.sub2).sub3)
        have hH257 := ((((((((((((((hH256.top2).top2).top13).top13).top13).top13).top13).top13).top8).top13).top13).top13).top13).top13)
        have hts := tk_fly (S := 0) (now := now) (RM := (takeL 2 now (q0.map En.e) room).2.2.1) h0j hst2 hq2 (by rw [← hrm, ← hxe]; exact hrf)
        rw [← hxe] at hts
        exact ⟨_, rfl, fun _ => ⟨q2.set j (⟨x.e.fly now, x.n, x.m, x.dv⟩ : En), (.sl qa246 ql247 qc248 qg249), c243, rw2 ++ [cxRow x.e.c x.e.a (.sl qa227 (x.e.c.d).length (x.e.c.d).length qg228)], (D2 ++ (qseg (.sl qa227 (x.e.c.d).length (x.e.c.d).length qg228) (bcells x.e.c.d))), set_names hxj rfl hq0, by rw [hts]; exact tk_set h0j hq1 tk_len, by rw [hts], by rw [← flat_snoc]; exact hA244, by rw [hts, List.map_append, ← List.append_assoc]; exact (hq4.mono fun _ hh => hh.fst).snoc (x := (x.e.c, x.e.a)) ⟨_, _, _, rfl, hqg229, Nat.le_refl _, by omega, fun _ hh => Sq.bs (R := []) hSq230 (by rw [List.append_nil]; exact hh.sub)⟩, set_all (fun z hz => (hq5 z hz).mono fun _ hh => hh.fst) ((hq5 x (List.mem_of_getElem? hxj)).mono fun _ hh => hh.fst), fun H2 hh => hq6 H2 hh.fst, by rw [hts, ← hrm]; exact hH257⟩, fun h => by cases h⟩
    rcases hE with hE | hE
    ·
      obtain ⟨q2, ow, od, rw2, D2, hq0, hq1, hq2, hq3, hq4, hq5, hq6, hHE⟩ := hE
      refine ⟨.ready, none, _, _, _, _, (hHE.get6).trans (congrArg some hLB), by decide, fun HD hD => ?_⟩
      have hH258 := hHE.drp6 hD
      have hta : (q.map En.e).take q.length = (q.map En.e) := List.take_of_length_le (by rw [List.length_map]; exact Nat.le_refl _)
      have htd : (q.map En.e).drop q.length = [] := List.drop_eq_nil_of_le (by rw [List.length_map]; exact Nat.le_refl _)
      rw [htd, List.append_nil] at hq1
      rw [hta] at hq1 hq2 hq4 hH258
      have hn1 := hq0
      have he1 := hq1
      have hf1 := hq2
      have hs1 := hq3
      have hc1 := hq4
      have ho1k := hq5
      have hm1 := hq6
      refine C_region ?_
      refine O_p (.i .i64 2) (r_bin rfl rfl rfl) ?_
      refine O_p (.i .i64 2) (r_mv rfl) ?_
      refine O_nil ?_
      refine C_loop ?_
      refine C_seq ?_
      refine C_region ?_
      refine O_p (.b false) (r_bin rfl rfl rfl) ?_
      refine O_nil ?_
      refine C_seq ?_
      refine C_cond (x := false) rfl (fun h => by cases h) (fun _ => ?_)
      refine C_exit ?_
      refine nx_exit ?_
      refine nx_exit ?_
      refine bk_hit ?_
      refine C_seq ?_
      refine C_region ?_
      obtain ⟨qa259, ql260, qc261, qg262, rfl⟩ := hs1.isSl
      refine O_p (.sl qa259 ql260 qc261 qg262) (r_ld rfl hH258.get9 rfl) ?_
      refine O_store (vs := [(.sl qa259 ql260 qc261 qg262)]) (c' := [(.sl qa259 ql260 qc261 qg262)]) rfl (by rfl) hH258.get8 rfl (List.cons_ne_nil _ _) (Nat.le_of_ble_eq_true rfl) rfl fun H263 hW264 => ?_
      have hH265 := hH258.wr8 hW264
      refine O_nil ?_
      refine C_ret ?_
      have hcell := hH265.get8
      have hH266 := ((((((((hH265.sub0).sub0).sub0).sub3).sub3).sub3).sub3).sub3)
      have hH267 := (((((hH266.top4).top3).top3).top3).top4)
      exact ⟨.inr rfl, _, resL_one (r_cell (v := (.sl qa259 ql260 qc261 qg262)) rfl hcell rfl), q2, (.sl qa259 ql260 qc261 qg262), od, rw2, D2, rfl, hn1.trans hn0, by unfold take2; rw [if_neg (by rw [hf0]; decide), ← he0]; exact he1, hs1, by unfold take2; rw [if_neg (by rw [hf0]; decide), ← he0, List.map_append]; exact hc1, ho1k, fun H2 h => hm0 H2 (hm1 H2 h), hH267⟩
    ·
      obtain ⟨LB2, q2, ow, od, rw2, D2, ho0, ho1, ho2, ho3, ho4, ho5, ho6, ho7, hHE⟩ := hE
      obtain ⟨z1, z2, z3, z4, rfl⟩ := ho0
      refine ⟨.done, some .ret, _, _, _, _, (hHE.get3), by decide, fun HD hD => ?_⟩
      have hH268 := hHE.drp3 hD
      have hF1 : True := True.intro
      refine bk_ret ?_
      refine bk_ret ?_
      refine nx_ret ?_
      refine nx_ret ?_
      refine bk_ret ?_
      refine nx_ret ?_
      have hcell := hH268.get3
      have hH269 := (hH268.sub3)
      have hH270 := (((((hH269.top4).top3).top3).top3).top4)
      exact ⟨.inr rfl, _, resL_one (r_cell (v := ow) rfl hcell rfl), q2, ow, od, rw2, D2, rfl, ho1.trans hn0, by unfold take2; rw [if_neg (by rw [hf0]; decide), ← he0]; exact ho2, ho4, by unfold take2; rw [if_neg (by rw [hf0]; decide), ← he0, List.map_append]; exact ho5, ho6, fun H2 h => hm0 H2 (ho7 H2 h), hH270⟩
  ·
    obtain ⟨LB2, q, ov, oc, rw1, D1, ho0, ho1, ho2, ho3, ho4, ho5, ho6, ho7, hHE⟩ := hE
    obtain ⟨z1, z2, z3, z4, rfl⟩ := ho0
    refine ⟨.done, some .ret, _, _, _, _, (hHE.get3), by decide, fun HD hD => ?_⟩
    have hH271 := hHE.drp3 hD
    have hF0 : True := True.intro
    refine bk_ret ?_
    refine bk_ret ?_
    refine nx_ret ?_
    refine nx_ret ?_
    refine bk_ret ?_
    refine nx_ret ?_
    have hcell := hH271.get3
    have hH272 := (hH271.sub3)
    have hH273 := (((((hH272.top4).top3).top3).top3).top4)
    exact ⟨.inr rfl, _, resL_one (r_cell (v := ov) rfl hcell rfl), q, ov, oc, rw1, D1, rfl, ho1, by unfold take2; rw [if_pos ho3]; exact ho2, ho4, by unfold take2; rw [if_pos ho3]; exact ho5, ho6, ho7, hH273⟩
end Go.Proofs.Ytipcacpaadgagaa.E
