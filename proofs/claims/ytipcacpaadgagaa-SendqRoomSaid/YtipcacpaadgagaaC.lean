/- Queues of chunks: sums. It bears no condition. -/
import Derived.Test.YtipcacpaadgagaaB
namespace Go.Proofs.Ytipcacpaadgagaa.E
set_option linter.unusedVariables false
set_option linter.unusedSimpArgs false
theorem size_ev {H : AH} {R : HL} {x : En} {da : Option (Nat × Nat)} {dc dg : Nat} (hH0 : Hs H ([(x.n, some (.cells ([(.i .u8 x.e.c.k), (.i .u8 x.e.c.f), (.i .u32 x.e.a), (.i .u32 x.e.c.b), (.i .u16 x.e.c.o), (.i .u16 x.e.c.i), (.i .u32 x.e.c.p), x.e.c.x1, x.e.c.x2, x.e.c.x3, x.e.c.x4, (.sl da x.e.c.d.length dc dg), (.p (some (x.m, 0))), (.i .i64 x.e.st), (.i .i64 x.e.sent), (.i .i64 x.e.tm), (.i .i64 x.e.mi)]) true))] ++ (R))) : Ev tabA spA (.fn (.func 36) [] []) [.p (some (x.n, 0))] H (fun r H' => r = .i .i64 ((x.e.c.d.length : Nat) : Int) ∧ Hs H' ([(x.n, some (.cells ([(.i .u8 x.e.c.k), (.i .u8 x.e.c.f), (.i .u32 x.e.a), (.i .u32 x.e.c.b), (.i .u16 x.e.c.o), (.i .u16 x.e.c.i), (.i .u32 x.e.c.p), x.e.c.x1, x.e.c.x2, x.e.c.x3, x.e.c.x4, (.sl da x.e.c.d.length dc dg), (.p (some (x.m, 0))), (.i .i64 x.e.st), (.i .i64 x.e.sent), (.i .i64 x.e.tm), (.i .i64 x.e.mi)]) true))] ++ (R))) := by
  refine Ev_C (F := x36) rfl ?_
  refine C_seq ?_
  refine C_region ?_
  refine O_p (.i .i64 0) (r_mv rfl) ?_
  refine O_nil ?_
  refine C_seq ?_
  refine C_region ?_
  refine O_p (.p (some (x.n, 0))) (r_mv rfl) ?_
  refine O_p (.p (some (x.n, 0))) (r_nilc rfl) ?_
  refine O_p (.p (some (x.n, 0))) (r_fadd' rfl rfl) ?_
  refine O_p (.p (some (x.n, 11))) (r_fadd' rfl rfl) ?_
  refine O_p (.sl da x.e.c.d.length dc dg) (r_ld rfl hH0.get0 rfl) ?_
  refine O_p (.i .i64 (((x.e.c.d.length : Nat)) : Int)) (r_len rfl) ?_
  refine O_p (.i .i64 (((x.e.c.d.length : Nat)) : Int)) (r_mv rfl) ?_
  refine O_nil ?_
  refine C_ret ?_
  exact ⟨.inr rfl, _, resL_one (r_tmp (v := (.i .i64 (((x.e.c.d.length : Nat)) : Int))) rfl), rfl, hH0⟩
def octs (ss : List Int) : List Ea → Nat
  | [] => 0
  | e :: l => (if e.st ∈ ss then e.c.d.length else 0) + octs ss l
theorem octs_app {ss : List Int} {l2 : List Ea} : ∀ {l1 : List Ea}, octs ss (l1 ++ l2) = octs ss l1 + octs ss l2
  | [] => (Nat.zero_add _).symm
  | e :: l1 => by show _ + octs ss (l1 ++ l2) = _ + octs ss l1 + _; rw [octs_app, Nat.add_assoc]
theorem take_at {α : Type} {l : List α} {j : Nat} {x : α} (h : l[j]? = some x) : l.take (j + 1) = l.take j ++ [x] := by
  obtain ⟨hj, rfl⟩ := List.getElem?_eq_some_iff.1 h
  exact List.take_succ_eq_append_getElem hj
theorem en_e {q : List En} {j : Nat} {x : En} (h : q[j]? = some x) : (q.map En.e)[j]? = some x.e := by rw [List.getElem?_map, h]; rfl
theorem octs_yes {ss : List Int} {q : List En} {j : Nat} {x : En} (h : q[j]? = some x) (hs : x.e.st ∈ ss) : octs ss ((q.map En.e).take (j + 1)) = octs ss ((q.map En.e).take j) + x.e.c.d.length := by
  rw [take_at (en_e h), octs_app]
  show _ + ((if x.e.st ∈ ss then _ else 0) + 0) = _
  rw [if_pos hs]; omega
theorem octs_no {ss : List Int} {q : List En} {j : Nat} {x : En} (h : q[j]? = some x) (hs : x.e.st ∉ ss) : octs ss ((q.map En.e).take (j + 1)) = octs ss ((q.map En.e).take j) := by
  rw [take_at (en_e h), octs_app]
  show _ + ((if x.e.st ∈ ss then _ else 0) + 0) = _
  rw [if_neg hs]; omega
theorem octs_le {ss : List Int} : ∀ {l : List Ea}, (∀ e ∈ l, e.c.d.length ≤ 1000000) → octs ss l ≤ l.length * 1000000
  | [], _ => Nat.zero_le _
  | e :: l, h => by
    have h1 := octs_le (ss := ss) (l := l) fun x hx => h x (List.mem_cons_of_mem _ hx)
    have h2 := h e (List.mem_cons_self ..)
    show (if e.st ∈ ss then _ else 0) + octs ss l ≤ (l.length + 1) * 1000000
    split <;> omega

theorem total_ev {H : AH} {R D : HL} {F sb b1 b2 : Nat} {lv : AV} {lc : List AV} {nx : Int} {ss : List Int} {q : List En} (hlv : Sq 1 lv lc (q.map En.pr).flatten) (hql : q.length ≤ 100000) (hsl : ss.length ≤ 1000) (hok : ∀ x ∈ q, OctIn D x.dv x.e.c.d) (hsz : ∀ e ∈ q.map En.e, e.c.d.length ≤ 1000000) (hH0 : Hs H ([(b1, some (.cells ([(.p (some (F, 0)))]) true))] ++ ([(b2, some (.cells ([(.sl (some (sb, 0)) ss.length ss.length 0)]) true))] ++ ([(sb, some (.cells (ss.map fun z => AV.i IntKind.i64 z) true))] ++ ([(F, some (.cells ([lv, (.i .u32 nx)]) true))] ++ ((qseg lv lc) ++ ((q.flatMap En.seg) ++ (R)))))))) : Ev tabA spA (.fn (.func 65) [] []) [.fn (.func 59) [] [.p (some (b1, 0)), .p (some (b2, 0))], .fn (.func 36) [] []] H (fun r H' => r = .i .i64 ((octs ss (q.map En.e) : Nat) : Int) ∧ Hs H' ([(b1, some (.cells ([(.p (some (F, 0)))]) true))] ++ ([(b2, some (.cells ([(.sl (some (sb, 0)) ss.length ss.length 0)]) true))] ++ ([(sb, some (.cells (ss.map fun z => AV.i IntKind.i64 z) true))] ++ ([(F, some (.cells ([lv, (.i .u32 nx)]) true))] ++ ((qseg lv lc) ++ ((q.flatMap En.seg) ++ (R)))))))) := by
  refine Ev_C (F := x65) rfl ?_
  refine C_seq ?_
  refine C_region ?_
  refine O_box (z := [(.fn (.func 36) [] [])]) rfl fun n1 H2 hN3 => ?_
  have hH4 := hH0.new hN3
  refine O_p (.i .i64 0) (r_mv rfl) ?_
  refine O_nil ?_
  refine C_seq ?_
  refine C_region ?_
  refine O_alloc fun n5 H6 hN7 => ?_
  have hH8 := hH4.new hN7
  refine O_store (vs := [(.i .i64 0)]) (c' := [(.i .i64 0)]) rfl (by rfl) hH8.get0 rfl (List.cons_ne_nil _ _) (Nat.le_of_ble_eq_true rfl) rfl fun H9 hW10 => ?_
  have hH11 := hH8.wr0 hW10
  refine O_nil ?_
  refine C_seq ?_
  refine C_seq ?_
  refine C_region ?_
  refine O_p (.fn (.func 59) [] [.p (some (b1, 0)), .p (some (b2, 0))]) (r_mv rfl) ?_
  refine O_nil ?_
  refine C_block ?_
  refine C_rangeFn (g := 59) (first := []) (cap := [.p (some (b1, 0)), .p (some (b2, 0))]) rfl fun Tx L HLL hTx hNL0 => ?_
  obtain ⟨LB, hLB, hNL⟩ := hNL0.loop
  have hH12 := hH11.new hNL
  have hH13 := (((((((((hH12.top1).top2).top2).top8).top8).top8).top8).top8).top8)
  refine Ev.mono (in1_ev (F := F) (sb := sb) (nx := nx) (ss := ss) (q0 := q) hlv hql hsl (fun j HH => Hs HH ([(b1, some (.cells ([(.p (some (F, 0)))]) true))] ++ ([(b2, some (.cells ([(.sl (some (sb, 0)) ss.length ss.length 0)]) true))] ++ ([(sb, some (.cells (ss.map fun z => AV.i IntKind.i64 z) true))] ++ ([(F, some (.cells ([lv, (.i .u32 nx)]) true))] ++ ((qseg lv lc) ++ ((q.flatMap En.seg) ++ ([(L, some LB)] ++ ([(n1, some (.cells ([(.fn (.func 36) [] [])]) true))] ++ ([(n5, some (.cells ([(.i .i64 ((((octs ss ((q.map En.e).take j)) : Nat)) : Int))]) true))] ++ (R))))))))))) (fun HH => False) ?_ ?_ ?_ ?_ ?_) fun v2 HE hE => ?_
  · exact hH13
  · rintro j H1 hh
    exact ⟨q, _, rfl, (fun _ _ => rfl), hh⟩
  · rintro j H1 H2 hn hk2 hok hh
    exact hh.keep hn hk2 hok
  · rintro j H1 e0 h0j hst hh
    rw [octs_no h0j hst]; exact hh
  ·
    rintro j HH e0 h0j hst hHb
    have hjl : j < q.length := (List.getElem?_eq_some_iff.1 h0j).1
    obtain ⟨x, hxj, hxn, hxe⟩ := en_same (q := q) rfl ((fun _ _ => rfl) j (Nat.le_refl _)) h0j
    rw [← hxn]
    refine Ev_yield ((hHb.get6).trans (congrArg some hLB)) rfl ?_
    refine C.te ?_ (hTx.cons 8 _)
    have hH14 := (hHb.top5)
    have hH15 := En.out hxj hH14
    obtain ⟨da, dc, dg, de, dhg, dhc, dhm, dhb⟩ := (hok x (List.mem_of_getElem? hxj))
    rw [de] at hH15
    refine C_region ?_
    refine O_p (.p (some (x.n, 0))) (r_mv rfl) ?_
    refine O_nil ?_
    refine ⟨rfl, _, _, _, _, _, (hH15.get7).trans (congrArg some hLB), fun H2 hWb => ?_⟩
    have hH16 := hH15.wr7 hWb
    refine C_block ?_
    refine C_draw fun b17 H18 hbase19 hA20 => ?_
    have hH21 := hH16.keep (by have := hA20.1; omega) (fun q _ => hA20.2 q) ((hH16.old).aside hA20).ok
    refine D_l (v := (.p (some (x.n, 0)))) rfl rfl rfl (r_mv rfl) ?_
    refine D_r (v := (.i .i64 ((((octs ss ((q.map En.e).take j)) : Nat)) : Int))) rfl rfl rfl (r_ld rfl hH21.get9 rfl) ?_
    refine D_r (v := (.fn (.func 36) [] [])) rfl rfl rfl (r_ld rfl hH21.get8 rfl) ?_
    refine D_call (Ev.mono (size_ev hH21) fun v22 H23 hq24 => ?_)
    obtain ⟨rfl, hH25⟩ := hq24
    refine And.intro (And.intro (Or.inl rfl) (And.intro (Or.inr (look_run rfl rfl (r_ld rfl hH25.get9 rfl))) True.intro)) ?_
    have hole := octs_le (ss := ss) (l := (q.map En.e).take j) (fun e he => hsz e (List.mem_of_mem_take he))
    have hxs := hsz x.e (List.mem_of_getElem? (en_e hxj))
    rw [List.length_take, List.length_map] at hole
    have hmin : min j q.length ≤ 100000 := Nat.le_trans (Nat.min_le_right _ _) hql
    refine D_l (v := (.i .i64 (((((octs ss ((q.map En.e).take j)) : Nat)) : Int) + (((x.e.c.d.length : Nat)) : Int)))) rfl rfl rfl (by exact (r_addi rfl rfl (wrap_i64 (by omega) (by omega)))) ?_
    refine D_store (vs := [(.i .i64 (((((octs ss ((q.map En.e).take j)) : Nat)) : Int) + (((x.e.c.d.length : Nat)) : Int)))]) (c' := [(.i .i64 (((((octs ss ((q.map En.e).take j)) : Nat)) : Int) + (((x.e.c.d.length : Nat)) : Int)))]) rfl (by rfl) hH25.get9 rfl (List.cons_ne_nil _ _) (Nat.le_of_ble_eq_true rfl) rfl fun H26 hW27 => ?_
    have hH28 := hH25.wr9 hW27
    refine And.intro (And.intro (Or.inl rfl) True.intro) ?_
    refine D_nil ?_
    refine ⟨_, _, _, _, _, (hH28.get7), fun H4 hWr => ?_⟩
    have hH29 := Hs.cong7 (B := [(L, some LB)]) (hH28.wr7 hWr) (by rw [hLB]; rfl)
    have hq2 : q[j]? = some x := hxj
    have hH30 := ((hH29.top1).top1)
    rw [← de] at hH30
    have hH31 := En.back0 hxj hH30
    have hH32 := (((((((((hH31.top8).top8).top8).top3).top8).top8).top8).top8).top8)
    exact ⟨_, rfl, fun _ => by rw [octs_yes hxj (by rw [hxe]; exact hst)]; exact hH32, fun h => by cases h⟩
  rcases hE with hE | hE
  ·
    have hHE : Hs HE _ := hE
    refine ⟨.ready, none, _, _, _, _, (hHE.get6).trans (congrArg some hLB), by decide, fun HD hD => ?_⟩
    have hH33 := hHE.drp6 hD
    rw [show (q.map En.e).take q.length = q.map En.e from by rw [List.take_of_length_le (by rw [List.length_map]; exact Nat.le_refl _)]] at hH33
    refine C_seq ?_
    refine C_region ?_
    refine O_p (.i .i64 ((((octs ss (q.map En.e)) : Nat)) : Int)) (r_ld rfl hH33.get7 rfl) ?_
    refine O_p (.i .i64 ((((octs ss (q.map En.e)) : Nat)) : Int)) (r_mv rfl) ?_
    refine O_nil ?_
    refine C_ret ?_
    have hH34 := ((hH33.sub6).sub6)
    have hH35 := ((((((hH34.top5).top5).top5).top5).top5).top5)
    exact ⟨.inr rfl, _, resL_one (r_tmp (v := (.i .i64 ((((octs ss (q.map En.e)) : Nat)) : Int))) rfl), rfl, hH35⟩
  · exact hE.elim
end Go.Proofs.Ytipcacpaadgagaa.E
