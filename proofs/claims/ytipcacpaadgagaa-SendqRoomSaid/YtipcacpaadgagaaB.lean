/- Queues of chunks: their entries, one behind another. It bears no condition. -/
import Derived.Test.YtipcacpaadgagaaA
namespace Go.Proofs.Ytipcacpaadgagaa.E
set_option linter.unusedVariables false
set_option linter.unusedSimpArgs false
theorem ss_get {ss : List Int} {i : Nat} {y : Int} (h : ss[i]? = some y) : takeAt (ss.map fun z => AV.i IntKind.i64 z) (i * 1) 1 = some [.i .i64 y] := by
  obtain ⟨hl, rfl⟩ := List.getElem?_eq_some_iff.1 h
  rw [Nat.mul_one, takeAt_ok (by rw [List.length_map]; omega), List.drop_eq_getElem_cons (by rw [List.length_map]; exact hl), List.take_succ_cons, List.take_zero, List.getElem_map]

theorem index_ev {H : AH} {R : HL} {sb : Nat} {ss : List Int} {st : Int} (hsl : ss.length ≤ 1000) (hH0 : Hs H ([(sb, some (.cells (ss.map fun z => AV.i IntKind.i64 z) true))] ++ R)) : Ev tabA spA (.fn (.func 72) [] []) [.sl (some (sb, 0)) ss.length ss.length 0, .i .i64 st] H (fun r H' => H' = H ∧ ((r = .i .i64 (-1) ∧ st ∉ ss) ∨ ∃ i : Nat, r = .i .i64 ((i : Nat) : Int) ∧ st ∈ ss)) := by
  refine Ev_C (F := x72) rfl ?_
  refine C_seq ?_
  refine C_region ?_
  refine O_p (.i .i64 0) (r_mv rfl) ?_
  refine O_nil ?_
  refine C_seq ?_
  refine C_seq ?_
  refine C_region ?_
  refine O_p (.sl (some (sb, 0)) ss.length ss.length 0) (r_mv rfl) ?_
  refine O_p (.i .i64 (((ss.length : Nat)) : Int)) (r_len rfl) ?_
  refine O_p (.i .i64 0) (r_mv rfl) ?_
  refine O_nil ?_
  refine C_block ?_
  refine C_while (fun m1 T2 H3 => ∃ i : Nat, m1 = ss.length - i ∧ i ≤ ss.length ∧ H3 = H ∧ (∀ k, k < i → ss[k]? ≠ some st) ∧ T2.get 0 = .sl (some (sb, 0)) ss.length ss.length 0 ∧ T2.get 1 = .i .i64 st ∧ T2.get 7 = .i .i64 ((ss.length : Nat) : Int) ∧ T2.get 8 = .i .i64 ((i : Nat) : Int)) (fun m1 T2 H3 hI4 => ?_) ss.length _ _ ⟨0, rfl, Nat.zero_le _, rfl, fun k hk => absurd hk (Nat.not_lt_zero _), rfl, rfl, rfl, rfl⟩
  obtain ⟨i, hm, hi, rfl, hno, hT0, hT1, hT7, hT8⟩ := hI4
  refine C_seq ?_
  refine C_region ?_
  refine O_p (.b (decide ((((i : Nat)) : Int) < (((ss.length : Nat)) : Int)))) (r_lss hT8 hT7) ?_
  refine O_nil ?_
  refine C_seq ?_
  refine C_cond (x := (decide ((((i : Nat)) : Int) < (((ss.length : Nat)) : Int)))) rfl (fun hc5 => ?_) (fun hc5 => ?_)
  ·
    try simp only [decide_eq_true_eq, decide_eq_false_iff_not, Bool.not_eq_true', Bool.not_eq_false', Bool.and_eq_true, Bool.or_eq_true, Bool.or_eq_false_iff, Bool.not_not, Bool.and_eq_false_iff] at hc5
    refine C_skip ?_
    refine C_seq ?_
    refine C_block ?_
    refine C_seq ?_
    refine C_region ?_
    refine O_p (.i .i64 (((i : Nat)) : Int)) (r_mv hT8) ?_
    refine O_p (.i .i64 (((i : Nat)) : Int)) (r_mv rfl) ?_
    refine O_nil ?_
    refine C_seq ?_
    refine C_region ?_
    refine O_p (.i .i64 st) (r_mv hT1) ?_
    refine O_p (.sl (some (sb, 0)) ss.length ss.length 0) (r_mv hT0) ?_
    refine O_p (.i .i64 (((i : Nat)) : Int)) (r_mv rfl) ?_
    have hil : i < ss.length := by omega
    obtain ⟨y, hyi⟩ : ∃ y, ss[i]? = some y := ⟨_, List.getElem?_eq_getElem hil⟩
    refine O_p (.p (some (sb, (i * 1 + 0)))) (by exact (r_islr (b := sb) (k := i) (len := ss.length) (cap := ss.length) (g := 0) rfl rfl (by omega))) ?_
    refine O_p (.i .i64 y) (r_ldR (q := 0) rfl ⟨_, _, hH0.top0.get, ss_get hyi⟩ rfl) ?_
    refine O_p (.b (decide (st = y))) (r_eql rfl rfl) ?_
    refine O_nil ?_
    refine C_cond (x := (decide (st = y))) rfl (fun hc6 => ?_) (fun hc6 => ?_)
    ·
      try simp only [decide_eq_true_eq, decide_eq_false_iff_not, Bool.not_eq_true', Bool.not_eq_false', Bool.and_eq_true, Bool.or_eq_true, Bool.or_eq_false_iff, Bool.not_not, Bool.and_eq_false_iff] at hc6
      have hne : ss[i]? = some st := by rw [hyi]; rw [hc6]
      refine C_seq ?_
      refine C_region ?_
      refine O_p (.i .i64 (((i : Nat)) : Int)) (r_mv rfl) ?_
      refine O_p (.i .i64 (((i : Nat)) : Int)) (r_mv rfl) ?_
      refine O_nil ?_
      refine C_ret ?_
      refine bk_ret ?_
      refine nx_ret ?_
      refine nx_ret ?_
      refine bk_ret ?_
      refine nx_ret ?_
      exact ⟨.inr rfl, _, resL_one (r_tmp (v := (.i .i64 (((i : Nat)) : Int))) rfl), rfl, .inr ⟨i, rfl, List.mem_of_getElem? hne⟩⟩
    ·
      try simp only [decide_eq_true_eq, decide_eq_false_iff_not, Bool.not_eq_true', Bool.not_eq_false', Bool.and_eq_true, Bool.or_eq_true, Bool.or_eq_false_iff, Bool.not_not, Bool.and_eq_false_iff] at hc6
      have hne : ss[i]? ≠ some st := by rw [hyi]; intro h9; simp only [Option.some.injEq] at h9; exact hc6 h9.symm
      refine C_skip ?_
      refine C_region ?_
      refine O_p (.i .i64 ((((i : Nat)) : Int) + 1)) (by exact (r_addi hT8 rfl (wrap_i64 (by omega) (by omega)))) ?_
      refine O_p (.i .i64 ((((i : Nat)) : Int) + 1)) (r_mv rfl) ?_
      refine O_nil ?_
      exact ⟨ss.length - (i + 1), by omega, i + 1, rfl, by omega, rfl, fun k hk => by rcases Nat.lt_succ_iff_lt_or_eq.1 hk with h | rfl; exact hno k h; exact hne, hT0, hT1, hT7, rfl⟩
  ·
    try simp only [decide_eq_true_eq, decide_eq_false_iff_not, Bool.not_eq_true', Bool.not_eq_false', Bool.and_eq_true, Bool.or_eq_true, Bool.or_eq_false_iff, Bool.not_not, Bool.and_eq_false_iff] at hc5
    refine C_exit ?_
    refine nx_exit ?_
    refine nx_exit ?_
    refine bk_hit ?_
    refine C_seq ?_
    refine C_region ?_
    refine O_p (.i .i64 (-1)) (r_mv rfl) ?_
    refine O_nil ?_
    refine C_ret ?_
    exact ⟨.inr rfl, _, resL_one (r_tmp (v := .i .i64 (-1)) rfl), rfl, .inl ⟨rfl, fun hmem => by obtain ⟨k, hk⟩ := List.getElem?_of_mem hmem; exact hno k (by have := (List.getElem?_eq_some_iff.1 hk).1; omega) hk⟩⟩
theorem contains_in {H : AH} {R : HL} {sb : Nat} {ss : List Int} {st : Int} (hsl : ss.length ≤ 1000) (hin : st ∈ ss) (hH0 : Hs H ([(sb, some (.cells (ss.map fun z => AV.i IntKind.i64 z) true))] ++ R)) : Ev tabA spA (.fn (.func 60) [] []) [.sl (some (sb, 0)) ss.length ss.length 0, .i .i64 st] H (fun r H' => H' = H ∧ r = .b true) := by
  refine Ev_C (F := x60) rfl ?_
  refine C_seq ?_
  refine C_region ?_
  refine O_p (.b false) (r_mv rfl) ?_
  refine O_nil ?_
  refine C_seq ?_
  refine C_region ?_
  refine O_p (.sl (some (sb, 0)) ss.length ss.length 0) (r_mv rfl) ?_
  refine O_p (.i .i64 st) (r_mv rfl) ?_
  refine O_call (Ev.mono (index_ev hsl hH0) fun v1 H2 hq3 => ?_)
  obtain ⟨rfl, ⟨_, hn⟩ | ⟨ix, rfl, _⟩⟩ := hq3
  · exact absurd hin hn
  refine O_p (.b true) (by exact (by rw [r_geq rfl rfl, decide_eq_true (by omega)])) ?_
  refine O_p (.b true) (r_mv rfl) ?_
  refine O_nil ?_
  refine C_ret ?_
  exact ⟨.inr rfl, _, resL_one (r_tmp (v := (.b true)) rfl), rfl, rfl⟩
theorem contains_out {H : AH} {R : HL} {sb : Nat} {ss : List Int} {st : Int} (hsl : ss.length ≤ 1000) (hin : st ∉ ss) (hH0 : Hs H ([(sb, some (.cells (ss.map fun z => AV.i IntKind.i64 z) true))] ++ R)) : Ev tabA spA (.fn (.func 60) [] []) [.sl (some (sb, 0)) ss.length ss.length 0, .i .i64 st] H (fun r H' => H' = H ∧ r = .b false) := by
  refine Ev_C (F := x60) rfl ?_
  refine C_seq ?_
  refine C_region ?_
  refine O_p (.b false) (r_mv rfl) ?_
  refine O_nil ?_
  refine C_seq ?_
  refine C_region ?_
  refine O_p (.sl (some (sb, 0)) ss.length ss.length 0) (r_mv rfl) ?_
  refine O_p (.i .i64 st) (r_mv rfl) ?_
  refine O_call (Ev.mono (index_ev hsl hH0) fun v1 H2 hq3 => ?_)
  obtain ⟨rfl, ⟨rfl, _⟩ | ⟨ix, _, hn⟩⟩ := hq3
  rotate_left
  · exact absurd hn hin
  refine O_p (.b false) (by exact (by rw [r_geq rfl rfl, decide_eq_false (by omega)])) ?_
  refine O_p (.b false) (r_mv rfl) ?_
  refine O_nil ?_
  refine C_ret ?_
  exact ⟨.inr rfl, _, resL_one (r_tmp (v := (.b false)) rfl), rfl, rfl⟩
theorem in_ev {H : AH} {R : HL} {F sb : Nat} {ss : List Int} (hH0 : Hs H R) : Ev tabA spA (.fn (.func 35) [] []) [.p (some (F, 0)), (.sl (some (sb, 0)) ss.length ss.length 0)] H (fun r H' => ∃ b1 b2, r = .fn (.func 59) [] [.p (some (b1, 0)), .p (some (b2, 0))] ∧ Hs H' ([(b1, some (.cells [.p (some (F, 0))] true))] ++ ([(b2, some (.cells [(.sl (some (sb, 0)) ss.length ss.length 0)] true))] ++ R))) := by
  refine Ev_C (F := x35) rfl ?_
  refine C_seq ?_
  refine C_region ?_
  refine O_box (z := [(.p (some (F, 0)))]) rfl fun n1 H2 hN3 => ?_
  have hH4 := hH0.new hN3
  refine O_box (z := [(.sl (some (sb, 0)) ss.length ss.length 0)]) rfl fun n5 H6 hN7 => ?_
  have hH8 := hH4.new hN7
  refine O_p .nf (r_mv rfl) ?_
  refine O_nil ?_
  refine C_seq ?_
  refine C_region ?_
  refine O_p (.fn (.func 59) [] [(.p (some (n1, 0))), (.p (some (n5, 0)))]) rfl ?_
  refine O_p (.fn (.func 59) [] [(.p (some (n1, 0))), (.p (some (n5, 0)))]) (r_mv rfl) ?_
  refine O_nil ?_
  refine C_ret ?_
  have hH9 := (hH8.top1)
  exact ⟨.inr rfl, _, resL_one (r_tmp (v := (.fn (.func 59) [] [(.p (some (n1, 0))), (.p (some (n5, 0)))])) rfl), n1, n5, rfl, hH9⟩
theorem en_same {q q0 : List En} {j : Nat} {e : En} (hn : q.map En.n = q0.map En.n) (he : (q[j]?).map En.e = (q0[j]?).map En.e) (h : q0[j]? = some e) : ∃ x, q[j]? = some x ∧ x.n = e.n ∧ x.e = e.e := by
  rw [h] at he
  cases hx : q[j]? with
  | none => rw [hx] at he; cases he
  | some x =>
    rw [hx] at he
    simp only [Option.map_some, Option.some.injEq] at he
    have e2 := congrArg (fun l => l[j]?) hn
    simp only [List.getElem?_map, hx, h, Option.map_some, Option.some.injEq] at e2
    exact ⟨x, rfl, e2, he⟩
theorem in1_ev {H : AH} {F sb b1 b2 L : Nat} {lv : AV} {lc : List AV} {nx : Int} {ss : List Int} {q0 : List En} (hlv : Sq 1 lv lc (q0.map En.pr).flatten) (hql : q0.length ≤ 100000) (hsl : ss.length ≤ 1000) (I : Nat → AH → Prop) (Out : AH → Prop) (hI0 : I 0 H)
    (hIH : ∀ j H1, I j H1 → ∃ (q : List En) (R1 : HL), q.map En.n = q0.map En.n ∧ (∀ k, j ≤ k → (q[k]?).map En.e = (q0[k]?).map En.e) ∧ Hs H1 ([(b1, some (.cells ([(.p (some (F, 0)))]) true))] ++ ([(b2, some (.cells ([(.sl (some (sb, 0)) ss.length ss.length 0)]) true))] ++ ([(sb, some (.cells (ss.map fun z => AV.i IntKind.i64 z) true))] ++ ([(F, some (.cells ([lv, (.i .u32 nx)]) true))] ++ ((qseg lv lc) ++ ((q.flatMap En.seg) ++ (R1))))))))
    (hIk : ∀ j H1 H2, H1.next ≤ H2.next → (∀ z, z < H1.next → H2.get z = H1.get z) → H2.Ok → I j H1 → I j H2)
    (hs : ∀ j H1 e, q0[j]? = some e → e.e.st ∉ ss → I j H1 → I (j + 1) H1)
    (hy : ∀ j H1 e, q0[j]? = some e → e.e.st ∈ ss → I j H1 → Ev tabA spA (.fn (.yield L) [] []) [.p (some (e.n, 0))] H1 (fun r H2 => ∃ b, r = .b b ∧ (b = true → I (j + 1) H2) ∧ (b = false → Out H2))) :
    Ev tabA spA (.fn (.func 59) [] [.p (some (b1, 0)), .p (some (b2, 0))]) [.fn (.yield L) [] []] H (fun _ H' => I q0.length H' ∨ Out H') := by
  refine Ev_C (F := x59) rfl ?_
  obtain ⟨q1, R2, hn3, he4, hH5⟩ := hIH 0 H hI0
  refine C_seq ?_
  refine C_seq ?_
  refine C_region ?_
  refine O_p (.p (some (F, 0))) (r_ld rfl hH5.get0 rfl) ?_
  refine O_p (.b false) (r_nilq_s rfl) ?_
  refine O_nil ?_
  refine C_cond (x := false) rfl (fun h => by cases h) (fun _ => ?_)
  refine C_skip ?_
  refine C_seq ?_
  refine C_region ?_
  refine O_p (.p (some (F, 0))) (r_ld rfl hH5.get0 rfl) ?_
  refine O_p (.p (some (F, 0))) (r_nilc rfl) ?_
  refine O_p (.p (some (F, 0))) (r_fadd' rfl rfl) ?_
  refine O_p lv (r_ld rfl hH5.get3 rfl) ?_
  refine O_p (.i .i64 (((q0.length : Nat)) : Int)) (by exact (by exact r_lenOf rfl (hlv.lenOf ((flat_len (pr_lens q0)).trans (by rw [List.length_map])) (by decide)) hlv.isSl)) ?_
  refine O_p (.i .i64 0) (r_mv rfl) ?_
  refine O_nil ?_
  refine C_block ?_
  refine C_while (fun m6 T7 H8 => ∃ j : Nat, m6 = q0.length - j ∧ j ≤ q0.length ∧ I j H8 ∧ T7.get 0 = (.fn (.yield L) [] []) ∧ T7.get 2 = .p (some (b2, 0)) ∧ T7.get 11 = lv ∧ T7.get 12 = .i .i64 ((q0.length : Nat) : Int) ∧ T7.get 13 = .i .i64 ((j : Nat) : Int)) (fun m6 T7 H8 hI9 => ?_) q0.length _ _ ⟨0, rfl, Nat.zero_le _, hI0, rfl, rfl, rfl, rfl, rfl⟩
  obtain ⟨j, hm, hj, hIj, hT0, hT2, hT11, hT12, hT13⟩ := hI9
  obtain ⟨q10, R11, hn12, he13, hH14⟩ := hIH j H8 hIj
  refine C_seq ?_
  refine C_region ?_
  refine O_p (.b (decide ((((j : Nat)) : Int) < (((q0.length : Nat)) : Int)))) (r_lss hT13 hT12) ?_
  refine O_nil ?_
  refine C_seq ?_
  refine C_cond (x := (decide ((((j : Nat)) : Int) < (((q0.length : Nat)) : Int)))) rfl (fun hc15 => ?_) (fun hc15 => ?_)
  ·
    try simp only [decide_eq_true_eq, decide_eq_false_iff_not, Bool.not_eq_true', Bool.not_eq_false', Bool.and_eq_true, Bool.or_eq_true, Bool.or_eq_false_iff, Bool.not_not, Bool.and_eq_false_iff] at hc15
    refine C_skip ?_
    refine C_seq ?_
    refine C_block ?_
    refine C_seq ?_
    refine C_region ?_
    have hjl : j < q0.length := by omega
    obtain ⟨e0, h0j⟩ : ∃ e, q0[j]? = some e := ⟨_, List.getElem?_eq_getElem hjl⟩
    obtain ⟨x, hxj, hxn, hxe⟩ := en_same hn12 (he13 j (Nat.le_refl _)) h0j
    refine O_q (by exact Sq.cell hlv (pr_lens q0) hH14.top4 (by exact hT11) (i := j) (by exact hT13) (r := [(.p (some (x.n, 0)))]) (by rw [hxn]; exact pr_get h0j) (by decide)) fun v17 hv16 => ?_
    obtain ⟨rb18, ro19, rfl, hrg20, hrt21, hrb22, hput23, hqs24⟩ := hv16
    refine O_p (.p (some (x.n, 0))) (r_ldR (q := 0) rfl ⟨_, _, hrg20, hrt21⟩ rfl) ?_
    refine O_p (.p (some (x.n, 0))) (r_mv rfl) ?_
    refine O_nil ?_
    refine C_seq ?_
    have hH25 := (hH14.top5)
    have hH26 := En.out hxj hH25
    by_cases hin : e0.e.st ∈ ss
    ·
      refine C_draw fun b27 H28 hbase29 hA30 => ?_
      have hH31 := hH26.keep (by have := hA30.1; omega) (fun q _ => hA30.2 q) ((hH26.old).aside hA30).ok
      refine D_l (v := (.p (some (x.n, 0)))) rfl rfl rfl (r_mv rfl) ?_
      refine D_l (v := (.p (some (x.n, 0)))) rfl rfl rfl (r_nilc rfl) ?_
      refine D_l (v := (.p (some (x.n, 13)))) rfl rfl rfl (r_fadd' rfl rfl) ?_
      refine D_r (v := (.sl (some (sb, 0)) ss.length ss.length 0)) rfl rfl rfl (r_ld hT2 hH31.get3 rfl) ?_
      refine D_r (v := (.i .i64 x.e.st)) rfl rfl rfl (r_ld rfl hH31.get0 rfl) ?_
      have hH32 := (hH31.top4)
      refine D_call (Ev.mono (contains_in (st := x.e.st) hsl (by rw [hxe]; exact hin) hH32) fun v33 H34 hq35 => ?_)
      obtain ⟨rfl, rfl⟩ := hq35
      refine And.intro (And.intro (Or.inl rfl) (And.intro (Or.inl rfl) True.intro)) ?_
      refine D_l (v := (.b true)) rfl rfl rfl (r_mv rfl) ?_
      refine D_gk rfl ?_
      refine D_l (v := (.fn (.yield L) [] [])) rfl rfl rfl (r_mv hT0) ?_
      refine D_gk rfl ?_
      refine D_l (v := (.p (some (x.n, 0)))) rfl rfl rfl (r_mv rfl) ?_
      refine D_gk rfl ?_
      have hI7 := hIk j _ H34 (by have := hA30.1; omega) (fun z _ => hA30.2 z) hH32.ok hIj
      refine D_call (Ev.mono (by rw [hxn]; exact hy j H34 e0 h0j hin hI7) fun v36 H37 hq38 => ?_)
      obtain ⟨yb, rfl, hyt, hyf⟩ := hq38
      refine And.intro True.intro ?_
      refine D_gk rfl ?_
      refine D_l (v := (.b (!yb))) rfl rfl rfl (r_not rfl) ?_
      refine D_l (v := (.b (!yb))) rfl rfl rfl (r_pick_t rfl rfl) ?_
      refine D_nil ?_
      refine C_cond (x := (!yb)) rfl (fun hc39 => ?_) (fun hc39 => ?_)
      ·
        try simp only [decide_eq_true_eq, decide_eq_false_iff_not, Bool.not_eq_true', Bool.not_eq_false', Bool.and_eq_true, Bool.or_eq_true, Bool.or_eq_false_iff, Bool.not_not, Bool.and_eq_false_iff] at hc39
        have hyb : yb = false := by simpa using hc39
        refine C_ret ?_
        refine bk_ret ?_
        refine nx_ret ?_
        refine nx_ret ?_
        refine bk_ret ?_
        exact ⟨.inr rfl, [], rfl, .inr (hyf hyb)⟩
      ·
        try simp only [decide_eq_true_eq, decide_eq_false_iff_not, Bool.not_eq_true', Bool.not_eq_false', Bool.and_eq_true, Bool.or_eq_true, Bool.or_eq_false_iff, Bool.not_not, Bool.and_eq_false_iff] at hc39
        have hyb : yb = true := by simpa using hc39
        have hI2 := hyt hyb
        refine C_skip ?_
        refine C_region ?_
        refine O_p (.i .i64 ((((j : Nat)) : Int) + 1)) (by exact (r_addi hT13 rfl (wrap_i64 (by omega) (by omega)))) ?_
        refine O_p (.i .i64 ((((j : Nat)) : Int) + 1)) (r_mv rfl) ?_
        refine O_nil ?_
        exact ⟨q0.length - (j + 1), by omega, j + 1, rfl, by omega, hI2, hT0, hT2, hT11, hT12, rfl⟩
    ·
      refine C_draw fun b40 H41 hbase42 hA43 => ?_
      have hH44 := hH26.keep (by have := hA43.1; omega) (fun q _ => hA43.2 q) ((hH26.old).aside hA43).ok
      refine D_l (v := (.p (some (x.n, 0)))) rfl rfl rfl (r_mv rfl) ?_
      refine D_l (v := (.p (some (x.n, 0)))) rfl rfl rfl (r_nilc rfl) ?_
      refine D_l (v := (.p (some (x.n, 13)))) rfl rfl rfl (r_fadd' rfl rfl) ?_
      refine D_r (v := (.sl (some (sb, 0)) ss.length ss.length 0)) rfl rfl rfl (r_ld hT2 hH44.get3 rfl) ?_
      refine D_r (v := (.i .i64 x.e.st)) rfl rfl rfl (r_ld rfl hH44.get0 rfl) ?_
      have hH45 := (hH44.top4)
      refine D_call (Ev.mono (contains_out (st := x.e.st) hsl (by rw [hxe]; exact hin) hH45) fun v46 H47 hq48 => ?_)
      obtain ⟨rfl, rfl⟩ := hq48
      refine And.intro (And.intro (Or.inl rfl) (And.intro (Or.inl rfl) True.intro)) ?_
      refine D_l (v := (.b false)) rfl rfl rfl (r_mv rfl) ?_
      refine D_gf rfl ?_
      refine D_gf rfl ?_
      refine D_gf rfl ?_
      refine D_gf rfl ?_
      refine D_l (v := (.b false)) rfl rfl rfl (r_pick_f rfl rfl) ?_
      refine D_nil ?_
      refine C_cond (x := false) rfl (fun h => by cases h) (fun _ => ?_)
      refine C_skip ?_
      refine C_region ?_
      have hI7 := hIk j _ H47 (by have := hA43.1; omega) (fun z _ => hA43.2 z) hH45.ok hIj
      have hI2 := hs j H47 e0 h0j hin hI7
      refine O_p (.i .i64 ((((j : Nat)) : Int) + 1)) (by exact (r_addi hT13 rfl (wrap_i64 (by omega) (by omega)))) ?_
      refine O_p (.i .i64 ((((j : Nat)) : Int) + 1)) (r_mv rfl) ?_
      refine O_nil ?_
      exact ⟨q0.length - (j + 1), by omega, j + 1, rfl, by omega, hI2, hT0, hT2, hT11, hT12, rfl⟩
  ·
    try simp only [decide_eq_true_eq, decide_eq_false_iff_not, Bool.not_eq_true', Bool.not_eq_false', Bool.and_eq_true, Bool.or_eq_true, Bool.or_eq_false_iff, Bool.not_not, Bool.and_eq_false_iff] at hc15
    refine C_exit ?_
    refine nx_exit ?_
    refine nx_exit ?_
    refine bk_hit ?_
    have hjj : j = q0.length := by omega
    exact ⟨.inl rfl, [], rfl, .inl (by rw [← hjj]; exact hIj)⟩
end Go.Proofs.Ytipcacpaadgagaa.E
