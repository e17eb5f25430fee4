/- Queues of chunks: refusals, states. It bears no condition. -/
import Derived.Test.YtipcacpaadgagaaQQ2
namespace Go.Proofs.Ytipcacpaadgagaa.E

set_option linter.unusedVariables false
set_option linter.unusedSimpArgs false
theorem w67_ev {H : AH} {R : HL} {x : En} (hH0 : Hs H ([(x.n, some (.cells ([(.i .u8 x.e.c.k), (.i .u8 x.e.c.f), (.i .u32 x.e.a), (.i .u32 x.e.c.b), (.i .u16 x.e.c.o), (.i .u16 x.e.c.i), (.i .u32 x.e.c.p), x.e.c.x1, x.e.c.x2, x.e.c.x3, x.e.c.x4, x.dv, (.p (some (x.m, 0))), (.i .i64 x.e.st), (.i .i64 x.e.sent), (.i .i64 x.e.tm), (.i .i64 x.e.mi)]) true))] ++ (R))) : Ev tabA spA (.fn (.func 67) [] []) [.p (some (x.n, 0))] H (fun r H' => r = .b (decide (x.e.st < 3)) ∧ Hs H' ([(x.n, some (.cells ([(.i .u8 x.e.c.k), (.i .u8 x.e.c.f), (.i .u32 x.e.a), (.i .u32 x.e.c.b), (.i .u16 x.e.c.o), (.i .u16 x.e.c.i), (.i .u32 x.e.c.p), x.e.c.x1, x.e.c.x2, x.e.c.x3, x.e.c.x4, x.dv, (.p (some (x.m, 0))), (.i .i64 x.e.st), (.i .i64 x.e.sent), (.i .i64 x.e.tm), (.i .i64 x.e.mi)]) true))] ++ (R))) := by
  refine Ev_C (F := x67) rfl ?_
  refine C_seq ?_
  refine C_region ?_
  refine O_p (.b false) (r_mv rfl) ?_
  refine O_nil ?_
  refine C_seq ?_
  refine C_region ?_
  refine O_p (.p (some (x.n, 0))) (r_mv rfl) ?_
  refine O_p (.p (some (x.n, 0))) (r_nilc rfl) ?_
  refine O_p (.p (some (x.n, 13))) (r_fadd' rfl rfl) ?_
  refine O_p (.i .i64 x.e.st) (r_ld rfl hH0.get0 rfl) ?_
  refine O_p (.b (decide (x.e.st < 3))) (r_lss rfl rfl) ?_
  refine O_p (.b (decide (x.e.st < 3))) (r_mv rfl) ?_
  refine O_nil ?_
  refine C_ret ?_
  exact ⟨.inr rfl, _, resL_one (r_tmp (v := (.b (decide (x.e.st < 3)))) rfl), rfl, hH0⟩
theorem ixg_ev {H : AH} {R : HL} {lv w : AV} {lc : List AV} {q : List En} {n : Nat} {fp : Nat} {P : Ea → Bool} (hP : ∀ (H : AH) (R : HL) (x : En), Hs H ([(x.n, some (.cells ([(.i .u8 x.e.c.k), (.i .u8 x.e.c.f), (.i .u32 x.e.a), (.i .u32 x.e.c.b), (.i .u16 x.e.c.o), (.i .u16 x.e.c.i), (.i .u32 x.e.c.p), x.e.c.x1, x.e.c.x2, x.e.c.x3, x.e.c.x4, x.dv, (.p (some (x.m, 0))), (.i .i64 x.e.st), (.i .i64 x.e.sent), (.i .i64 x.e.tm), (.i .i64 x.e.mi)]) true))] ++ (R)) → Ev tabA spA (.fn (.func fp) [] []) [.p (some (x.n, 0))] H (fun r H' => r = .b (P x.e) ∧ Hs H' ([(x.n, some (.cells ([(.i .u8 x.e.c.k), (.i .u8 x.e.c.f), (.i .u32 x.e.a), (.i .u32 x.e.c.b), (.i .u16 x.e.c.o), (.i .u16 x.e.c.i), (.i .u32 x.e.c.p), x.e.c.x1, x.e.c.x2, x.e.c.x3, x.e.c.x4, x.dv, (.p (some (x.m, 0))), (.i .i64 x.e.st), (.i .i64 x.e.sent), (.i .i64 x.e.tm), (.i .i64 x.e.mi)]) true))] ++ (R)))) (hw : ∀ H' R', Hs H' (qseg lv lc ++ R') → Rw 1 H' w ((q.map En.pr).take n)) (hn : n ≤ q.length) (hql : q.length ≤ 100000) (hH0 : Hs H ((qseg lv lc) ++ ((q.flatMap En.seg) ++ (R)))) : Ev tabA spA (.fn (.func 66) [] []) [w, .fn (.func fp) [] []] H (fun r H' => ((n ≤ (((q.map En.e).take n).findIdx P) ∧ r = .i .i64 (-1)) ∨ ((((q.map En.e).take n).findIdx P) < n ∧ r = .i .i64 (((((q.map En.e).take n).findIdx P) : Nat) : Int))) ∧ Hs H' ((qseg lv lc) ++ ((q.flatMap En.seg) ++ (R)))) := by
  refine Ev_C (F := x66) rfl ?_
  refine C_seq ?_
  refine C_region ?_
  refine O_p (.i .i64 0) (r_mv rfl) ?_
  refine O_nil ?_
  refine C_seq ?_
  refine C_seq ?_
  refine C_region ?_
  refine O_p w (r_mv rfl) ?_
  refine O_p (.i .i64 (((n : Nat)) : Int)) (by exact (r_lenOf (v := w) (n := n) rfl ((hw _ _ hH0.top0).lenOf (by rw [List.length_take, List.length_map]; exact Nat.min_eq_left hn)) (hw _ _ hH0.top0).isSl)) ?_
  refine O_p (.i .i64 0) (r_mv rfl) ?_
  refine O_nil ?_
  refine C_block ?_
  refine C_while (fun m1 T2 H3 => ∃ j : Nat, m1 = n - j ∧ j ≤ n ∧ j ≤ (((q.map En.e).take n).findIdx P) ∧ Hs H3 ((qseg lv lc) ++ ((q.flatMap En.seg) ++ (R))) ∧ T2.get 0 = w ∧ T2.get 1 = (.fn (.func fp) [] []) ∧ T2.get 7 = (.i .i64 (((n : Nat)) : Int)) ∧ T2.get 8 = (.i .i64 (((j : Nat)) : Int))) (fun m1 T2 H3 hI4 => ?_) n _ _ ⟨0, rfl, Nat.zero_le _, Nat.zero_le _, hH0, rfl, rfl, rfl, rfl⟩
  obtain ⟨j, hm5, hp6, hp7, hH12, hT8, hT9, hT10, hT11⟩ := hI4
  refine C_seq ?_
  refine C_region ?_
  refine O_p (.b (decide ((((j : Nat)) : Int) < (((n : Nat)) : Int)))) (r_lss hT11 hT10) ?_
  refine O_nil ?_
  refine C_seq ?_
  refine C_cond (x := (decide ((((j : Nat)) : Int) < (((n : Nat)) : Int)))) rfl (fun hc13 => ?_) (fun hc13 => ?_)
  ·
    try simp only [decide_eq_true_eq, decide_eq_false_iff_not, Bool.not_eq_true', Bool.not_eq_false', Bool.and_eq_true, Bool.or_eq_true, Bool.or_eq_false_iff, Bool.not_not, Bool.and_eq_false_iff] at hc13
    refine C_skip ?_
    refine C_seq ?_
    refine C_block ?_
    refine C_seq ?_
    refine C_region ?_
    have hjl : j < q.length := by omega
    obtain ⟨x, hxj⟩ : ∃ e, q[j]? = some e := ⟨_, List.getElem?_eq_getElem hjl⟩
    have hH14 := (hH12.top1)
    have hH15 := En.out hxj hH14
    have hej : ((q.map En.e).take n)[j]? = some x.e := (List.getElem?_take_of_lt (show j < n by omega)).trans (en_e hxj)
    refine O_p (.i .i64 (((j : Nat)) : Int)) (r_mv hT11) ?_
    refine O_p (.i .i64 (((j : Nat)) : Int)) (r_mv rfl) ?_
    refine O_nil ?_
    refine C_seq ?_
    refine C_region ?_
    refine O_p (.fn (.func fp) [] []) (r_mv hT9) ?_
    refine O_p w (r_mv hT8) ?_
    refine O_p (.i .i64 (((j : Nat)) : Int)) (r_mv rfl) ?_
    refine O_q (by exact Rw.row (hw _ _ hH15.top2) rfl (i := j) rfl (r := [(.p (some (x.n, 0)))]) ((List.getElem?_take_of_lt (by omega)).trans (pr_get hxj))) fun v17 hv16 => ?_
    obtain ⟨rb18, ro19, rfl, hr20⟩ := hv16
    refine O_p (.p (some (x.n, 0))) (r_ldR (q := 0) rfl (hr20 _ (hw _ _ hH15.top2)) rfl) ?_
    refine O_call (Ev.mono (hP _ _ x hH15) fun v21 H22 hq23 => ?_)
    obtain ⟨rfl, hH24⟩ := hq23
    refine O_nil ?_
    refine C_cond (x := (P x.e)) rfl (fun hc25 => ?_) (fun hc25 => ?_)
    ·
      have hPx : P x.e = true := by simpa using hc25
      refine C_seq ?_
      refine C_region ?_
      refine O_p (.i .i64 (((j : Nat)) : Int)) (r_mv rfl) ?_
      refine O_p (.i .i64 (((j : Nat)) : Int)) (r_mv rfl) ?_
      refine O_nil ?_
      refine C_ret ?_
      refine bk_ret ?_
      refine nx_ret ?_
      refine nx_ret ?_
      refine bk_ret ?_
      refine nx_ret ?_
      have hH26 := ((hH24.top1).top1)
      have hH27 := En.back0 hxj hH26
      have hH28 := (hH27.top1)
      have hfj := fx_at hp7 hej hPx
      exact ⟨.inr rfl, _, resL_one (r_tmp (v := (.i .i64 (((j : Nat)) : Int))) rfl), .inr ⟨by omega, by rw [hfj]; rfl⟩, hH28⟩
    ·
      have hPx : P x.e = false := by simpa using hc25
      refine C_skip ?_
      refine C_region ?_
      refine O_p (.i .i64 ((((j : Nat)) : Int) + 1)) (by exact (r_addi hT11 rfl (wrap_i64 (by omega) (by omega)))) ?_
      refine O_p (.i .i64 ((((j : Nat)) : Int) + 1)) (r_mv rfl) ?_
      refine O_nil ?_
      have hH29 := ((hH24.top1).top1)
      have hH30 := En.back0 hxj hH29
      have hH31 := (hH30.top1)
      exact ⟨n - (j + 1), by omega, (j + 1), rfl, by omega, fx_next hp7 hej hPx, hH31, hT8, hT9, hT10, rfl⟩
  ·
    try simp only [decide_eq_true_eq, decide_eq_false_iff_not, Bool.not_eq_true', Bool.not_eq_false', Bool.and_eq_true, Bool.or_eq_true, Bool.or_eq_false_iff, Bool.not_not, Bool.and_eq_false_iff] at hc13
    refine C_exit ?_
    refine nx_exit ?_
    refine nx_exit ?_
    refine bk_hit ?_
    refine C_seq ?_
    refine C_region ?_
    refine O_p (.i .i64 (-1)) (r_mv rfl) ?_
    refine O_nil ?_
    refine C_ret ?_
    have hH32 := ((hH12.top1).top1)
    exact ⟨.inr rfl, _, resL_one (r_tmp (v := (.i .i64 (-1))) rfl), .inl ⟨by have := hp7; omega, rfl⟩, hH32⟩
set_option linter.unusedVariables false
set_option linter.unusedSimpArgs false
def fwE (l : List Ea) : Nat := (l.foldl (fun s e => (s.1 + 1, if e.st = 4 then s.1 + 1 else s.2)) ((0, 0) : Nat × Nat)).2
theorem fwE_fst : ∀ (l : List Ea) (s : Nat × Nat), (l.foldl (fun s e => (s.1 + 1, if e.st = 4 then s.1 + 1 else s.2)) s).1 = s.1 + l.length
  | [], s => rfl
  | e :: l, s => by
    rw [List.foldl_cons, fwE_fst l]; simp only [List.length_cons]; omega
theorem fwE_snoc {l : List Ea} {e : Ea} : fwE (l ++ [e]) = if e.st = 4 then l.length + 1 else fwE l := by
  unfold fwE
  rw [List.foldl_append]
  show (if e.st = 4 then (l.foldl _ ((0, 0) : Nat × Nat)).1 + 1 else _) = _
  rw [fwE_fst]
  simp only [Nat.zero_add]
theorem fwE_at {l : List Ea} {j : Nat} {e : Ea} (h : l[j]? = some e) : fwE (l.take (j + 1)) = if e.st = 4 then j + 1 else fwE (l.take j) := by
  have hj := (List.getElem?_eq_some_iff.1 h).1
  rw [take_at h, fwE_snoc, List.length_take, Nat.min_eq_left (Nat.le_of_lt hj)]
theorem fwE_le : ∀ {l : List Ea} {j : Nat}, j ≤ l.length → fwE (l.take j) ≤ j
  | l, 0, _ => by rw [List.take_zero]; exact Nat.le_refl _
  | l, j + 1, h => by
    have he : l[j]? = some l[j] := List.getElem?_eq_getElem (by omega)
    rw [fwE_at he]
    split
    · exact Nat.le_refl _
    · exact Nat.le_succ_of_le (fwE_le (by omega))
/-- How many entries stand ahead of the first one that is waited for. -/
def fwN (l : List Ea) : Nat := l.findIdx fun e => decide (e.st < 3)
theorem fwN_le {l : List Ea} : fwN l ≤ l.length := List.findIdx_le_length
abbrev fwX (l : List Ea) : Nat := fwE (l.take (fwN l))
theorem fwX_le {l : List Ea} : fwX l ≤ l.length := Nat.le_trans (fwE_le fwN_le) fwN_le
/-- Is a chunk free of order? -/
def frB (f : Int) : Bool := !decide (IntKind.u8.wrap ((BitVec.ofInt 8 f &&& BitVec.ofInt 8 4).toNat : Int) = 0)
abbrev skR (p : Int × Int) : List AV := [.i .u16 p.1, .i .u16 p.2]
abbrev skP (o : Int) : Int × Int → Bool := fun p => decide (p.1 = o)
def fwS (out : List (Int × Int)) (e : Ea) : List (Int × Int) :=
  if e.st = 3 ∨ frB e.c.f = true then out else if out.findIdx (skP e.c.o) < out.length then out.set (out.findIdx (skP e.c.o)) (e.c.o, e.c.i) else out ++ [(e.c.o, e.c.i)]
theorem fwS_len {out : List (Int × Int)} {e : Ea} : (fwS out e).length ≤ out.length + 1 := by
  unfold fwS
  split
  · exact Nat.le_succ _
  · split
    · rw [List.length_set]; exact Nat.le_succ _
    · rw [List.length_append]; exact Nat.le_refl _
def fwO (l : List Ea) : List (Int × Int) := l.foldl fwS []
theorem fwO_at {l : List Ea} {j : Nat} {e : Ea} (h : l[j]? = some e) : fwO (l.take (j + 1)) = fwS (fwO (l.take j)) e := by
  unfold fwO
  rw [take_at h, List.foldl_append]; rfl
theorem fwO_len : ∀ {l : List Ea} {j : Nat}, (fwO (l.take j)).length ≤ j
  | l, 0 => by rw [List.take_zero]; exact Nat.le_refl _
  | l, j + 1 => by
    rcases Nat.lt_or_ge j l.length with h | h
    · rw [fwO_at (List.getElem?_eq_getElem h)]
      exact Nat.le_trans fwS_len (Nat.succ_le_succ fwO_len)
    · have h9 : l.take (j + 1) = l.take j := by rw [List.take_of_length_le h, List.take_of_length_le (by omega)]
      rw [h9]; exact Nat.le_succ_of_le fwO_len
theorem sk_lens (l : List (Int × Int)) : ∀ r ∈ l.map skR, r.length = 2 := fun r hr => by obtain ⟨x, _, rfl⟩ := List.mem_map.1 hr; rfl
theorem sk_get {l : List (Int × Int)} {k : Nat} {p : Int × Int} (h : l[k]? = some p) : (l.map skR)[k]? = some [.i .u16 p.1, .i .u16 p.2] := by rw [List.getElem?_map, h]; rfl
theorem sk_app {l : List (Int × Int)} {p : Int × Int} : ((l ++ [p]).map skR).flatten = (l.map skR).flatten ++ [.i .u16 p.1, .i .u16 p.2] := by rw [List.map_append, List.flatten_append]; rfl
/-- The number up to which the other side is to skip. -/
def fwM (l : List Ea) (nx : Int) : Int := if fwX l = 0 then floorA nx l.length else match l[fwX l - 1]? with
  | some e => e.a
  | none => 0
theorem done_all {H : AH} {R : HL} {F : Nat} {lv : AV} {lc : List AV} {nx : Int} {q : List En} {n : Nat} (hlv : Sq 1 lv lc (q.map En.pr).flatten) (hql : q.length ≤ 100000) (hnn : n = fwN (q.map En.e)) (hnl : n = q.length) (hH0 : Hs H ([(F, some (.cells ([lv, (.i .u32 nx)]) true))] ++ ((qseg lv lc) ++ ((q.flatMap En.seg) ++ (R))))) : Ev tabA spA (.fn (.func 44) [] []) [.p (some (F, 0))] H (fun r H' => ∃ w, r = w ∧ (∀ H' R', Hs H' (qseg lv lc ++ R') → Rw 1 H' w ((q.map En.pr).take n)) ∧ Hs H' ([(F, some (.cells ([lv, (.i .u32 nx)]) true))] ++ ((qseg lv lc) ++ ((q.flatMap En.seg) ++ (R))))) := by
  refine Ev_C (F := x44) rfl ?_
  have hwl : ∀ H' R', Hs H' (qseg lv lc ++ R') → Rw 1 H' lv ((q.map En.pr).take q.length) := fun H' R' hh => by have h9 := hlv.rd hh (pr_lens q) (by decide); rw [List.take_of_length_le (by rw [List.length_map]; exact Nat.le_refl _)]; exact h9
  have htk : (q.map En.e).take q.length = q.map En.e := List.take_of_length_le (by rw [List.length_map]; exact Nat.le_refl _)
  have hfx : (((q.map En.e).take q.length).findIdx fun e => decide (e.st < 3)) = n := by rw [htk, hnn]; rfl
  have hn : n ≤ q.length := by omega
  refine C_seq ?_
  refine C_region ?_
  refine O_p (.sl none 0 0 0) (r_mv rfl) ?_
  refine O_nil ?_
  refine C_seq ?_
  refine C_seq ?_
  refine C_region ?_
  refine O_p (.p (some (F, 0))) (r_mv rfl) ?_
  refine O_p (.b false) (r_nilq_s rfl) ?_
  refine O_nil ?_
  refine C_cond (x := false) rfl (fun h => by cases h) (fun _ => ?_)
  refine C_skip ?_
  refine C_seq ?_
  refine C_region ?_
  refine O_p (.p (some (F, 0))) (r_mv rfl) ?_
  refine O_p (.p (some (F, 0))) (r_nilc rfl) ?_
  refine O_p (.p (some (F, 0))) (r_fadd' rfl rfl) ?_
  refine O_p lv (r_ld rfl hH0.get0 rfl) ?_
  have hH1 := ((hH0.top2).top2)
  refine O_call (Ev.mono (ixg_ev (P := fun e => decide (e.st < 3)) (n := q.length) (fun _ _ _ h => w67_ev h) hwl (Nat.le_refl _) hql hH1) fun v2 H3 hq4 => ?_)
  obtain ⟨hor, hH5⟩ := hq4
  rw [hfx] at hor; rcases hor with ⟨h1, rfl⟩ | ⟨h1, rfl⟩
  rotate_left
  · omega
  refine O_p (.i .i64 (-1)) (r_mv rfl) ?_
  refine O_nil ?_
  refine C_seq ?_
  refine C_seq ?_
  refine C_region ?_
  refine O_p (.i .i64 (-1)) (r_mv rfl) ?_
  refine O_p (.b true) (by exact (by rw [r_lss rfl rfl, decide_eq_true (by omega)])) ?_
  refine O_nil ?_
  refine C_cond (x := true) rfl (fun _ => ?_) (fun h => by cases h)
  refine C_seq ?_
  refine C_region ?_
  refine O_p (.p (some (F, 0))) (r_mv rfl) ?_
  refine O_p (.p (some (F, 0))) (r_nilc rfl) ?_
  refine O_p (.p (some (F, 0))) (r_fadd' rfl rfl) ?_
  refine O_p lv (r_ld rfl hH5.get2 rfl) ?_
  refine O_p lv (r_mv rfl) ?_
  refine O_nil ?_
  refine C_ret ?_
  refine nx_ret ?_
  have hH6 := (((hH5.top1).top1).top2)
  exact ⟨.inr rfl, _, resL_one (r_tmp (v := lv) rfl), lv, rfl, fun H' R' hh => by have h9 := hlv.rd hh (pr_lens q) (by decide); rw [hnl, List.take_of_length_le (by rw [List.length_map]; exact Nat.le_refl _)]; exact h9, hH6⟩
theorem done_some {H : AH} {R : HL} {F : Nat} {lv : AV} {lc : List AV} {nx : Int} {q : List En} {n : Nat} (hlv : Sq 1 lv lc (q.map En.pr).flatten) (hql : q.length ≤ 100000) (hnn : n = fwN (q.map En.e)) (hnl : n < q.length) (hH0 : Hs H ([(F, some (.cells ([lv, (.i .u32 nx)]) true))] ++ ((qseg lv lc) ++ ((q.flatMap En.seg) ++ (R))))) : Ev tabA spA (.fn (.func 44) [] []) [.p (some (F, 0))] H (fun r H' => ∃ w, r = w ∧ (∀ H' R', Hs H' (qseg lv lc ++ R') → Rw 1 H' w ((q.map En.pr).take n)) ∧ Hs H' ([(F, some (.cells ([lv, (.i .u32 nx)]) true))] ++ ((qseg lv lc) ++ ((q.flatMap En.seg) ++ (R))))) := by
  refine Ev_C (F := x44) rfl ?_
  have hwl : ∀ H' R', Hs H' (qseg lv lc ++ R') → Rw 1 H' lv ((q.map En.pr).take q.length) := fun H' R' hh => by have h9 := hlv.rd hh (pr_lens q) (by decide); rw [List.take_of_length_le (by rw [List.length_map]; exact Nat.le_refl _)]; exact h9
  have htk : (q.map En.e).take q.length = q.map En.e := List.take_of_length_le (by rw [List.length_map]; exact Nat.le_refl _)
  have hfx : (((q.map En.e).take q.length).findIdx fun e => decide (e.st < 3)) = n := by rw [htk, hnn]; rfl
  have hn : n ≤ q.length := by omega
  refine C_seq ?_
  refine C_region ?_
  refine O_p (.sl none 0 0 0) (r_mv rfl) ?_
  refine O_nil ?_
  refine C_seq ?_
  refine C_seq ?_
  refine C_region ?_
  refine O_p (.p (some (F, 0))) (r_mv rfl) ?_
  refine O_p (.b false) (r_nilq_s rfl) ?_
  refine O_nil ?_
  refine C_cond (x := false) rfl (fun h => by cases h) (fun _ => ?_)
  refine C_skip ?_
  refine C_seq ?_
  refine C_region ?_
  refine O_p (.p (some (F, 0))) (r_mv rfl) ?_
  refine O_p (.p (some (F, 0))) (r_nilc rfl) ?_
  refine O_p (.p (some (F, 0))) (r_fadd' rfl rfl) ?_
  refine O_p lv (r_ld rfl hH0.get0 rfl) ?_
  have hH1 := ((hH0.top2).top2)
  refine O_call (Ev.mono (ixg_ev (P := fun e => decide (e.st < 3)) (n := q.length) (fun _ _ _ h => w67_ev h) hwl (Nat.le_refl _) hql hH1) fun v2 H3 hq4 => ?_)
  obtain ⟨hor, hH5⟩ := hq4
  rw [hfx] at hor; rcases hor with ⟨h1, rfl⟩ | ⟨h1, rfl⟩
  · omega
  refine O_p (.i .i64 (((n : Nat)) : Int)) (r_mv rfl) ?_
  refine O_nil ?_
  refine C_seq ?_
  refine C_seq ?_
  refine C_region ?_
  refine O_p (.i .i64 (((n : Nat)) : Int)) (r_mv rfl) ?_
  refine O_p (.b false) (by exact (by rw [r_lss rfl rfl, decide_eq_false (by omega)])) ?_
  refine O_nil ?_
  refine C_cond (x := false) rfl (fun h => by cases h) (fun _ => ?_)
  refine C_skip ?_
  refine C_seq ?_
  refine C_region ?_
  refine O_p (.p (some (F, 0))) (r_mv rfl) ?_
  refine O_p (.p (some (F, 0))) (r_nilc rfl) ?_
  refine O_p (.p (some (F, 0))) (r_fadd' rfl rfl) ?_
  refine O_p lv (r_ld rfl hH5.get2 rfl) ?_
  refine O_p (.i .i64 (((n : Nat)) : Int)) (r_mv rfl) ?_
  refine O_q (by exact Rw.hi (hlv.rd hH5.top0 (pr_lens q) (by decide)) rfl (i := n) rfl (by rw [List.length_map]; exact hn)) fun v7 hv6 => ?_
  have hw22 : ∀ H' R', Hs H' (qseg lv lc ++ R') → Rw 1 H' v7 ((q.map En.pr).take n) := fun H' R' hh => hv6 H' (hlv.rd hh (pr_lens q) (by decide))
  refine O_p v7 (r_mv rfl) ?_
  refine O_nil ?_
  refine C_ret ?_
  have hH8 := (((hH5.top1).top1).top2)
  exact ⟨.inr rfl, _, resL_one (r_tmp (v := v7) rfl), _, rfl, hw22, hH8⟩
theorem done_ev {H : AH} {R : HL} {F : Nat} {lv : AV} {lc : List AV} {nx : Int} {q : List En} {n : Nat} (hlv : Sq 1 lv lc (q.map En.pr).flatten) (hql : q.length ≤ 100000) (hnn : n = fwN (q.map En.e)) (hH0 : Hs H ([(F, some (.cells ([lv, (.i .u32 nx)]) true))] ++ ((qseg lv lc) ++ ((q.flatMap En.seg) ++ (R))))) : Ev tabA spA (.fn (.func 44) [] []) [.p (some (F, 0))] H (fun r H' => ∃ w, r = w ∧ (∀ H' R', Hs H' (qseg lv lc ++ R') → Rw 1 H' w ((q.map En.pr).take n)) ∧ Hs H' ([(F, some (.cells ([lv, (.i .u32 nx)]) true))] ++ ((qseg lv lc) ++ ((q.flatMap En.seg) ++ (R))))) := by
  have h1 := fwN_le (l := q.map En.e)
  rw [List.length_map, ← hnn] at h1
  rcases Nat.lt_or_eq_of_le h1 with h | h
  · exact done_some hlv hql hnn h hH0
  · exact done_all hlv hql hnn h hH0

theorem sk1_ev {H : AH} {R : HL} {hb : Nat} {so si b1 b2 : Int} (hH0 : Hs H ([(hb, some (.cells ([(.i .u16 so), (.i .u16 si)]) true))] ++ (R))) : Ev tabA spA (.fn (.func 46) [] [.p (some (hb, 0))]) [.agg [.i .u16 b1, .i .u16 b2]] H (fun r H' => r = .b (decide (b1 = so)) ∧ Hs H' ([(hb, some (.cells ([(.i .u16 so), (.i .u16 si)]) true))] ++ (R))) := by
  refine Ev_C (F := x46) rfl ?_
  refine C_seq ?_
  refine C_region ?_
  refine O_box (z := [(.i .u16 b1), (.i .u16 b2)]) rfl fun n1 H2 hN3 => ?_
  have hH4 := hH0.new hN3
  refine O_p (.b false) (r_mv rfl) ?_
  refine O_nil ?_
  refine C_seq ?_
  refine C_region ?_
  refine O_p (.p (some (n1, 0))) (r_fadd' rfl rfl) ?_
  refine O_p (.i .u16 b1) (r_ld rfl hH4.get0 rfl) ?_
  refine O_p (.p (some (hb, 0))) (r_fadd' rfl rfl) ?_
  refine O_p (.i .u16 so) (r_ld rfl hH4.get1 rfl) ?_
  refine O_p (.b (decide (b1 = so))) (r_eql rfl rfl) ?_
  refine O_p (.b (decide (b1 = so))) (r_mv rfl) ?_
  refine O_nil ?_
  refine C_ret ?_
  have hH5 := (hH4.sub0)
  exact ⟨.inr rfl, _, resL_one (r_tmp (v := (.b (decide (b1 = so)))) rfl), rfl, hH5⟩
theorem ixs_ev {H : AH} {R : HL} {hb : Nat} {so si : Int} {ov : AV} {oc : List AV} {os : List (Int × Int)} (hov : Sq 2 ov oc (os.map skR).flatten) (hol : os.length ≤ 100000) (hH0 : Hs H ([(hb, some (.cells ([(.i .u16 so), (.i .u16 si)]) true))] ++ ((qseg ov oc) ++ (R)))) : Ev tabA spA (.fn (.func 45) [] []) [ov, .fn (.func 46) [] [.p (some (hb, 0))]] H (fun r H' => ((os.length ≤ (os.findIdx (skP so)) ∧ r = .i .i64 (-1)) ∨ ((os.findIdx (skP so)) < os.length ∧ r = .i .i64 (((os.findIdx (skP so)) : Nat) : Int))) ∧ Hs H' ([(hb, some (.cells ([(.i .u16 so), (.i .u16 si)]) true))] ++ ((qseg ov oc) ++ (R)))) := by
  refine Ev_C (F := x45) rfl ?_
  refine C_seq ?_
  refine C_region ?_
  refine O_p (.i .i64 0) (r_mv rfl) ?_
  refine O_nil ?_
  refine C_seq ?_
  refine C_seq ?_
  refine C_region ?_
  refine O_p ov (r_mv rfl) ?_
  refine O_p (.i .i64 (((os.length : Nat)) : Int)) (by exact (by exact r_lenOf rfl (hov.lenOf ((flat_len (sk_lens os)).trans (by rw [List.length_map])) (by decide)) hov.isSl)) ?_
  refine O_p (.i .i64 0) (r_mv rfl) ?_
  refine O_nil ?_
  refine C_block ?_
  refine C_while (fun m1 T2 H3 => ∃ j : Nat, m1 = os.length - j ∧ j ≤ os.length ∧ j ≤ (os.findIdx (skP so)) ∧ Hs H3 ([(hb, some (.cells ([(.i .u16 so), (.i .u16 si)]) true))] ++ ((qseg ov oc) ++ (R))) ∧ T2.get 0 = ov ∧ T2.get 1 = (.fn (.func 46) [] [.p (some (hb, 0))]) ∧ T2.get 7 = (.i .i64 (((os.length : Nat)) : Int)) ∧ T2.get 8 = (.i .i64 (((j : Nat)) : Int))) (fun m1 T2 H3 hI4 => ?_) os.length _ _ ⟨0, rfl, Nat.zero_le _, Nat.zero_le _, hH0, rfl, rfl, rfl, rfl⟩
  obtain ⟨j, hm5, hp6, hp7, hH12, hT8, hT9, hT10, hT11⟩ := hI4
  refine C_seq ?_
  refine C_region ?_
  refine O_p (.b (decide ((((j : Nat)) : Int) < (((os.length : Nat)) : Int)))) (r_lss hT11 hT10) ?_
  refine O_nil ?_
  refine C_seq ?_
  refine C_cond (x := (decide ((((j : Nat)) : Int) < (((os.length : Nat)) : Int)))) rfl (fun hc13 => ?_) (fun hc13 => ?_)
  ·
    try simp only [decide_eq_true_eq, decide_eq_false_iff_not, Bool.not_eq_true', Bool.not_eq_false', Bool.and_eq_true, Bool.or_eq_true, Bool.or_eq_false_iff, Bool.not_not, Bool.and_eq_false_iff] at hc13
    refine C_skip ?_
    refine C_seq ?_
    refine C_block ?_
    refine C_seq ?_
    refine C_region ?_
    obtain ⟨o, hoi⟩ : ∃ o, os[j]? = some o := ⟨_, List.getElem?_eq_getElem (show j < os.length by omega)⟩
    refine O_p (.i .i64 (((j : Nat)) : Int)) (r_mv hT11) ?_
    refine O_p (.i .i64 (((j : Nat)) : Int)) (r_mv rfl) ?_
    refine O_nil ?_
    refine C_seq ?_
    refine C_region ?_
    refine O_p (.fn (.func 46) [] [.p (some (hb, 0))]) (r_mv hT9) ?_
    refine O_p ov (r_mv hT8) ?_
    refine O_p (.i .i64 (((j : Nat)) : Int)) (r_mv rfl) ?_
    refine O_q (by exact Sq.cell hov (sk_lens os) hH12.top1 rfl (i := j) rfl (r := [(.i .u16 o.1), (.i .u16 o.2)]) (sk_get hoi) (by decide)) fun v15 hv14 => ?_
    obtain ⟨rb16, ro17, rfl, hrg18, hrt19, hrb20, hput21, hqs22⟩ := hv14
    refine O_p (.agg [(.i .u16 o.1), (.i .u16 o.2)]) (r_ldRA (q := 0) rfl ⟨_, _, hrg18, hrt19⟩ rfl) ?_
    refine O_call (Ev.mono (sk1_ev hH12) fun v23 H24 hq25 => ?_)
    obtain ⟨rfl, hH26⟩ := hq25
    refine O_nil ?_
    refine C_cond (x := (decide (o.1 = so))) rfl (fun hc27 => ?_) (fun hc27 => ?_)
    ·
      have hPx : skP so o = true := by simpa using hc27
      refine C_seq ?_
      refine C_region ?_
      refine O_p (.i .i64 (((j : Nat)) : Int)) (r_mv rfl) ?_
      refine O_p (.i .i64 (((j : Nat)) : Int)) (r_mv rfl) ?_
      refine O_nil ?_
      refine C_ret ?_
      refine bk_ret ?_
      refine nx_ret ?_
      refine nx_ret ?_
      refine bk_ret ?_
      refine nx_ret ?_
      have hH28 := ((hH26.top1).top1)
      have hfj := fx_at hp7 hoi hPx
      exact ⟨.inr rfl, _, resL_one (r_tmp (v := (.i .i64 (((j : Nat)) : Int))) rfl), .inr ⟨by have := (List.getElem?_eq_some_iff.1 hoi).1; omega, by rw [hfj]; rfl⟩, hH28⟩
    ·
      have hPx : skP so o = false := by simpa using hc27
      refine C_skip ?_
      refine C_region ?_
      refine O_p (.i .i64 ((((j : Nat)) : Int) + 1)) (by exact (r_addi hT11 rfl (wrap_i64 (by omega) (by omega)))) ?_
      refine O_p (.i .i64 ((((j : Nat)) : Int) + 1)) (r_mv rfl) ?_
      refine O_nil ?_
      have hH29 := ((hH26.top1).top1)
      exact ⟨os.length - (j + 1), by omega, (j + 1), rfl, by omega, fx_next hp7 hoi hPx, hH29, hT8, hT9, hT10, rfl⟩
  ·
    try simp only [decide_eq_true_eq, decide_eq_false_iff_not, Bool.not_eq_true', Bool.not_eq_false', Bool.and_eq_true, Bool.or_eq_true, Bool.or_eq_false_iff, Bool.not_not, Bool.and_eq_false_iff] at hc13
    refine C_exit ?_
    refine nx_exit ?_
    refine nx_exit ?_
    refine bk_hit ?_
    refine C_seq ?_
    refine C_region ?_
    refine O_p (.i .i64 (-1)) (r_mv rfl) ?_
    refine O_nil ?_
    refine C_ret ?_
    have hH30 := ((hH12.top1).top1)
    exact ⟨.inr rfl, _, resL_one (r_tmp (v := (.i .i64 (-1))) rfl), .inl ⟨by have := hp7; omega, rfl⟩, hH30⟩
set_option maxHeartbeats 2000000 in
theorem forward_raw {H : AH} {R : HL} {F : Nat} {lv : AV} {lc : List AV} {nx : Int} {q : List En} (hlv : Sq 1 lv lc (q.map En.pr).flatten) (hql : q.length ≤ 100000) (hH0 : Hs H ([(F, some (.cells ([lv, (.i .u32 nx)]) true))] ++ ((qseg lv lc) ++ ((q.flatMap En.seg) ++ (R))))) : Ev tabA spA (.fn (.func 27) [] []) [.p (some (F, 0))] H (fun r H' => ∃ ov oc, r = .tup [.i .u32 (fwM (q.map En.e) nx), ov, .b (decide (0 < fwX (q.map En.e)))] ∧ Sq 2 ov oc ((fwO ((q.map En.e).take (fwX (q.map En.e)))).map skR).flatten ∧ Hs H' (qseg ov oc ++ ([(F, some (.cells ([lv, (.i .u32 nx)]) true))] ++ ((qseg lv lc) ++ ((q.flatMap En.seg) ++ (R)))))) := by
  refine Ev_C (F := x27) rfl ?_
  obtain ⟨n, hnn⟩ : ∃ z, z = fwN (q.map En.e) := ⟨_, rfl⟩
  have hn := fwN_le (l := (q.map En.e))
  rw [List.length_map, ← hnn] at hn
  refine C_seq ?_
  refine C_region ?_
  refine O_p (.i .u32 0) (r_mv rfl) ?_
  refine O_p (.sl none 0 0 0) (r_mv rfl) ?_
  refine O_p (.b false) (r_mv rfl) ?_
  refine O_nil ?_
  refine C_seq ?_
  refine C_region ?_
  refine O_p (.i .i64 0) (r_mv rfl) ?_
  refine O_nil ?_
  refine C_seq ?_
  refine C_seq ?_
  refine C_region ?_
  refine O_p (.p (some (F, 0))) (r_mv rfl) ?_
  have hH1 := (((hH0.top2).top2).top2)
  have hH2 := (((hH1.top2).top2).top2)
  refine O_call (Ev.mono (done_ev hlv hql hnn hH2) fun v3 H4 hq5 => ?_)
  obtain ⟨w, rfl, hw, hH6⟩ := hq5
  refine O_p (.i .i64 (((n : Nat)) : Int)) (by exact (r_lenOf (v := v3) (n := n) rfl ((hw _ _ hH6.top1).lenOf (by rw [List.length_take, List.length_map]; exact Nat.min_eq_left hn)) (hw _ _ hH6.top1).isSl)) ?_
  refine O_p (.i .i64 0) (r_mv rfl) ?_
  refine O_nil ?_
  refine C_block ?_
  have hH7 := (((hH6.top2).top2).top2)
  refine C_while (fun m8 T9 H10 => ∃ j : Nat, m8 = n - j ∧ j ≤ n ∧ Hs H10 ([(F, some (.cells ([lv, (.i .u32 nx)]) true))] ++ ((qseg lv lc) ++ ((q.flatMap En.seg) ++ (R)))) ∧ T9.get 0 = (.p (some (F, 0))) ∧ T9.get 5 = (.i .i64 ((((fwE ((q.map En.e).take j)) : Nat)) : Int)) ∧ T9.get 14 = v3 ∧ T9.get 15 = (.i .i64 (((n : Nat)) : Int)) ∧ T9.get 16 = (.i .i64 (((j : Nat)) : Int))) (fun m8 T9 H10 hI11 => ?_) n _ _ ⟨0, rfl, Nat.zero_le _, hH7, rfl, (by rw [List.take_zero]; rfl), rfl, rfl, rfl⟩
  obtain ⟨j, hm12, hp13, hH19, hT14, hT15, hT16, hT17, hT18⟩ := hI11
  refine C_seq ?_
  refine C_region ?_
  refine O_p (.b (decide ((((j : Nat)) : Int) < (((n : Nat)) : Int)))) (r_lss hT18 hT17) ?_
  refine O_nil ?_
  refine C_seq ?_
  refine C_cond (x := (decide ((((j : Nat)) : Int) < (((n : Nat)) : Int)))) rfl (fun hc20 => ?_) (fun hc20 => ?_)
  ·
    try simp only [decide_eq_true_eq, decide_eq_false_iff_not, Bool.not_eq_true', Bool.not_eq_false', Bool.and_eq_true, Bool.or_eq_true, Bool.or_eq_false_iff, Bool.not_not, Bool.and_eq_false_iff] at hc20
    refine C_skip ?_
    refine C_seq ?_
    refine C_block ?_
    refine C_seq ?_
    refine C_region ?_
    have hjl : j < q.length := by omega
    obtain ⟨x, hxj⟩ : ∃ e, q[j]? = some e := ⟨_, List.getElem?_eq_getElem hjl⟩
    have hH21 := (hH19.top2)
    have hH22 := En.out hxj hH21
    refine O_p (.i .i64 (((j : Nat)) : Int)) (r_mv hT18) ?_
    refine O_q (by exact Rw.row (hw _ _ hH22.top3) (by exact hT16) (i := j) (by exact hT18) (r := [(.p (some (x.n, 0)))]) ((List.getElem?_take_of_lt (by omega)).trans (pr_get hxj))) fun v24 hv23 => ?_
    obtain ⟨rb25, ro26, rfl, hr27⟩ := hv23
    refine O_p (.p (some (x.n, 0))) (r_ldR (q := 0) rfl (hr27 _ (hw _ _ hH22.top3)) rfl) ?_
    refine O_p (.i .i64 (((j : Nat)) : Int)) (r_mv rfl) ?_
    refine O_p (.p (some (x.n, 0))) (r_mv rfl) ?_
    refine O_nil ?_
    refine C_seq ?_
    refine C_region ?_
    refine O_p (.p (some (x.n, 0))) (r_mv rfl) ?_
    refine O_p (.p (some (x.n, 0))) (r_nilc rfl) ?_
    refine O_p (.p (some (x.n, 13))) (r_fadd' rfl rfl) ?_
    refine O_p (.i .i64 x.e.st) (r_ld rfl hH22.get0 rfl) ?_
    refine O_p (.b (decide (x.e.st = 4))) (r_eql rfl rfl) ?_
    refine O_nil ?_
    refine C_cond (x := (decide (x.e.st = 4))) rfl (fun hc28 => ?_) (fun hc28 => ?_)
    ·
      try simp only [decide_eq_true_eq, decide_eq_false_iff_not, Bool.not_eq_true', Bool.not_eq_false', Bool.and_eq_true, Bool.or_eq_true, Bool.or_eq_false_iff, Bool.not_not, Bool.and_eq_false_iff] at hc28
      refine C_region ?_
      refine O_p (.i .i64 (((j : Nat)) : Int)) (r_mv rfl) ?_
      refine O_p (.i .i64 ((((j : Nat)) : Int) + 1)) (by exact (r_addi rfl rfl (wrap_i64 (by omega) (by omega)))) ?_
      refine O_p (.i .i64 ((((j : Nat)) : Int) + 1)) (r_mv rfl) ?_
      refine O_nil ?_
      refine C_region ?_
      refine O_p (.i .i64 ((((j : Nat)) : Int) + 1)) (by exact (r_addi hT18 rfl (wrap_i64 (by omega) (by omega)))) ?_
      refine O_p (.i .i64 ((((j : Nat)) : Int) + 1)) (r_mv rfl) ?_
      refine O_nil ?_
      have hH29 := ((hH22.top1).top1)
      have hH30 := En.back0 hxj hH29
      have hH31 := ((hH30.top2).top2)
      exact ⟨n - (j + 1), by omega, (j + 1), rfl, by omega, hH31, hT14, (by rw [fwE_at (en_e hxj), if_pos (by omega)]; exact rfl), hT16, hT17, rfl⟩
    ·
      try simp only [decide_eq_true_eq, decide_eq_false_iff_not, Bool.not_eq_true', Bool.not_eq_false', Bool.and_eq_true, Bool.or_eq_true, Bool.or_eq_false_iff, Bool.not_not, Bool.and_eq_false_iff] at hc28
      refine C_skip ?_
      refine C_region ?_
      refine O_p (.i .i64 ((((j : Nat)) : Int) + 1)) (by exact (r_addi hT18 rfl (wrap_i64 (by omega) (by omega)))) ?_
      refine O_p (.i .i64 ((((j : Nat)) : Int) + 1)) (r_mv rfl) ?_
      refine O_nil ?_
      have hH32 := ((hH22.top1).top1)
      have hH33 := En.back0 hxj hH32
      have hH34 := ((hH33.top2).top2)
      exact ⟨n - (j + 1), by omega, (j + 1), rfl, by omega, hH34, hT14, (by rw [fwE_at (en_e hxj), if_neg (by omega)]; exact hT15), hT16, hT17, rfl⟩
  ·
    try simp only [decide_eq_true_eq, decide_eq_false_iff_not, Bool.not_eq_true', Bool.not_eq_false', Bool.and_eq_true, Bool.or_eq_true, Bool.or_eq_false_iff, Bool.not_not, Bool.and_eq_false_iff] at hc20
    refine C_exit ?_
    refine nx_exit ?_
    refine nx_exit ?_
    refine bk_hit ?_
    refine C_seq ?_
    refine C_seq ?_
    refine C_region ?_
    have hjn : j = n := by omega
    have hX : fwE ((q.map En.e).take j) = fwX (q.map En.e) := by rw [hjn, hnn]
    have hXn := fwX_le (l := (q.map En.e))
    rw [List.length_map] at hXn
    obtain ⟨en, hen⟩ : ∃ z, z = fwX (q.map En.e) := ⟨_, rfl⟩
    have hT5 := hT15
    rw [hX, ← hen] at hT5
    rw [← hen] at hXn
    refine O_p (.i .i64 (((en : Nat)) : Int)) (r_mv hT5) ?_
    refine O_p (.b (decide ((((en : Nat)) : Int) = 0))) (r_eql rfl rfl) ?_
    refine O_nil ?_
    refine C_cond (x := (decide ((((en : Nat)) : Int) = 0))) rfl (fun hc35 => ?_) (fun hc35 => ?_)
    ·
      try simp only [decide_eq_true_eq, decide_eq_false_iff_not, Bool.not_eq_true', Bool.not_eq_false', Bool.and_eq_true, Bool.or_eq_true, Bool.or_eq_false_iff, Bool.not_not, Bool.and_eq_false_iff] at hc35
      refine C_seq ?_
      refine C_region ?_
      refine O_p (.p (some (F, 0))) (r_mv hT14) ?_
      have hH36 := (((hH19.top2).top2).top2)
      have hH37 := (((hH36.top2).top2).top2)
      refine O_call (Ev.mono (floor_raw hlv hH37) fun v38 H39 hq40 => ?_)
      obtain ⟨rfl, hH41⟩ := hq40
      refine O_p (.i .u32 (floorA nx q.length)) (r_mv rfl) ?_
      refine O_p (.sl none 0 0 0) (r_mv rfl) ?_
      refine O_p (.b false) (r_mv rfl) ?_
      refine O_nil ?_
      refine C_ret ?_
      refine nx_ret ?_
      have hH42 := (((hH41.top2).top2).top2)
      have hM : fwM (q.map En.e) nx = floorA nx q.length := by unfold fwM; rw [if_pos (by omega), List.length_map]
      exact ⟨.inr rfl, _, resL_cons (r_tmp (v := (.i .u32 (floorA nx q.length))) rfl) (resL_cons (r_tmp (v := (.sl none 0 0 0)) rfl) (resL_one (r_tmp (v := (.b false)) rfl))), .sl none 0 0 0, [], by rw [hM, show decide (0 < fwX (q.map En.e)) = false from decide_eq_false (by omega)]; rfl, by rw [show fwX (q.map En.e) = 0 by omega, List.take_zero]; exact Sq.nil, hH42.addnil⟩
    ·
      try simp only [decide_eq_true_eq, decide_eq_false_iff_not, Bool.not_eq_true', Bool.not_eq_false', Bool.and_eq_true, Bool.or_eq_true, Bool.or_eq_false_iff, Bool.not_not, Bool.and_eq_false_iff] at hc35
      refine C_skip ?_
      refine C_seq ?_
      refine C_region ?_
      refine O_p (.sl none 0 0 0) (r_mv rfl) ?_
      refine O_nil ?_
      refine C_seq ?_
      refine C_seq ?_
      refine C_region ?_
      refine O_p (.p (some (F, 0))) (r_mv hT14) ?_
      refine O_p (.p (some (F, 0))) (r_nilc rfl) ?_
      refine O_p (.p (some (F, 0))) (r_fadd' rfl rfl) ?_
      refine O_p lv (r_ld rfl hH19.get0 rfl) ?_
      refine O_p (.i .i64 (((en : Nat)) : Int)) (r_mv hT5) ?_
      refine O_q (by exact Rw.hi (hlv.rd hH19.top1 (pr_lens q) (by decide)) rfl (i := en) rfl (by rw [List.length_map]; exact hXn)) fun v44 hv43 => ?_
      have hw38 : ∀ H' R', Hs H' (qseg lv lc ++ R') → Rw 1 H' v44 ((q.map En.pr).take en) := fun H' R' hh => hv43 H' (hlv.rd hh (pr_lens q) (by decide))
      refine O_p (.i .i64 (((en : Nat)) : Int)) (by exact (r_lenOf (v := v44) (n := en) rfl ((hw38 _ _ hH19.top1).lenOf (by rw [List.length_take, List.length_map]; exact Nat.min_eq_left hXn)) (hw38 _ _ hH19.top1).isSl)) ?_
      refine O_p (.i .i64 0) (r_mv rfl) ?_
      refine O_nil ?_
      refine C_block ?_
      have hH45 := (((hH19.top2).top2).top2)
      have hH46 := hH45.addnil
      refine C_while (fun m47 T48 H49 => ∃ ov : AV, ∃ oc : List AV, ∃ os : List (Int × Int), ∃ k : Nat, m47 = en - k ∧ k ≤ en ∧ Sq 2 ov oc (os.map skR).flatten ∧ os = fwO ((q.map En.e).take k) ∧ Hs H49 ((qseg ov oc) ++ ([(F, some (.cells ([lv, (.i .u32 nx)]) true))] ++ ((qseg lv lc) ++ ((q.flatMap En.seg) ++ (R))))) ∧ T48.get 0 = (.p (some (F, 0))) ∧ T48.get 5 = (.i .i64 (((en : Nat)) : Int)) ∧ T48.get 8 = ov ∧ T48.get 38 = v44 ∧ T48.get 39 = (.i .i64 (((en : Nat)) : Int)) ∧ T48.get 40 = (.i .i64 (((k : Nat)) : Int))) (fun m47 T48 H49 hI50 => ?_) en _ _ ⟨(.sl none 0 0 0), [], [], 0, rfl, Nat.zero_le _, Sq.nil, by rw [List.take_zero]; rfl, hH46, hT14, hT5, rfl, rfl, rfl, rfl⟩
      obtain ⟨ov, oc, os, k, hm51, hp52, hp53, hp54, hH61, hT55, hT56, hT57, hT58, hT59, hT60⟩ := hI50
      refine C_seq ?_
      refine C_region ?_
      refine O_p (.b (decide ((((k : Nat)) : Int) < (((en : Nat)) : Int)))) (r_lss hT60 hT59) ?_
      refine O_nil ?_
      refine C_seq ?_
      refine C_cond (x := (decide ((((k : Nat)) : Int) < (((en : Nat)) : Int)))) rfl (fun hc62 => ?_) (fun hc62 => ?_)
      ·
        try simp only [decide_eq_true_eq, decide_eq_false_iff_not, Bool.not_eq_true', Bool.not_eq_false', Bool.and_eq_true, Bool.or_eq_true, Bool.or_eq_false_iff, Bool.not_not, Bool.and_eq_false_iff] at hc62
        refine C_skip ?_
        refine C_seq ?_
        refine C_block ?_
        refine C_seq ?_
        refine C_region ?_
        have hol : os.length ≤ k := by rw [hp54]; exact fwO_len
        have hjl : k < q.length := by omega
        obtain ⟨x, hxj⟩ : ∃ e, q[k]? = some e := ⟨_, List.getElem?_eq_getElem hjl⟩
        have hH63 := (hH61.top3)
        have hH64 := En.out hxj hH63
        have hxe := en_e hxj
        refine O_q (by exact Rw.row (hw38 _ _ hH64.top4) (by exact hT58) (i := k) (by exact hT60) (r := [(.p (some (x.n, 0)))]) ((List.getElem?_take_of_lt (by omega)).trans (pr_get hxj))) fun v66 hv65 => ?_
        obtain ⟨rb67, ro68, rfl, hr69⟩ := hv65
        refine O_p (.p (some (x.n, 0))) (r_ldR (q := 0) rfl (hr69 _ (hw38 _ _ hH64.top4)) rfl) ?_
        refine O_p (.p (some (x.n, 0))) (r_mv rfl) ?_
        refine O_nil ?_
        refine C_seq ?_
        refine C_seq ?_
        refine C_region ?_
        refine O_p (.p (some (x.n, 0))) (r_mv rfl) ?_
        refine O_p (.p (some (x.n, 0))) (r_nilc rfl) ?_
        refine O_p (.p (some (x.n, 13))) (r_fadd' rfl rfl) ?_
        refine O_p (.i .i64 x.e.st) (r_ld rfl hH64.get0 rfl) ?_
        refine O_p (.b (decide (x.e.st = 3))) (r_eql rfl rfl) ?_
        refine O_p (.b (decide (x.e.st = 3))) (r_mv rfl) ?_
        refine O_gx (e := (!(decide (x.e.st = 3)))) (v := (.p (some (x.n, 0)))) (wf rfl) (fun he => (r_mv rfl)) ?_
        refine O_gx (e := (!(decide (x.e.st = 3)))) (v := (.p (some (x.n, 0)))) (wf rfl) (fun he => (r_nilc (cond_pos he))) ?_
        refine O_gx (e := (!(decide (x.e.st = 3)))) (v := (.p (some (x.n, 0)))) (wf rfl) (fun he => (r_fadd' (cond_pos he) rfl)) ?_
        refine O_gx (e := (!(decide (x.e.st = 3)))) (v := (.p (some (x.n, 1)))) (wf rfl) (fun he => (r_fadd' (cond_pos he) rfl)) ?_
        refine O_gx (e := (!(decide (x.e.st = 3)))) (v := (.i .u8 x.e.c.f)) (wf rfl) (fun he => (r_ld (cond_pos he) hH64.get0 rfl)) ?_
        refine O_gx (e := (!(decide (x.e.st = 3)))) (v := (.i .u8 (IntKind.u8.wrap ((BitVec.ofInt 8 x.e.c.f &&& BitVec.ofInt 8 4).toNat : Int)))) (wf rfl) (fun he => (r_bin (cond_pos he) rfl rfl)) ?_
        refine O_gx (e := (!(decide (x.e.st = 3)))) (v := (.b (!decide ((IntKind.u8.wrap ((BitVec.ofInt 8 x.e.c.f &&& BitVec.ofInt 8 4).toNat : Int)) = 0)))) (wf rfl) (fun he => (r_neq (cond_pos he) rfl)) ?_
        refine O_p (.b ((decide (x.e.st = 3)) || (!decide ((IntKind.u8.wrap ((BitVec.ofInt 8 x.e.c.f &&& BitVec.ofInt 8 4).toNat : Int)) = 0)))) (r_pick_or rfl rfl rfl rfl) ?_
        refine O_nil ?_
        refine C_cond (x := ((decide (x.e.st = 3)) || (!decide ((IntKind.u8.wrap ((BitVec.ofInt 8 x.e.c.f &&& BitVec.ofInt 8 4).toNat : Int)) = 0)))) rfl (fun hc70 => ?_) (fun hc70 => ?_)
        ·
          have hskp : x.e.st = 3 ∨ frB x.e.c.f = true := by rcases Bool.or_eq_true_iff.1 hc70 with h9 | h9; exact .inl (of_decide_eq_true h9); exact .inr h9
          refine C_exit ?_
          refine nx_exit ?_
          refine bk_hit ?_
          refine C_region ?_
          refine O_p (.i .i64 ((((k : Nat)) : Int) + 1)) (by exact (r_addi hT60 rfl (wrap_i64 (by omega) (by omega)))) ?_
          refine O_p (.i .i64 ((((k : Nat)) : Int) + 1)) (r_mv rfl) ?_
          refine O_nil ?_
          have hH71 := ((hH64.top1).top1)
          have hH72 := En.back0 hxj hH71
          have hH73 := (((hH72.top3).top3).top3)
          exact ⟨en - (k + 1), by omega, ov, oc, os, (k + 1), rfl, by omega, hp53, by rw [fwO_at hxe]; rw [← hp54]; unfold fwS; rw [if_pos hskp], hH73, hT55, hT56, hT57, hT58, hT59, rfl⟩
        ·
          have hskp : ¬ (x.e.st = 3 ∨ frB x.e.c.f = true) := by rintro (h9 | h9); have h8 := (Bool.or_eq_false_iff.1 hc70).1; exact absurd h9 (of_decide_eq_false h8); have h8 := (Bool.or_eq_false_iff.1 hc70).2; unfold frB at h9; rw [h8] at h9; cases h9
          refine C_skip ?_
          refine C_seq ?_
          by_cases hfx : (os.findIdx (skP x.e.c.o)) < os.length
          ·
            refine C_draw fun b74 H75 hbase76 hA77 => ?_
            have hH78 : Hs H75 (asideL b74 [11] ++ _) := hH64.aside hA77 [11] hbase76 rfl (by decide)
            have hH79 : Hs H75 ([(b74 + 11, none)] ++ _) := hH78
            refine D_l (v := (.p (some (x.n, 0)))) rfl rfl rfl (r_mv rfl) ?_
            refine D_l (v := (.p (some (x.n, 0)))) rfl rfl rfl (r_nilc rfl) ?_
            refine D_l (v := (.p (some (x.n, 0)))) rfl rfl rfl (r_fadd' rfl rfl) ?_
            refine D_l (v := (.p (some (x.n, 4)))) rfl rfl rfl (r_fadd' rfl rfl) ?_
            refine D_l (v := (.p (some (x.n, 0)))) rfl rfl rfl (r_mv rfl) ?_
            refine D_l (v := (.p (some (x.n, 0)))) rfl rfl rfl (r_nilc rfl) ?_
            refine D_l (v := (.p (some (x.n, 0)))) rfl rfl rfl (r_fadd' rfl rfl) ?_
            refine D_l (v := (.p (some (x.n, 5)))) rfl rfl rfl (r_fadd' rfl rfl) ?_
            refine D_r (v := (.i .u16 x.e.c.o)) rfl rfl rfl (r_ld rfl hH79.get1 rfl) ?_
            refine D_r (v := (.i .u16 x.e.c.i)) rfl rfl rfl (r_ld rfl hH79.get1 rfl) ?_
            refine D_l (v := (.agg [(.i .u16 x.e.c.o), (.i .u16 x.e.c.i)])) rfl rfl rfl (r_build rfl) ?_
            refine D_m (f := fun n => ((.p (some (n, 0))), .cells [(.i .u16 0), (.i .u16 0)] true)) rfl rfl fun H81 hW82 => ?_
            have hH84 := hH79.wr0 hW82
            generalize hn83 : b74 + 11 = n80 at hW82 hH84 ⊢
            refine And.intro (And.intro (Or.inr (look_run rfl rfl (r_ld rfl hH84.get1 rfl))) (And.intro (Or.inr (look_run rfl rfl (r_ld rfl hH84.get1 rfl))) True.intro)) ?_
            refine D_store (vs := [(.i .u16 x.e.c.o), (.i .u16 x.e.c.i)]) (c' := [(.i .u16 x.e.c.o), (.i .u16 x.e.c.i)]) rfl (by rfl) hH84.get0 rfl (List.cons_ne_nil _ _) (Nat.le_of_ble_eq_true rfl) rfl fun H85 hW86 => ?_
            have hH87 := hH84.wr0 hW86
            refine And.intro (And.intro (Or.inl rfl) (And.intro (Or.inl rfl) True.intro)) ?_
            refine D_nil ?_
            refine C_seq ?_
            refine C_seq ?_
            refine C_region ?_
            refine O_p ov (r_mv hT57) ?_
            refine O_p (.fn (.func 46) [] [(.p (some (n80, 0)))]) rfl ?_
            have hH88 := ((hH87.top3).top1)
            have hH89 := ((hH88.top1).top1)
            refine O_call (Ev.mono (ixs_ev hp53 (by omega) hH89) fun v90 H91 hq92 => ?_)
            obtain ⟨hor, hH93⟩ := hq92
            rcases hor with ⟨h1, rfl⟩ | ⟨h1, rfl⟩
            · omega
            refine O_p (.i .i64 ((((os.findIdx (skP x.e.c.o)) : Nat)) : Int)) (r_mv rfl) ?_
            refine O_nil ?_
            refine C_seq ?_
            refine C_region ?_
            refine O_p (.i .i64 ((((os.findIdx (skP x.e.c.o)) : Nat)) : Int)) (r_mv rfl) ?_
            refine O_p (.b true) (by exact (by rw [r_geq rfl rfl, decide_eq_true (by omega)])) ?_
            refine O_nil ?_
            refine C_cond (x := true) rfl (fun _ => ?_) (fun h => by cases h)
            refine C_seq ?_
            refine C_region ?_
            refine O_p ov (r_mv hT57) ?_
            refine O_p (.i .i64 ((((os.findIdx (skP x.e.c.o)) : Nat)) : Int)) (r_mv rfl) ?_
            refine O_p (.agg [(.i .u16 x.e.c.o), (.i .u16 x.e.c.i)]) (r_ldA rfl hH93.get0 rfl) ?_
            obtain ⟨o, hoi⟩ : ∃ o, os[(os.findIdx (skP x.e.c.o))]? = some o := ⟨_, List.getElem?_eq_getElem hfx⟩
            refine O_q (by exact Sq.cell hp53 (sk_lens os) hH93.top1 rfl (i := (os.findIdx (skP x.e.c.o))) rfl (r := [(.i .u16 o.1), (.i .u16 o.2)]) (sk_get hoi) (by decide)) fun v95 hv94 => ?_
            obtain ⟨rb96, ro97, rfl, hrg98, hrt99, hrb100, hput101, hqs102⟩ := hv94
            refine O_store (vs := [(.i .u16 x.e.c.o), (.i .u16 x.e.c.i)]) (c' := (putAt oc (ro97 + 0) [(.i .u16 x.e.c.o), (.i .u16 x.e.c.i)])) rfl (by rfl) hrg98 rfl (List.cons_ne_nil _ _) (by have := hrb100; show _ + 2 ≤ _; omega) rfl fun H103 hW104 => ?_
            have hH106 := Hs.cong1 (Hs.wr1 (Hs.cong1 hH93 (hqs102 _)) hW104) (hqs102 _).symm
            have hSq105 := hput101 0 [(.i .u16 x.e.c.o), (.i .u16 x.e.c.i)] [(.i .u16 x.e.c.o), (.i .u16 x.e.c.i)] (Nat.le_of_ble_eq_true rfl) rfl
            refine O_nil ?_
            refine C_exit ?_
            refine nx_exit ?_
            refine bk_hit ?_
            refine C_region ?_
            refine O_p (.i .i64 ((((k : Nat)) : Int) + 1)) (by exact (r_addi hT60 rfl (wrap_i64 (by omega) (by omega)))) ?_
            refine O_p (.i .i64 ((((k : Nat)) : Int) + 1)) (r_mv rfl) ?_
            refine O_nil ?_
            have hH107 := ((hH106.top3).top3)
            have hH108 := En.back0 hxj hH107
            have hH109 := (hH108.sub1)
            have hH110 := (((hH109.top3).top3).top3)
            exact ⟨en - (k + 1), by omega, ov, (putAt oc (ro97 + 0) [(.i .u16 x.e.c.o), (.i .u16 x.e.c.i)]), (os.set (os.findIdx (skP x.e.c.o)) (x.e.c.o, x.e.c.i)), (k + 1), rfl, by omega, by have h9 := hSq105; rw [List.map_set]; exact h9, by rw [fwO_at hxe]; rw [← hp54]; unfold fwS; rw [if_neg hskp, if_pos hfx], hH110, hT55, hT56, hT57, hT58, hT59, rfl⟩
          ·
            refine C_draw fun b111 H112 hbase113 hA114 => ?_
            have hH115 : Hs H112 (asideL b111 [11] ++ _) := hH64.aside hA114 [11] hbase113 rfl (by decide)
            have hH116 : Hs H112 ([(b111 + 11, none)] ++ _) := hH115
            refine D_l (v := (.p (some (x.n, 0)))) rfl rfl rfl (r_mv rfl) ?_
            refine D_l (v := (.p (some (x.n, 0)))) rfl rfl rfl (r_nilc rfl) ?_
            refine D_l (v := (.p (some (x.n, 0)))) rfl rfl rfl (r_fadd' rfl rfl) ?_
            refine D_l (v := (.p (some (x.n, 4)))) rfl rfl rfl (r_fadd' rfl rfl) ?_
            refine D_l (v := (.p (some (x.n, 0)))) rfl rfl rfl (r_mv rfl) ?_
            refine D_l (v := (.p (some (x.n, 0)))) rfl rfl rfl (r_nilc rfl) ?_
            refine D_l (v := (.p (some (x.n, 0)))) rfl rfl rfl (r_fadd' rfl rfl) ?_
            refine D_l (v := (.p (some (x.n, 5)))) rfl rfl rfl (r_fadd' rfl rfl) ?_
            refine D_r (v := (.i .u16 x.e.c.o)) rfl rfl rfl (r_ld rfl hH116.get1 rfl) ?_
            refine D_r (v := (.i .u16 x.e.c.i)) rfl rfl rfl (r_ld rfl hH116.get1 rfl) ?_
            refine D_l (v := (.agg [(.i .u16 x.e.c.o), (.i .u16 x.e.c.i)])) rfl rfl rfl (r_build rfl) ?_
            refine D_m (f := fun n => ((.p (some (n, 0))), .cells [(.i .u16 0), (.i .u16 0)] true)) rfl rfl fun H118 hW119 => ?_
            have hH121 := hH116.wr0 hW119
            generalize hn120 : b111 + 11 = n117 at hW119 hH121 ⊢
            refine And.intro (And.intro (Or.inr (look_run rfl rfl (r_ld rfl hH121.get1 rfl))) (And.intro (Or.inr (look_run rfl rfl (r_ld rfl hH121.get1 rfl))) True.intro)) ?_
            refine D_store (vs := [(.i .u16 x.e.c.o), (.i .u16 x.e.c.i)]) (c' := [(.i .u16 x.e.c.o), (.i .u16 x.e.c.i)]) rfl (by rfl) hH121.get0 rfl (List.cons_ne_nil _ _) (Nat.le_of_ble_eq_true rfl) rfl fun H122 hW123 => ?_
            have hH124 := hH121.wr0 hW123
            refine And.intro (And.intro (Or.inl rfl) (And.intro (Or.inl rfl) True.intro)) ?_
            refine D_nil ?_
            refine C_seq ?_
            refine C_seq ?_
            refine C_region ?_
            refine O_p ov (r_mv hT57) ?_
            refine O_p (.fn (.func 46) [] [(.p (some (n117, 0)))]) rfl ?_
            have hH125 := ((hH124.top3).top1)
            have hH126 := ((hH125.top1).top1)
            refine O_call (Ev.mono (ixs_ev hp53 (by omega) hH126) fun v127 H128 hq129 => ?_)
            obtain ⟨hor, hH130⟩ := hq129
            rcases hor with ⟨h1, rfl⟩ | ⟨h1, rfl⟩
            rotate_left
            · omega
            refine O_p (.i .i64 (-1)) (r_mv rfl) ?_
            refine O_nil ?_
            refine C_seq ?_
            refine C_region ?_
            refine O_p (.i .i64 (-1)) (r_mv rfl) ?_
            refine O_p (.b false) (by exact (by rw [r_geq rfl rfl, decide_eq_false (by omega)])) ?_
            refine O_nil ?_
            refine C_cond (x := false) rfl (fun h => by cases h) (fun _ => ?_)
            refine C_skip ?_
            refine C_region ?_
            refine O_p ov (r_mv hT57) ?_
            refine O_p (.agg [(.i .u16 x.e.c.o), (.i .u16 x.e.c.i)]) (r_ldA rfl hH130.get0 rfl) ?_
            refine O_bslice (c := [(.i .u16 x.e.c.o), (.i .u16 x.e.c.i)]) rfl fun n131 H132 hN133 => ?_
            have hH134 := hH130.new hN133
            refine O_qh (by exact r_appq (n := os.length) (k := 1) (new := [(.i .u16 x.e.c.o), (.i .u16 x.e.c.i)]) hH134.top2 hp53 rfl rfl rfl (src_blk hH134.get0 (by rfl)) rfl (by decide) (by decide) ((flat_len (sk_lens os)).trans (by rw [List.length_map])) (by first | omega | (simp only [List.length_take, List.length_drop, List.length_append, List.length_cons, List.length_nil, beN_len] <;> omega))) fun o135 H136 hA138 => ?_
            obtain ⟨c137, hA138, hH139⟩ := hA138
            refine O_p o135 (r_mv rfl) ?_
            refine O_nil ?_
            refine C_region ?_
            refine O_p (.i .i64 ((((k : Nat)) : Int) + 1)) (by exact (r_addi hT60 rfl (wrap_i64 (by omega) (by omega)))) ?_
            refine O_p (.i .i64 ((((k : Nat)) : Int) + 1)) (r_mv rfl) ?_
            refine O_nil ?_
            have hH140 := ((hH139.top4).top4)
            have hH141 := En.back0 hxj hH140
            have hH142 := ((hH141.sub2).sub2)
            have hH143 := (((hH142.top3).top3).top3)
            exact ⟨en - (k + 1), by omega, o135, c137, (os ++ [(x.e.c.o, x.e.c.i)]), (k + 1), rfl, by omega, by rw [sk_app]; exact hA138, by rw [fwO_at hxe]; rw [← hp54]; unfold fwS; rw [if_neg hskp, if_neg hfx], hH143, hT55, hT56, rfl, hT58, hT59, rfl⟩
      ·
        try simp only [decide_eq_true_eq, decide_eq_false_iff_not, Bool.not_eq_true', Bool.not_eq_false', Bool.and_eq_true, Bool.or_eq_true, Bool.or_eq_false_iff, Bool.not_not, Bool.and_eq_false_iff] at hc62
        refine C_exit ?_
        refine nx_exit ?_
        refine nx_exit ?_
        refine bk_hit ?_
        refine C_seq ?_
        refine C_region ?_
        have hen1 : en - 1 < q.length := by omega
        refine O_p (.p (some (F, 0))) (r_mv hT55) ?_
        refine O_p (.p (some (F, 0))) (r_nilc rfl) ?_
        refine O_p (.p (some (F, 0))) (r_fadd' rfl rfl) ?_
        refine O_p lv (r_ld rfl hH61.get1 rfl) ?_
        refine O_p (.i .i64 (((en : Nat)) : Int)) (r_mv hT56) ?_
        refine O_p (.i .i64 ((((en - 1) : Nat)) : Int)) (by exact (r_subn (a := en) (b := 1) rfl rfl (by omega) (by omega))) ?_
        obtain ⟨x, hxj⟩ : ∃ e, q[en - 1]? = some e := ⟨_, List.getElem?_eq_getElem hen1⟩
        refine O_q (by exact Rw.row (hlv.rd hH61.top2 (pr_lens q) (by decide)) rfl (i := (en - 1)) rfl (r := [(.p (some (x.n, 0)))]) (pr_get hxj)) fun v145 hv144 => ?_
        obtain ⟨rb146, ro147, rfl, hr148⟩ := hv144
        refine O_p (.p (some (x.n, 0))) (by exact (r_ldR (q := 0) rfl (hr148 _ (hlv.rd hH61.top2 (pr_lens q) (by decide))) rfl)) ?_
        have hH149 := (hH61.top3)
        have hH150 := En.out hxj hH149
        refine O_p (.p (some (x.n, 0))) (r_nilc rfl) ?_
        refine O_p (.p (some (x.n, 0))) (r_fadd' rfl rfl) ?_
        refine O_p (.p (some (x.n, 2))) (r_fadd' rfl rfl) ?_
        refine O_p (.i .u32 x.e.a) (r_ld rfl hH150.get0 rfl) ?_
        refine O_p ov (r_mv hT57) ?_
        refine O_p (.i .u32 x.e.a) (r_mv rfl) ?_
        refine O_p ov (r_mv rfl) ?_
        refine O_p (.b true) (r_mv rfl) ?_
        refine O_nil ?_
        refine C_ret ?_
        have hH151 := ((hH150.top1).top1)
        have hH152 := En.back0 hxj hH151
        have hH153 := (((hH152.top3).top3).top3)
        have hken : k = en := by omega
        have hM : fwM (q.map En.e) nx = x.e.a := by unfold fwM; rw [if_neg (by omega), ← hen, en_e hxj]
        exact ⟨.inr rfl, _, resL_cons (r_tmp (v := (.i .u32 x.e.a)) rfl) (resL_cons (r_tmp (v := ov) rfl) (resL_one (r_tmp (v := (.b true)) rfl))), ov, oc, by rw [hM, show decide (0 < fwX (q.map En.e)) = true from decide_eq_true (by omega)]; rfl, by rw [← hen, ← hken, ← hp54]; exact hp53, hH153⟩


set_option linter.unusedVariables false
set_option linter.unusedSimpArgs false
def bdC (c : Cx × Int) : Bool := !(decide (c.1.k = 0) && decide (0 < c.1.d.length))
theorem bdC_no {c : Cx × Int} (h : bdC c = false) : c.1.k = 0 ∧ 0 < c.1.d.length := by
  unfold bdC at h
  rw [Bool.not_eq_false', Bool.and_eq_true] at h
  exact ⟨of_decide_eq_true h.1, of_decide_eq_true h.2⟩
set_option linter.unusedVariables false
set_option linter.unusedSimpArgs false
theorem Hs.t3 {H : AH} {A B C P Z : HL} (h : Hs H (A ++ (B ++ (C ++ (P ++ Z))))) : Hs H (A ++ (B ++ (C ++ (Z ++ P)))) :=
  Hs.perm h (List.Perm.append_left A (List.Perm.append_left B (List.Perm.append_left C List.perm_append_comm)))
theorem Hs.t4 {H : AH} {A B C E P Z : HL} (h : Hs H (A ++ (B ++ (C ++ (E ++ (P ++ Z)))))) : Hs H (A ++ (B ++ (C ++ (E ++ (Z ++ P))))) :=
  Hs.perm h (List.Perm.append_left A (List.Perm.append_left B (List.Perm.append_left C (List.Perm.append_left E List.perm_append_comm))))
/-- A queue in the heap, and what its messages are given up by. -/
def Qp (F : Nat) (es : List Ea) (ms : List Nat) (pl : List Po) (nx : Int) (D L : HL) : Prop := ∃ (lv : AV) (lc : List AV) (q : List En), q.map En.e = es ∧ q.map En.m = ms ∧ Sq 1 lv lc (q.map En.pr).flatten ∧ (∀ x ∈ q, OctIn D x.dv x.e.c.d) ∧ (∀ m ∈ ms, ∃ p ∈ pl, p.m = m) ∧ L = [(F, some (.cells [lv, .i .u32 nx] true))] ++ (qseg lv lc ++ (q.flatMap En.seg ++ pl.flatMap Po.seg))
section
variable {H : AH} {F : Nat} {es : List Ea} {ms : List Nat} {pl : List Po} {nx : Int} {D L R B : HL}
theorem Qp.len (h : Qp F es ms pl nx D L) : ms.length = es.length := by
  obtain ⟨lv, lc, q, rfl, rfl, _⟩ := h
  rw [List.length_map, List.length_map]
theorem Qp.mem (h : Qp F es ms pl nx D L) : ∀ m ∈ ms, ∃ p ∈ pl, p.m = m := by
  obtain ⟨lv, lc, q, _, _, _, _, h5, _⟩ := h
  exact h5
theorem Qp.qr (h : Qp F es ms pl nx D L) : ∃ L1, Qr F es nx D L1 ∧ ∀ H R, Hs H (L ++ R) ↔ Hs H (L1 ++ (pl.flatMap Po.seg ++ R)) := by
  obtain ⟨lv, lc, q, h1, _, h3, h4, _, rfl⟩ := h
  refine ⟨_, ⟨lv, lc, q, h1, h3, h4, rfl⟩, fun H R => ?_⟩
  rw [List.append_assoc, List.append_assoc, List.append_assoc, List.append_assoc, List.append_assoc]
theorem qp_new0 (a : Int) : Qp F [] [] [] a [] ([(F, some (.cells [.sl none 0 0 0, .i .u32 a] true))] ++ []) := ⟨.sl none 0 0 0, [], [], rfl, rfl, Sq.nil, fun x hx => (by cases hx), fun x hx => (by cases hx), rfl⟩
theorem qp_forward (h : Qp F es ms pl nx D L) (hl : es.length ≤ 100000) (hH : Hs H (L ++ R)) : Ev tabA spA (.fn (.func 27) [] []) [.p (some (F, 0))] H (fun r H' => ∃ ov oc, r = .tup [.i .u32 (fwM es nx), ov, .b (decide (0 < fwX es))] ∧ Sq 2 ov oc ((fwO (es.take (fwX es))).map skR).flatten ∧ Hs H' (qseg ov oc ++ (L ++ R))) := by
  obtain ⟨lv, lc, q, rfl, rfl, h3, h4, h5, rfl⟩ := h
  rw [List.append_assoc, List.append_assoc, List.append_assoc] at *
  rw [List.length_map] at *
  exact forward_raw h3 hl hH
theorem qp_take {now room : Int} (h : Qp F es ms pl nx D L) (hl : es.length ≤ 100000) (hsz : ∀ e ∈ es, e.c.d.length ≤ 1000000) (hse : ∀ e ∈ es, 0 ≤ e.sent ∧ e.sent ≤ 1000000) (hrm : room ≤ 9223372036854775807) (hH : Hs H (L ++ (D ++ R))) :
    Ev tabA spA (.fn (.func 14) [] []) [.p (some (F, 0)), .i .i64 now, .i .i64 room] H (fun r H' => ∃ L' D' ov oc rows, r = ov ∧ Qp F (take2 now es room).1 ms pl nx D' L' ∧ Sq 12 ov oc rows.flatten ∧ CxsR D' rows ((take2 now es room).2.map Ea.ca) ∧ (∀ H', Hs H' D' → Hs H' D) ∧ Hs H' (qseg ov oc ++ (L' ++ (D' ++ R)))) := by
  obtain ⟨lv, lc, q, rfl, rfl, h3, h4, h5, rfl⟩ := h
  rw [List.append_assoc, List.append_assoc, List.append_assoc] at hH
  have hH2 := hH.t3
  rw [List.append_assoc] at hH2
  rw [List.length_map] at hl
  refine Ev.mono (take_raw h3 hl h4 hsz hse hrm hH2) fun r H2 hq => ?_
  obtain ⟨q2, ov, oc, rows, D2, rfl, hn, he, ho, hc, hok2, hm, hh⟩ := hq
  refine ⟨_, D2, r, oc, rows, rfl, ⟨lv, lc, q2, he, nm_m hn, by rw [pr_map hn]; exact h3, hok2, h5, rfl⟩, ho, hc, hm, ?_⟩
  rw [List.append_assoc, List.append_assoc, List.append_assoc]
  rw [← List.append_assoc D2 R] at hh
  exact hh.t4
theorem qp_push {v : AV} {rows : List (List AV)} {cs : List (Cx × Int)} {un tr : Int} (h : Qp F es ms pl nx D L) (hv : ∀ H', Hs H' B → Rw 12 H' v rows) (hcr : CxsR B rows cs) (hgood : ∀ c ∈ cs, bdC c = false) (hne : 0 < cs.length) (hfit : es.length + cs.length ≤ 1024) (hsz : ∀ c ∈ cs, c.1.d.length ≤ 1000000) (hnx : 0 ≤ nx ∧ nx < 4294967296) (hH : Hs H (L ++ (D ++ (B ++ R)))) :
    Ev tabA spA (.fn (.func 12) [] []) [.p (some (F, 0)), v, .i .i64 un, .i .i64 tr] H (fun r H' => ∃ L' D' m, r = .i .i64 0 ∧ Qp F (es ++ pushA cs nx) (ms ++ List.replicate cs.length m) (pl ++ [⟨m, un, tr, false⟩]) (w32 (nx + ((cs.length : Nat) : Int))) D' L' ∧ (∀ H', Hs H' D' → Hs H' D) ∧ Hs H' (L' ++ (D' ++ (B ++ R)))) := by
  obtain ⟨lv, lc, q, rfl, rfl, h3, h4, h5, rfl⟩ := h
  rw [List.append_assoc, List.append_assoc, List.append_assoc] at hH
  have hH2 := hH.t3
  rw [List.append_assoc, List.append_assoc] at hH2
  rw [List.length_map] at hfit
  refine Ev.mono (push_raw hv hcr (fun c hc => bdC_no (hgood c hc)) hne hfit hsz hnx h3 h4 hH2) fun r H2 hq => ?_
  obtain ⟨q2, lv2, lc2, m, D2, rfl, he, hm2, hl2, hok2, hm, hh⟩ := hq
  refine ⟨_, D2, m, rfl, ⟨lv2, lc2, q2, he, hm2, hl2, hok2, fun k hk => ?_, rfl⟩, hm, ?_⟩
  · rcases List.mem_append.1 hk with h9 | h9
    · obtain ⟨p, h7, h8⟩ := h5 k h9
      exact ⟨p, List.mem_append_left _ h7, h8⟩
    · exact ⟨_, List.mem_append_right _ (List.mem_singleton.2 rfl), (List.eq_of_mem_replicate h9).symm⟩
  · rw [List.append_assoc, List.append_assoc, List.append_assoc, List.flatMap_append, List.append_assoc]
    have h9 := hh.top3
    rw [← List.append_assoc B R, ← List.append_assoc D2] at h9
    have h8 : Hs H2 ([(F, some (.cells [lv2, .i .u32 (w32 (nx + ((cs.length : Nat) : Int)))] true))] ++ (qseg lv2 lc2 ++ (q2.flatMap En.seg ++ (([(m, some (.cells [.i .i64 un, .i .i64 tr, .b false] true))] ++ (D2 ++ (B ++ R))) ++ pl.flatMap Po.seg)))) := by
      rw [List.append_assoc, List.append_assoc, List.append_assoc]; exact hh
    exact h8.t3
end
/-! ### Giving up, by entries and messages -/
def exP (mp : List Nat) (now : Int) (s : List Po × Nat) (z : Ea × Nat) : List Po × Nat := exStep mp now s ⟨z.1, 0, z.2, .sl none 0 0 0⟩
def exE (pl : List Po) (z : Ea × Nat) : Ea := if z.1.st ∈ [0, 1, 2, 3] ∧ gvOf pl z.2 = true then z.1.setSt 4 else z.1
theorem en_zip : ∀ (q : List En), (q.map En.e).zip (q.map En.m) = q.map fun x => (x.e, x.m)
  | [] => rfl
  | x :: q => by rw [List.map_cons, List.map_cons, List.zip_cons_cons, en_zip q]; rfl
theorem exN_e {pl : List Po} {x : En} : (exN pl x).e = exE pl (x.e, x.m) := by
  unfold exN exE
  split
  · rfl
  · rfl
theorem qp_expire {H : AH} {F : Nat} {es : List Ea} {ms : List Nat} {pl : List Po} {nx now : Int} {D L R : HL} (h : Qp F es ms pl nx D L) (hl : es.length ≤ 100000) (hH : Hs H (L ++ R)) : Ev tabA spA (.fn (.func 26) [] []) [.p (some (F, 0)), .i .i64 now] H (fun r H' => ∃ (mp : List Nat) (pl2 : List Po) (n2 : Nat) (L' : HL), r = .i .i64 ((n2 : Nat) : Int) ∧ (∀ k, k ∈ mp ↔ ∃ z ∈ es.zip ms, z.1.st ∈ [0, 1, 2] ∧ z.2 = k) ∧ (es.zip ms).foldl (exP mp now) (pl, 0) = (pl2, n2) ∧ pl2.map Po.m = pl.map Po.m ∧ Qp F ((es.zip ms).map (exE pl2)) ms pl2 nx D L' ∧ Hs H' (L' ++ R)) := by
  obtain ⟨lv, lc, q, rfl, rfl, h3, h4, h5, rfl⟩ := h
  rw [List.append_assoc, List.append_assoc, List.append_assoc] at *
  rw [List.length_map] at *
  refine Ev.mono (expire_raw (now := now) h3 hl h4 (fun x hx => h5 _ (List.mem_map_of_mem hx)) hH) fun r H2 hq => ?_
  obtain ⟨mp, pl2, n2, q1, rfl, hmp, hf, hpm, rfl, hnm, hok, hh⟩ := hq
  refine ⟨mp, pl2, n2, _, rfl, fun k => (hmp k).trans ?_, ?_, hpm, ⟨lv, lc, _, ?_, nm_m hnm, by rw [pr_map hnm]; exact h3, hok, fun m hm => po_ms hpm (h5 m hm), rfl⟩, by rw [List.append_assoc, List.append_assoc, List.append_assoc]; exact hh⟩
  · rw [en_zip]
    constructor
    · rintro ⟨i, x, h1, h2, h3⟩
      exact ⟨(x.e, x.m), List.mem_map.2 ⟨x, List.mem_of_getElem? h1, rfl⟩, h2, h3⟩
    · rintro ⟨z, hz, h2, h3⟩
      obtain ⟨x, hx, rfl⟩ := List.mem_map.1 hz
      obtain ⟨i, hi⟩ := List.getElem?_of_mem hx
      exact ⟨i, x, hi, h2, h3⟩
  · rw [en_zip, List.foldl_map]; exact hf
  · rw [en_zip, List.map_map, List.map_map]
    exact List.map_congr_left fun x _ => exN_e



set_option linter.unusedVariables false
set_option linter.unusedSimpArgs false
/-! ### What is given: chunks, steps -/
structure Op where
  w : Int
  n : Int
  m : Int
  lv : AV
  cu : Int
  bv : AV
  cs : List (Cx × Int)
  bl : List (Int × Int)
theorem wf_u32 {a : Int} (h : (Lit.int .u32 a).wf = true) : 0 ≤ a ∧ a < 4294967296 := by simp [Lit.wf, IntKind.wrap, IntKind.signed, IntKind.bits, IntKind.min, IntKind.max] at h; omega
set_option maxRecDepth 100000
set_option linter.unusedVariables false
set_option linter.unusedSimpArgs false
/-! ### What holds of a queue at each step -/
def Ga (i : Nat) (e : Ea) : Prop := e.c.d.length ≤ 1200 ∧ (0 ≤ e.sent ∧ e.sent ≤ ((i : Nat) : Int)) ∧ (0 ≤ e.tm ∧ e.tm ≤ 1099511627775) ∧ 0 ≤ e.mi ∧ e.mi ≤ ((i : Nat) : Int)
theorem Ga.up {i : Nat} {e : Ea} (h : Ga i e) : Ga (i + 1) e := by
  obtain ⟨h1, h2, h3, h4, h5⟩ := h
  exact ⟨h1, ⟨h2.1, by omega⟩, h3, h4, by omega⟩
structure Fi (i : Nat) (es : List Ea) (nx : Int) : Prop where
  len : es.length ≤ 10 * i
  r : 0 ≤ nx ∧ nx < 4294967296
  a : ∀ (k : Nat) (e : Ea), es[k]? = some e → e.a = w32 (nx - ((es.length : Nat) : Int) + ((k : Nat) : Int))
  g : ∀ e ∈ es, Ga i e
theorem pushA_get : ∀ {cs : List (Cx × Int)} {a : Int} {k : Nat} {e : Ea}, (pushA cs a)[k]? = some e → ∃ c, cs[k]? = some c ∧ e = ⟨c.1, w32 (a + ((k : Nat) : Int)), 0, 0, 0, 0⟩
  | [], _, _, _, h => by cases h
  | c :: cs, a, 0, e, h => by
    have h1 : (⟨c.1, w32 a, 0, 0, 0, 0⟩ : Ea) = e := by simpa [pushA] using h
    exact ⟨c, rfl, by rw [← h1]; show (⟨c.1, w32 a, 0, 0, 0, 0⟩ : Ea) = ⟨c.1, w32 (a + 0), 0, 0, 0, 0⟩; rw [Int.add_zero]⟩
  | c :: cs, a, k + 1, e, h => by
    have h1 : (pushA cs (a + 1))[k]? = some e := h
    obtain ⟨d, h2, h3⟩ := pushA_get h1
    exact ⟨d, h2, by rw [h3, show a + 1 + ((k : Nat) : Int) = a + ((k + 1 : Nat) : Int) by omega]⟩
theorem floorA_eq2 {nx : Int} {n : Nat} : floorA nx n = w32 (nx - ((n : Nat) : Int) - 1) := by unfold floorA; rw [w32_subr, w32_subl]
theorem Fi.mono {i : Nat} {es : List Ea} {nx : Int} (h : Fi i es nx) : Fi (i + 1) es nx := ⟨by have := h.len; omega, h.r, h.a, fun e he => (h.g e he).up⟩
theorem w32_push {nx : Int} {n l k : Nat} : w32 (w32 (nx + ((l : Nat) : Int)) - ((n + l : Nat) : Int) + ((k : Nat) : Int)) = w32 (nx - ((n : Nat) : Int) + ((k : Nat) : Int)) := by
  rw [show w32 (nx + ((l : Nat) : Int)) - ((n + l : Nat) : Int) + ((k : Nat) : Int) = w32 (nx + ((l : Nat) : Int)) + (((k : Nat) : Int) - ((n + l : Nat) : Int)) by omega, w32_addl]
  congr 1; omega
theorem Fi.push {i : Nat} {es : List Ea} {nx : Int} {cs : List (Cx × Int)} (h : Fi i es nx) (hl : cs.length ≤ 10) (hc : ∀ c ∈ cs, c.1.d.length ≤ 1200) : Fi (i + 1) (es ++ pushA cs nx) (w32 (nx + ((cs.length : Nat) : Int))) ∧ floorA (w32 (nx + ((cs.length : Nat) : Int))) (es ++ pushA cs nx).length = floorA nx es.length := by
  refine ⟨⟨by rw [List.length_append, pushA_len]; have := h.len; omega, w32_r _, fun k e he => ?_, fun e he => ?_⟩, ?_⟩
  · rw [List.length_append, pushA_len, w32_push]
    by_cases hk : k < es.length
    · rw [List.getElem?_append_left hk] at he
      exact h.a k e he
    · rw [List.getElem?_append_right (by omega)] at he
      obtain ⟨c, _, rfl⟩ := pushA_get he
      show w32 _ = _
      congr 1; omega
  · rcases List.mem_append.1 he with h9 | h9
    · exact (h.g e h9).up
    · obtain ⟨k, hk⟩ := List.getElem?_of_mem h9
      obtain ⟨c, h8, rfl⟩ := pushA_get hk
      exact ⟨hc c (List.mem_of_getElem? h8), ⟨Int.le_refl _, by show (0 : Int) ≤ _; omega⟩, ⟨Int.le_refl _, by show (0 : Int) ≤ _; decide⟩, Int.le_refl _, by show (0 : Int) ≤ _; omega⟩
  · rw [floorA_eq2, floorA_eq2, List.length_append, pushA_len]
    rw [show w32 (nx + ((cs.length : Nat) : Int)) - ((es.length + cs.length : Nat) : Int) - 1 = w32 (nx + ((cs.length : Nat) : Int)) + (-((es.length + cs.length : Nat) : Int) - 1) by omega, w32_addl]
    congr 1; omega
/-- Lists alike, entry by entry. -/
def Pw (S : Ea → Ea → Prop) (l l' : List Ea) : Prop := l'.length = l.length ∧ ∀ (k : Nat) (e' : Ea), l'[k]? = some e' → ∃ e, l[k]? = some e ∧ S e e'
section
variable {S T : Ea → Ea → Prop} {l l' l2 : List Ea}
theorem Pw.nil : Pw S [] [] := ⟨rfl, fun k e h => by simp at h⟩
theorem Pw.cons {e e' : Ea} (h : S e e') (t : Pw S l l') : Pw S (e :: l) (e' :: l') := ⟨by rw [List.length_cons, List.length_cons, t.1], fun k x hx => by
  cases k with
  | zero =>
    simp only [List.getElem?_cons_zero, Option.some.injEq] at hx
    exact ⟨e, rfl, hx ▸ h⟩
  | succ k => exact t.2 k x (by simpa using hx)⟩
theorem Pw.refl (h : ∀ e, S e e) : Pw S l l := ⟨rfl, fun k e hk => ⟨e, hk, h e⟩⟩
theorem Pw.trans {U : Ea → Ea → Prop} (h1 : Pw S l l') (h2 : Pw T l' l2) (h : ∀ a b c, S a b → T b c → U a c) : Pw U l l2 := ⟨h2.1.trans h1.1, fun k e hk => by
  obtain ⟨b, hb, h3⟩ := h2.2 k e hk
  obtain ⟨a, ha, h4⟩ := h1.2 k b hb
  exact ⟨a, ha, h a b e h4 h3⟩⟩
theorem Pw.weak (h : Pw S l l') (hs : ∀ a b, S a b → T a b) : Pw T l l' := ⟨h.1, fun k e hk => by obtain ⟨a, h1, h2⟩ := h.2 k e hk; exact ⟨a, h1, hs _ _ h2⟩⟩
theorem Pw.map (f : Ea → Ea) (h : ∀ e, S e (f e)) : Pw S l (l.map f) := ⟨List.length_map .., fun k e hk => by
  rw [List.getElem?_map] at hk
  cases hx : l[k]? with
  | none => rw [hx] at hk; cases hk
  | some x =>
    rw [hx] at hk
    simp only [Option.map_some, Option.some.injEq] at hk
    exact ⟨x, rfl, hk ▸ h x⟩⟩
theorem Pw.append {m m' : List Ea} (h1 : Pw S l l') (h2 : Pw S m m') : Pw S (l ++ m) (l' ++ m') := ⟨by rw [List.length_append, List.length_append, h1.1, h2.1], fun k e hk => by
  by_cases h : k < l'.length
  · rw [List.getElem?_append_left h] at hk
    obtain ⟨a, h3, h4⟩ := h1.2 k e hk
    exact ⟨a, by rw [List.getElem?_append_left (by rw [← h1.1]; exact h)]; exact h3, h4⟩
  · rw [List.getElem?_append_right (by omega)] at hk
    obtain ⟨a, h3, h4⟩ := h2.2 _ e hk
    exact ⟨a, by rw [List.getElem?_append_right (by rw [← h1.1]; omega), ← h1.1]; exact h3, h4⟩⟩
end
theorem Fi.pw {S : Ea → Ea → Prop} {i : Nat} {es es2 : List Ea} {nx : Int} (h : Fi i es nx) (hp : Pw S es es2) (hs : ∀ e e', S e e' → e'.a = e.a ∧ (Ga i e → Ga (i + 1) e')) : Fi (i + 1) es2 nx := by
  refine ⟨by rw [hp.1]; have := h.len; omega, h.r, fun k e he => ?_, fun e he => ?_⟩
  · obtain ⟨x, h1, h2⟩ := hp.2 k e he
    rw [(hs _ _ h2).1, hp.1]
    exact h.a k x h1
  · obtain ⟨k, hk⟩ := List.getElem?_of_mem he
    obtain ⟨x, h1, h2⟩ := hp.2 k e hk
    exact (hs _ _ h2).2 (h.g x (List.mem_of_getElem? h1))
theorem Fi.drop {i : Nat} {es : List Ea} {nx : Int} (h : Fi i es nx) {n : Nat} (hn : n ≤ es.length) : Fi i (es.drop n) nx := by
  refine ⟨by rw [List.length_drop]; have := h.len; omega, h.r, fun k e he => ?_, fun e he => h.g e (List.mem_of_mem_drop he)⟩
  rw [List.getElem?_drop] at he
  rw [h.a _ e he, List.length_drop]
  congr 1; omega
abbrev flS (s now : Int) (e e' : Ea) : Prop := e' = e ∨ (e.st = s ∧ e' = e.fly now)
theorem takeL_pw {s now : Int} : ∀ {l : List Ea} {r : Int}, Pw (flS s now) l (takeL s now l r).1
  | [], r => Pw.nil
  | e :: l, r => by
    by_cases h : e.st = s
    · by_cases hr : r < (e.c.d.length : Int)
      · rw [takeL_full h hr]; exact Pw.refl fun _ => .inl rfl
      · rw [takeL_fit h hr]; exact Pw.cons (.inr ⟨h, rfl⟩) takeL_pw
    · rw [takeL_ne h]; exact Pw.cons (.inl rfl) takeL_pw
abbrev flT (now : Int) (e e' : Ea) : Prop := e' = e ∨ e' = e.fly now
theorem take2_pw {now room : Int} {es : List Ea} : Pw (flT now) es (take2 now es room).1 := by
  unfold take2
  split
  · exact takeL_pw.weak fun a b h => h.imp id (·.2)
  · refine takeL_pw.trans (T := flS 0 now) takeL_pw fun a b c h1 h2 => ?_
    rcases h1 with rfl | ⟨h1, rfl⟩
    · exact h2.imp id (·.2)
    · rcases h2 with rfl | ⟨h2, rfl⟩
      · exact .inr rfl
      · exact absurd h2 (by show ¬ (1 : Int) = 0; decide)
theorem Fi.take {i : Nat} {es : List Ea} {nx now room : Int} (h : Fi i es nx) (hn : 0 ≤ now ∧ now ≤ 1099511627775) : Fi (i + 1) (take2 now es room).1 nx := by
  refine h.pw take2_pw fun e e' hs => ?_
  rcases hs with rfl | rfl
  · exact ⟨rfl, Ga.up⟩
  · exact ⟨rfl, fun ⟨h1, h2, h3, h4, h5⟩ => ⟨h1, ⟨by show 0 ≤ e.sent + 1; omega, by show e.sent + 1 ≤ _; omega⟩, hn, by show (0 : Int) ≤ 0; decide, by show (0 : Int) ≤ _; omega⟩⟩
theorem Fi.sz {i : Nat} {es : List Ea} {nx : Int} (h : Fi i es nx) : ∀ e ∈ es, e.c.d.length ≤ 1000000 := fun e he => Nat.le_trans (h.g e he).1 (by decide)
set_option linter.unusedVariables false
set_option linter.unusedSimpArgs false
/-! ### A message that is given up, ahead of one that is not -/
theorem qp_push1 {H : AH} {F : Nat} {es : List Ea} {ms : List Nat} {pl : List Po} {nx : Int} {D L R : HL} {sn db n : Nat} {un tr : Int} (h : Qp F es ms pl nx D L) (hn : 1 ≤ n ∧ n ≤ 1000000) (hfit : es.length + 1 ≤ 1024) (hnx : 0 ≤ nx ∧ nx < 4294967296) (hH : Hs H (L ++ (D ++ (([(sn, some (.cells (cxRow (zc n) 0 (.sl (some (db, 0)) n n 0)) true))] ++ [(db, some (.cells (bcells (List.replicate n 0)) true))]) ++ R)))) :
    Ev tabA spA (.fn (.func 12) [] []) [.p (some (F, 0)), .sl (some (sn, 0)) 1 1 0, .i .i64 un, .i .i64 tr] H (fun r H' => ∃ L' D' m, r = .i .i64 0 ∧ Qp F (es ++ [⟨zc n, w32 nx, 0, 0, 0, 0⟩]) (ms ++ [m]) (pl ++ [⟨m, un, tr, false⟩]) (w32 (nx + 1)) D' L' ∧ Hs H' (L' ++ (D' ++ R))) := by
  have hrl : (List.replicate n (0 : UInt8)).length = n := List.length_replicate
  refine Ev.mono (qp_push (rows := [cxRow (zc n) 0 (.sl (some (db, 0)) n n 0)]) (cs := [(zc n, 0)]) h (fun H' hh => ?_) ⟨rfl, fun i x hx => ?_⟩ (fun c hc => ?_) Nat.one_pos hfit (fun c hc => ?_) hnx hH) fun r H2 hq => ?_
  · have hs : Sq 12 (.sl (some (sn, 0)) 1 1 0) (cxRow (zc n) 0 (.sl (some (db, 0)) n n 0)) [cxRow (zc n) 0 (.sl (some (db, 0)) n n 0)].flatten := Sq.full (.inl rfl) rfl
    exact hs.rd (R := [(db, some (.cells (bcells (List.replicate n 0)) true))]) hh (fun r hr => by rw [List.mem_singleton.1 hr]; rfl) (by decide)
  · have hi := (List.getElem?_eq_some_iff.1 hx).1
    have h0 : i = 0 := by simp only [List.length_cons, List.length_nil] at hi; omega
    subst h0
    simp only [List.getElem?_cons_zero, Option.some.injEq] at hx
    subst hx
    refine ⟨.sl (some (db, 0)) n n 0, rfl, some (db, 0), n, 0, by show _ = AV.sl _ (List.replicate n 0).length _ _; rw [hrl], .inl rfl, by show (List.replicate n (0 : UInt8)).length ≤ n; rw [hrl]; exact Nat.le_refl _, by omega, fun H' hh => ?_⟩
    have hq : Sq 1 (.sl (some (db, 0)) (List.replicate n (0 : UInt8)).length (List.replicate n (0 : UInt8)).length 0) (bcells (List.replicate n 0)) (bcells (List.replicate n 0)) := Sq.full (.inl rfl) ((bcells_len _).trans (Nat.mul_one _).symm)
    have hb := Sq.bs (R := []) hq (by rw [List.append_nil]; exact hh.sub)
    rw [hrl] at hb ⊢
    exact hb
  · rw [List.mem_singleton.1 hc]; show (!(decide (0 = 0) && decide (0 < (List.replicate n (0 : UInt8)).length))) = false; rw [hrl, decide_eq_true (show 0 < n by omega)]; rfl
  · rw [List.mem_singleton.1 hc]; show (List.replicate n (0 : UInt8)).length ≤ _; rw [hrl]; omega
  · obtain ⟨L2, D2, m, rfl, h2, _, hh⟩ := hq
    exact ⟨L2, D2, m, rfl, h2, hh.sub2⟩
theorem foldl_stay {α β : Type} {f : β → α → β} {s : β} : ∀ {l : List α}, (∀ z ∈ l, f s z = s) → l.foldl f s = s
  | [], _ => rfl
  | a :: l, h => by rw [List.foldl_cons, h a (List.mem_cons_self ..), foldl_stay fun z hz => h z (List.mem_cons_of_mem _ hz)]
theorem zip_rep {α : Type} {m : Nat} : ∀ {l : List α} {k : Nat}, k = l.length → l.zip (List.replicate k m) = l.map fun e => (e, m)
  | [], k, _ => by rw [List.zip_nil_left]; rfl
  | a :: l, 0, h => by cases h
  | a :: l, k + 1, h => by rw [List.replicate_succ, List.zip_cons_cons, List.map_cons, zip_rep (by simpa using h)]
/-- The chunks of a message. -/
abbrev gE (c : Cx) (a : Int) (k : Nat) : List Ea := pushA (List.replicate k (c, 0)) a
theorem gE_len {c : Cx} {a : Int} {k : Nat} : (gE c a k).length = k := by rw [pushA_len, List.length_replicate]
theorem gE_all {c : Cx} {a : Int} {k : Nat} : ∀ e ∈ gE c a k, e.c = c ∧ e.st = 0 ∧ e.sent = 0 := fun e he => by
  obtain ⟨j, hj⟩ := List.getElem?_of_mem he
  obtain ⟨d, h1, rfl⟩ := pushA_get hj
  have h2 := List.eq_of_mem_replicate (List.mem_of_getElem? h1)
  rw [h2]; exact ⟨rfl, rfl, rfl⟩
theorem gE_at {c : Cx} {a : Int} {k j : Nat} (h : j < k) : ∃ e, (gE c a k)[j]? = some e ∧ e.a = w32 (a + ((j : Nat) : Int)) := by
  have h1 : j < (gE c a k).length := by rw [gE_len]; exact h
  have h2 := List.getElem?_eq_getElem h1
  obtain ⟨d, _, h3⟩ := pushA_get h2
  exact ⟨_, h2, by rw [h3]⟩
section
variable {u a : Int} {m1 m2 k : Nat} {c : Cx} {z : Ea} {mp : List Nat}
abbrev gP (u : Int) (m1 m2 : Nat) (g : Bool) : List Po := [⟨m1, u, -1, g⟩, ⟨m2, -1, -1, false⟩]
theorem gP_1 {g : Bool} : (gP u m1 m2 g).findIdx (pmP m1) = 0 := by
  rw [List.findIdx_cons]; simp [pmP]
theorem gP_2 {g : Bool} (h : m1 ≠ m2) : (gP u m1 m2 g).findIdx (pmP m2) = 1 := by
  rw [List.findIdx_cons, List.findIdx_cons]; simp [pmP, h]
theorem gZ : (gE c a k ++ [z]).zip (List.replicate k m1 ++ [m2]) = ((gE c a k).map fun e => (e, m1)) ++ [(z, m2)] := by
  rw [List.zip_append (by rw [gE_len, List.length_replicate]), zip_rep gE_len.symm]; rfl
theorem over_p {now un : Int} {e : Ea} {m : Nat} {g : Bool} : overE now e ⟨m, un, -1, g⟩ = (decide (0 ≤ un) && decide (un < now)) := by
  unfold overE
  simp
theorem ge_early (hm : m1 ≠ m2) (hu : 0 ≤ u) : (((gE c a k).map fun e => (e, m1)) ++ [(z, m2)]).foldl (exP mp u) (gP u m1 m2 false, 0) = (gP u m1 m2 false, 0) := by
  refine foldl_stay fun y hy => ?_
  rcases List.mem_append.1 hy with h | h
  · obtain ⟨e, _, rfl⟩ := List.mem_map.1 h
    refine exStep_no (p := ⟨m1, u, -1, false⟩) (by show (gP u m1 m2 false)[(gP u m1 m2 false).findIdx (pmP m1)]? = _; rw [gP_1]; rfl) fun h9 => ?_
    have h8 := h9.2
    rw [over_p] at h8
    simp at h8
  · rw [List.mem_singleton.1 h]
    refine exStep_no (p := ⟨m2, -1, -1, false⟩) (by show (gP u m1 m2 false)[(gP u m1 m2 false).findIdx (pmP m2)]? = _; rw [gP_2 hm]; rfl) fun h9 => ?_
    have h8 := h9.2
    rw [over_p] at h8
    simp at h8
theorem gv_1 {g : Bool} : gvOf (gP u m1 m2 g) m1 = g := by unfold gvOf; rw [gP_1]; rfl
theorem gv_2 {g : Bool} (h : m1 ≠ m2) : gvOf (gP u m1 m2 g) m2 = false := by unfold gvOf; rw [gP_2 h]; rfl
theorem ge_same (hm : m1 ≠ m2) : (((gE c a k).map fun e => (e, m1)) ++ [(z, m2)]).map (exE (gP u m1 m2 false)) = gE c a k ++ [z] := by
  rw [List.map_append, List.map_map]
  congr 1
  · rw [show (exE (gP u m1 m2 false) ∘ fun e => (e, m1)) = id from funext fun e => by show exE _ (e, m1) = e; unfold exE; rw [if_neg (fun h => by have h9 := h.2; rw [show gvOf (gP u m1 m2 false) (e, m1).2 = false from gv_1] at h9; cases h9)], List.map_id]
  · show [exE _ (z, m2)] = [z]
    unfold exE; rw [if_neg (fun h => by have h9 := h.2; rw [show gvOf (gP u m1 m2 false) (z, m2).2 = false from gv_2 hm] at h9; cases h9)]
theorem ge_late (hm : m1 ≠ m2) (hu : 0 ≤ u) (hk : 1 ≤ k) (hmp : m1 ∈ mp) : (((gE c a k).map fun e => (e, m1)) ++ [(z, m2)]).foldl (exP mp (u + 1)) (gP u m1 m2 false, 0) = (gP u m1 m2 true, 1) := by
  obtain ⟨k, rfl⟩ : ∃ j, k = j + 1 := ⟨k - 1, by omega⟩
  have e1 : gE c a (k + 1) = ⟨c, w32 a, 0, 0, 0, 0⟩ :: gE c (a + 1) k := rfl
  rw [e1, List.map_cons, List.cons_append, List.foldl_cons]
  have h1 : exP mp (u + 1) (gP u m1 m2 false, 0) (⟨c, w32 a, 0, 0, 0, 0⟩, m1) = (gP u m1 m2 true, 1) := by
    refine (exStep_yes (p := ⟨m1, u, -1, false⟩) (by show (0 : Int) ∈ [0, 1, 2, 3]; decide) hmp (by show (gP u m1 m2 false)[(gP u m1 m2 false).findIdx (pmP m1)]? = _; rw [gP_1]; rfl) rfl ?_).trans ?_
    · rw [over_p, decide_eq_true hu, decide_eq_true (show u < u + 1 by omega)]; rfl
    · show ((gP u m1 m2 false).set ((gP u m1 m2 false).findIdx (pmP m1)) _, 0 + 1) = _
      rw [gP_1]; rfl
  rw [h1]
  refine foldl_stay fun y hy => ?_
  rcases List.mem_append.1 hy with h | h
  · obtain ⟨e, _, rfl⟩ := List.mem_map.1 h
    exact exStep_no (p := ⟨m1, u, -1, true⟩) (by show (gP u m1 m2 true)[(gP u m1 m2 true).findIdx (pmP m1)]? = _; rw [gP_1]; rfl) fun h9 => by cases h9.1
  · rw [List.mem_singleton.1 h]
    refine exStep_no (p := ⟨m2, -1, -1, false⟩) (by show (gP u m1 m2 true)[(gP u m1 m2 true).findIdx (pmP m2)]? = _; rw [gP_2 hm]; rfl) fun h9 => ?_
    have h8 := h9.2
    rw [over_p] at h8
    simp at h8
theorem ge_given (hm : m1 ≠ m2) : (((gE c a k).map fun e => (e, m1)) ++ [(z, m2)]).map (exE (gP u m1 m2 true)) = (gE c a k).map (fun e => e.setSt 4) ++ [z] := by
  rw [List.map_append, List.map_map]
  congr 1
  · refine List.map_congr_left fun e he => ?_
    show exE _ (e, m1) = e.setSt 4
    unfold exE; rw [if_pos ⟨by show e.st ∈ _; rw [(gE_all e he).2.1]; decide, gv_1⟩]
  · show [exE _ (z, m2)] = [z]
    unfold exE; rw [if_neg (fun h => by have h9 := h.2; rw [show gvOf (gP u m1 m2 true) (z, m2).2 = false from gv_2 hm] at h9; cases h9)]
abbrev gG (c : Cx) (a : Int) (k : Nat) : List Ea := (gE c a k).map fun e => e.setSt 4
theorem gG_len : (gG c a k).length = k := by rw [List.length_map, gE_len]
theorem gG_all : ∀ e ∈ gG c a k, e.c = c ∧ e.st = 4 := fun e he => by
  obtain ⟨x, hx, rfl⟩ := List.mem_map.1 he
  exact ⟨(gE_all x hx).1, rfl⟩
theorem fx_past {α : Type} {P : α → Bool} {x : α} : ∀ {l : List α}, (∀ e ∈ l, P e = false) → P x = true → (l ++ [x]).findIdx P = l.length
  | [], _, h => by rw [List.nil_append, List.findIdx_cons, h]; rfl
  | e :: l, h, hx => by rw [List.cons_append, List.findIdx_cons, h e (List.mem_cons_self ..), fx_past (fun y hy => h y (List.mem_cons_of_mem _ hy)) hx]; rfl
theorem gF_n (hz : z.st = 0) : fwN (gG c a k ++ [z]) = k := by
  unfold fwN
  rw [fx_past (fun e he => decide_eq_false (by rw [(gG_all e he).2]; decide)) (decide_eq_true (by rw [hz]; decide)), gG_len]
theorem gF_x (hz : z.st = 0) (hk : 1 ≤ k) : fwX (gG c a k ++ [z]) = k := by
  unfold fwX
  rw [gF_n hz, List.take_append_of_le_length (by rw [gG_len]; exact Nat.le_refl _), List.take_of_length_le (by rw [gG_len]; exact Nat.le_refl _)]
  obtain ⟨k, rfl⟩ : ∃ j, k = j + 1 := ⟨k - 1, by omega⟩
  have h1 : k < (gG c a (k + 1)).length := by rw [gG_len]; omega
  have h2 := fwE_at (l := gG c a (k + 1)) (List.getElem?_eq_getElem h1)
  rw [List.take_of_length_le (by rw [gG_len]; exact Nat.le_refl _), if_pos (gG_all _ (List.getElem_mem h1)).2] at h2
  exact h2
theorem gF_take (hz : z.st = 0) (hk : 1 ≤ k) : (gG c a k ++ [z]).take (fwX (gG c a k ++ [z])) = gG c a k := by
  rw [gF_x hz hk, List.take_append_of_le_length (by rw [gG_len]; exact Nat.le_refl _), List.take_of_length_le (by rw [gG_len]; exact Nat.le_refl _)]
theorem gF_m {nx : Int} (hz : z.st = 0) (hk : 1 ≤ k) : fwM (gG c a k ++ [z]) nx = w32 (a + ((k - 1 : Nat) : Int)) := by
  unfold fwM
  rw [gF_x hz hk, if_neg (by omega), List.getElem?_append_left (by rw [gG_len]; omega)]
  obtain ⟨e, h1, h2⟩ := gE_at (c := c) (a := a) (k := k) (j := k - 1) (by omega)
  rw [List.getElem?_map, h1]
  exact h2
theorem fwS_all (hf : ∀ e ∈ gG c a k, frB e.c.f = true) : fwO (gG c a k) = [] := by
  unfold fwO
  exact foldl_stay fun e he => by unfold fwS; rw [if_pos (.inr (hf e he))]
theorem gF_free (hf : frB c.f = true) : fwO (gG c a k) = [] := fwS_all fun e he => by rw [(gG_all e he).1]; exact hf
theorem gF_one (hf : frB c.f = false) (hk : 1 ≤ k) : fwO (gG c a k) = [(c.o, c.i)] := by
  obtain ⟨k, rfl⟩ : ∃ j, k = j + 1 := ⟨k - 1, by omega⟩
  have e1 : gG c a (k + 1) = ⟨c, w32 a, 4, 0, 0, 0⟩ :: gG c (a + 1) k := rfl
  unfold fwO
  rw [e1, List.foldl_cons]
  have h1 : fwS [] ⟨c, w32 a, 4, 0, 0, 0⟩ = [(c.o, c.i)] := by
    unfold fwS
    rw [if_neg (by rintro (h | h); exact absurd h (by show ¬ (4 : Int) = 3; decide); rw [show (⟨c, w32 a, 4, 0, 0, 0⟩ : Ea).c = c from rfl, hf] at h; cases h)]
    rfl
  rw [h1]
  refine foldl_stay fun e he => ?_
  obtain ⟨h2, h3⟩ := gG_all e he
  unfold fwS
  rw [if_neg (by rintro (h | h); rw [h3] at h; exact absurd h (by decide); rw [h2, hf] at h; cases h), h2]
  have h4 : [(c.o, c.i)].findIdx (skP c.o) = 0 := by rw [List.findIdx_cons]; simp [skP]
  rw [h4]; rfl
theorem takeL_non {s now : Int} : ∀ {l : List Ea} {r : Int}, (∀ e ∈ l, ¬ e.st = s) → takeL s now l r = (l, [], r, false)
  | [], r, _ => rfl
  | e :: l, r, h => by rw [takeL_ne (h e (List.mem_cons_self ..)), takeL_non fun x hx => h x (List.mem_cons_of_mem _ hx)]
theorem gF_told {now : Int} (hz : z.st = 0) (hd : ((z.c.d.length : Nat) : Int) ≤ 1000) : (take2 now (gG c a k ++ [z]) 1000).2 = [z] := by
  have h4 : ∀ e ∈ gG c a k ++ [z], ¬ e.st = 2 := fun e he => by
    rcases List.mem_append.1 he with h | h
    · rw [(gG_all e h).2]; decide
    · rw [List.mem_singleton.1 h, hz]; decide
  have h5 : takeL 0 now (gG c a k) 1000 = (gG c a k, [], 1000, false) := takeL_non fun e he => by rw [(gG_all e he).2]; decide
  unfold take2
  rw [takeL_non h4]
  show ([] : List Ea) ++ (takeL 0 now (gG c a k ++ [z]) 1000).2.1 = [z]
  rw [takeL_app, h5]
  show ([] : List Ea) ++ ([] ++ (takeL 0 now [z] 1000).2.1) = [z]
  rw [takeL_fit hz (by omega)]; rfl
end
theorem po_apart {H : AH} {R : HL} {p q : Po} (h : Hs H ([p, q].flatMap Po.seg ++ R)) : p.m ≠ q.m := by
  have h1 := h.nd
  have h2 : ((([p, q].flatMap Po.seg ++ R).map Prod.fst)) = p.m :: q.m :: R.map Prod.fst := rfl
  rw [h2] at h1
  intro h3
  rw [h3] at h1
  exact (List.nodup_cons.1 h1).1 (List.mem_cons_self ..)
theorem gives_num {a : Int} {k : Nat} (h : 1 ≤ k) : w32 (a + ((k - 1 : Nat) : Int)) = w32 (w32 (a + w32 ((k : Nat) : Int)) - 1) := by
  rw [w32_subl, show a + w32 ((k : Nat) : Int) - 1 = (a - 1) + w32 ((k : Nat) : Int) by omega, w32_addr]
  congr 1; omega
theorem gG_sz {c : Cx} {a : Int} {k : Nat} {z : Ea} (hc : c.d.length ≤ 1000) (hz : z.c.d.length ≤ 1000) (hs : z.sent = 0) : ∀ e ∈ gG c a k ++ [z], e.c.d.length ≤ 1000000 ∧ 0 ≤ e.sent ∧ e.sent ≤ 1000000 := fun e he => by
  rcases List.mem_append.1 he with h | h
  · obtain ⟨x, hx, rfl⟩ := List.mem_map.1 h
    obtain ⟨h1, _, h3⟩ := gE_all x hx
    exact ⟨by show x.c.d.length ≤ _; rw [h1]; omega, by show 0 ≤ x.sent; omega, by show x.sent ≤ _; omega⟩
  · rw [List.mem_singleton.1 h]; exact ⟨by omega, by omega, by omega⟩
theorem gD {db : Nat} {B : HL} : OctIn (B ++ [(db, some (.cells (bcells [7]) true))]) (.sl (some (db, 0)) 1 1 0) [7] := ⟨some (db, 0), 1, 0, rfl, .inl rfl, Nat.le_refl _, by decide, fun H' hh => by
  have hq : Sq 1 (.sl (some (db, 0)) 1 1 0) (bcells [7]) (bcells [7]) := Sq.full (.inl rfl) rfl
  exact Sq.bs (R := []) hq (by rw [List.append_nil]; exact hh.sub)⟩
theorem frB4 : frB 4 = true := by decide
theorem frB0 : frB 0 = false := by decide

end Go.Proofs.Ytipcacpaadgagaa.E
