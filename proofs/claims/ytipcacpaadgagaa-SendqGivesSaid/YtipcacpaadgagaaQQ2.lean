/- Queues of chunks: how far an answer reaches. It bears no condition. -/
import Derived.Test.YtipcacpaadgagaaQQ1
namespace Go.Proofs.Ytipcacpaadgagaa.E

set_option linter.unusedVariables false
set_option linter.unusedSimpArgs false
def floorA (nx : Int) (n : Nat) : Int := w32 (w32 (nx - w32 ((n : Nat) : Int)) - 1)
section
variable {es : List Ea} {j : Nat} {e : Ea} {now s : Int}
end
theorem En.cut {H : AH} {R : HL} {q : List En} (n : Nat) (hH : Hs H (q.flatMap En.seg ++ R)) : Hs H ((q.drop n).flatMap En.seg ++ R) := by
  have e : q.flatMap En.seg = (q.take n).flatMap En.seg ++ (q.drop n).flatMap En.seg := by rw [← List.flatMap_append, List.take_append_drop]
  rw [e, List.append_assoc] at hH
  exact hH.sub
theorem Rw.isNone {H : AH} {w : AV} {rows : List (List AV)} {sz : Nat} (h : Rw sz H w rows) : ∃ a n c g, w = .sl a n c g ∧ (a = Option.none → rows = []) := by
  cases h with
  | none hg => exact ⟨_, _, _, _, rfl, fun _ => rfl⟩
  | mk => exact ⟨_, _, _, _, rfl, fun h => by cases h⟩
theorem floor_raw {H : AH} {R : HL} {F : Nat} {lv : AV} {lc : List AV} {nx : Int} {q : List En} (hlv : Sq 1 lv lc (q.map En.pr).flatten) (hH0 : Hs H ([(F, some (.cells ([lv, (.i .u32 nx)]) true))] ++ ((qseg lv lc) ++ ((q.flatMap En.seg) ++ (R))))) : Ev tabA spA (.fn (.func 17) [] []) [.p (some (F, 0))] H (fun r H' => r = .i .u32 (floorA nx q.length) ∧ Hs H' ([(F, some (.cells ([lv, (.i .u32 nx)]) true))] ++ ((qseg lv lc) ++ ((q.flatMap En.seg) ++ (R))))) := by
  refine Ev_C (F := x17) rfl ?_
  refine C_seq ?_
  refine C_region ?_
  refine O_p (.i .u32 0) (r_mv rfl) ?_
  refine O_nil ?_
  refine C_seq ?_
  refine C_seq ?_
  refine C_region ?_
  refine O_p (.p (some (F, 0))) (r_mv rfl) ?_
  refine O_p (.b false) (r_nilq_s rfl) ?_
  refine O_nil ?_
  refine C_cond (x := false) rfl (fun h => by cases h) (fun _ => ?_)
  refine C_skip ?_
  refine C_seq ?_
  refine C_draw fun b1 H2 hbase3 hA4 => ?_
  have hH5 := hH0.keep (by have := hA4.1; omega) (fun q _ => hA4.2 q) ((hH0.old).aside hA4).ok
  refine D_l (v := (.p (some (F, 0)))) rfl rfl rfl (r_mv rfl) ?_
  refine D_l (v := (.p (some (F, 0)))) rfl rfl rfl (r_nilc rfl) ?_
  refine D_l (v := (.p (some (F, 1)))) rfl rfl rfl (r_fadd' rfl rfl) ?_
  refine D_l (v := (.p (some (F, 0)))) rfl rfl rfl (r_mv rfl) ?_
  refine D_l (v := (.p (some (F, 0)))) rfl rfl rfl (r_nilc rfl) ?_
  refine D_l (v := (.p (some (F, 0)))) rfl rfl rfl (r_fadd' rfl rfl) ?_
  refine D_r (v := (.i .u32 nx)) rfl rfl rfl (r_ld rfl hH5.get0 rfl) ?_
  refine D_r (v := lv) rfl rfl rfl (r_ld rfl hH5.get0 rfl) ?_
  refine D_l (v := (.i .i64 (((q.length : Nat)) : Int))) rfl rfl rfl (by exact (r_lenOf (v := lv) (n := q.length) rfl ((hlv.rd hH5.top1 (pr_lens q) (by decide)).lenOf (List.length_map ..)) (hlv.rd hH5.top1 (pr_lens q) (by decide)).isSl)) ?_
  refine D_l (v := (.i .u32 (IntKind.u32.wrap (((q.length : Nat)) : Int)))) rfl rfl rfl (r_cint rfl) ?_
  refine D_l (v := (.i .u32 (IntKind.u32.wrap (nx - (IntKind.u32.wrap (((q.length : Nat)) : Int)))))) rfl rfl rfl (r_bin rfl rfl rfl) ?_
  refine D_l (v := (.i .u32 (IntKind.u32.wrap ((IntKind.u32.wrap (nx - (IntKind.u32.wrap (((q.length : Nat)) : Int)))) - 1)))) rfl rfl rfl (r_bin rfl rfl rfl) ?_
  refine D_l (v := (.i .u32 (IntKind.u32.wrap ((IntKind.u32.wrap (nx - (IntKind.u32.wrap (((q.length : Nat)) : Int)))) - 1)))) rfl rfl rfl (r_mv rfl) ?_
  refine D_nil ?_
  refine C_ret ?_
  have hH6 := (((hH5.top2).top2).top2)
  exact ⟨.inr rfl, _, resL_one (r_tmp (v := (.i .u32 (IntKind.u32.wrap ((IntKind.u32.wrap (nx - (IntKind.u32.wrap (((q.length : Nat)) : Int)))) - 1)))) rfl), rfl, hH6⟩
set_option linter.unusedVariables false
set_option linter.unusedSimpArgs false
def hit (c : Bool) (e : Ea) : Prop := c = true ∧ (e.st = 1 ∨ e.st = 2)
instance (c : Bool) (e : Ea) : Decidable (hit c e) := by unfold hit; exact inferInstance
def Ea.setSt (e : Ea) (s : Int) : Ea := ⟨e.c, e.a, s, e.sent, e.tm, e.mi⟩
section
variable {bl : List (Int × Int)} {es : List Ea} {j : Nat} {e : Ea}
end
/-- Blocks of an answer, that are read. -/
def BksR (rows : List (List AV)) (bl : List (Int × Int)) : Prop := rows = bl.map (fun b => [.i .u16 b.1, .i .u16 b.2]) ∧ ∀ b ∈ bl, (0 ≤ b.1 ∧ b.1 < 65536) ∧ 0 ≤ b.2 ∧ b.2 < 65536
theorem BksR.row {rows : List (List AV)} {bl : List (Int × Int)} (h : BksR rows bl) {i : Nat} {b : Int × Int} (hi : bl[i]? = some b) : rows[i]? = some [.i .u16 b.1, .i .u16 b.2] := by rw [h.1, List.getElem?_map, hi]; rfl
set_option linter.unusedVariables false
set_option linter.unusedSimpArgs false
set_option linter.unusedVariables false
set_option linter.unusedSimpArgs false
section
variable {H : AH} {F : Nat} {es : List Ea} {nx : Int} {D L R B : HL}
end



set_option linter.unusedVariables false
set_option linter.unusedSimpArgs false
/-! ### An answer told twice -/
section
variable {x y : Int}
theorem w32_addl : w32 (w32 x + y) = w32 (x + y) := by simp only [w32, wrap_u32]; omega
theorem w32_addr : w32 (x + w32 y) = w32 (x + y) := by simp only [w32, wrap_u32]; omega
theorem w32_subl : w32 (w32 x - y) = w32 (x - y) := by simp only [w32, wrap_u32]; omega
theorem w32_subr : w32 (x - w32 y) = w32 (x - y) := by simp only [w32, wrap_u32]; omega
end
set_option linter.unusedVariables false
set_option linter.unusedSimpArgs false
/-! ### Timeout -/
section
variable {es : List Ea} {j : Nat} {e : Ea}
end
/-! ### All that is pushed comes -/
set_option linter.unusedVariables false
set_option linter.unusedSimpArgs false
/-! ### Maps whose keys are pointers to blocks that may be written -/
def Mp (mp : List Nat) (b : Blk) : Prop := ∃ es cl, b = .map es cl ∧ es.map (fun e => (e.1, e.2.1)) = mp.map (fun n => (AV.p (some (n, 0)), AV.b true))
theorem Mp.nil : Mp [] (.map [] 0) := ⟨[], 0, rfl, rfl⟩
theorem keyP {H : AH} {n k : Nat} (h : n = k ∨ H.apart n k = true) : keyEqH H 3 (.p (some (n, 0))) (.p (some (k, 0))) = some (decide (n = k)) := by
  show (if n = k then some (decide ((0 : Nat) = 0)) else if H.apart n k = true then some false else none) = _
  by_cases hk : n = k
  · rw [if_pos hk, decide_eq_true hk]; rfl
  · rw [if_neg hk, decide_eq_false hk, if_pos (h.resolve_left hk)]
theorem mfindP_get {H : AH} {n : Nat} : ∀ {es : List (AV × AV × Nat)} {mp : List Nat} {i : Nat}, es.map (fun e => (e.1, e.2.1)) = mp.map (fun n => (AV.p (some (n, 0)), AV.b true)) → (∀ k ∈ mp, n = k ∨ H.apart n k = true) → (mfind H 3 (.p (some (n, 0))) es i).map (fun o => o.map (·.2)) = some (if n ∈ mp then some (.b true) else none)
  | [], [], i, _, _ => rfl
  | [], _ :: _, i, h, _ => by simp at h
  | _ :: _, [], i, h, _ => by simp at h
  | (a, v, c) :: es, q :: mp, i, h, ha => by
    simp only [List.map_cons, List.cons.injEq, Prod.mk.injEq] at h
    obtain ⟨⟨rfl, rfl⟩, h⟩ := h
    unfold mfind
    rw [keyP (ha q (List.mem_cons_self ..))]
    by_cases hk : n = q
    · subst hk; simp
    · rw [decide_eq_false hk]
      simp only
      rw [mfindP_get h fun k hm => ha k (List.mem_cons_of_mem _ hm)]
      simp only [List.mem_cons, hk, false_or]
theorem mfindP_put {H : AH} {n : Nat} : ∀ {es : List (AV × AV × Nat)} {mp : List Nat} (i cl : Nat), es.map (fun e => (e.1, e.2.1)) = mp.map (fun n => (AV.p (some (n, 0)), AV.b true)) → (∀ k ∈ mp, n = k ∨ H.apart n k = true) →
    ∃ es', ((∃ j w, mfind H 3 (.p (some (n, 0))) es i = some (some (j + i, w)) ∧ es' = es.modify j fun e => (.p (some (n, 0)), .b true, e.2.2)) ∨ (mfind H 3 (.p (some (n, 0))) es i = some none ∧ es' = es ++ [(.p (some (n, 0)), .b true, cl)])) ∧ es'.map (fun e => (e.1, e.2.1)) = (if n ∈ mp then mp else mp ++ [n]).map (fun n => (AV.p (some (n, 0)), AV.b true))
  | [], [], i, cl, _, _ => ⟨_, .inr ⟨rfl, rfl⟩, rfl⟩
  | [], _ :: _, i, cl, h, _ => by simp at h
  | _ :: _, [], i, cl, h, _ => by simp at h
  | (a, u, c) :: es, q :: mp, i, cl, h, ha => by
    simp only [List.map_cons, List.cons.injEq, Prod.mk.injEq] at h
    obtain ⟨⟨rfl, rfl⟩, h⟩ := h
    unfold mfind
    rw [keyP (ha q (List.mem_cons_self ..))]
    by_cases hk : n = q
    · subst hk
      refine ⟨_, .inl ⟨0, .b true, by simp, rfl⟩, ?_⟩
      simp [h]
    · rw [decide_eq_false hk]
      simp only
      obtain ⟨es', h1, h2⟩ := mfindP_put (es := es) (mp := mp) (i + 1) cl h fun k hm => ha k (List.mem_cons_of_mem _ hm)
      refine ⟨(AV.p (some (q, 0)), .b true, c) :: es', ?_, ?_⟩
      · rcases h1 with ⟨j, x, h3, rfl⟩ | ⟨h3, rfl⟩
        · exact .inl ⟨j + 1, x, by rw [h3]; congr 3; omega, by rw [List.modify_succ_cons]⟩
        · exact .inr ⟨h3, rfl⟩
      · rw [List.map_cons, h2]
        simp only [List.mem_cons, hk, false_or]
        split <;> simp
section
variable {H : AH} {T : Tm} {cf : CallF} {x y z : XO} {mp : List Nat} {b : Blk} {r n : Nat} {R : HL}
theorem r_pget (hb : H.get r = some b) (hm : Mp mp b) (hx : x.ev T = .m (some r)) (hk : y.ev T = .p (some (n, 0))) (ha : ∀ k ∈ mp, n = k ∨ H.apart n k = true) : (XOp.lookup 3 (.b false) x y false).run cf T H = some (.b (decide (n ∈ mp)), H) := by
  obtain ⟨es, cl, rfl, he⟩ := hm
  have h := mfindP_get (H := H) (i := 0) he ha
  simp only [XOp.run, XOp.look, hx, hk, keyOk, hb, Bool.true_eq_false, if_false, h]
  by_cases hn : n ∈ mp
  · rw [if_pos hn, decide_eq_true hn]; rfl
  · rw [if_neg hn, decide_eq_false hn]; rfl
theorem r_pput (hH : Hs H ([(r, some b)] ++ R)) (hm : Mp mp b) (hx : x.ev T = .m (some r)) (hk : y.ev T = .p (some (n, 0))) (hv : z.ev T = .b true) (ha : ∀ k ∈ mp, n = k ∨ H.apart n k = true) : ∃ u H', (XOp.mput 3 x y z).run cf T H = some (u, H') ∧ ∃ b', Mp (if n ∈ mp then mp else mp ++ [n]) b' ∧ Hs H' ([(r, some b')] ++ R) := by
  obtain ⟨es, cl, rfl, he⟩ := hm
  obtain ⟨es', h1, h2⟩ := mfindP_put (H := H) 0 cl he ha
  rcases h1 with ⟨j, w, h3, h4⟩ | ⟨h3, h4⟩
  · refine ⟨und, H.set r (.map es' cl), ?_, _, ⟨es', cl, rfl, h2⟩, set_hs hH⟩
    simp only [XOp.run, XOp.turn, hx, hk, hv, keyOk, hH.get, Bool.true_eq_false, if_false, h3, h4, Nat.add_zero]
  · refine ⟨und, H.set r (.map es' (cl + 1)), ?_, _, ⟨es', cl + 1, rfl, h2⟩, set_hs hH⟩
    simp only [XOp.run, XOp.turn, hx, hk, hv, keyOk, hH.get, Bool.true_eq_false, if_false, h3, h4]
theorem apart_of {n k : Nat} {c1 c2 : List AV} (h1 : H.get n = some (.cells c1 true)) (h2 : H.get k = some (.cells c2 true)) : H.apart n k = true := by unfold AH.apart; rw [h1, h2]
end
/-! ### When messages are given up -/
structure Po where
  m : Nat
  un : Int
  tr : Int
  gv : Bool
def Po.seg (p : Po) : HL := [(p.m, some (.cells [.i .i64 p.un, .i .i64 p.tr, .b p.gv] true))]
section
variable {H : AH} {R : HL} {pl : List Po} {k : Nat} {p p2 : Po}
theorem Po.out (h : pl[k]? = some p) (hH : Hs H (pl.flatMap Po.seg ++ R)) : Hs H ([(p.m, some (.cells [.i .i64 p.un, .i .i64 p.tr, .b p.gv] true))] ++ ((pl.eraseIdx k).flatMap Po.seg ++ R)) := by
  refine Hs.perm hH ?_
  refine (List.Perm.append_right R (erase_perm Po.seg h)).trans ?_
  rw [List.append_assoc]; exact List.Perm.refl _
theorem Po.back (h : pl[k]? = some p) (hH : Hs H ([(p2.m, some (.cells [.i .i64 p2.un, .i .i64 p2.tr, .b p2.gv] true))] ++ ((pl.eraseIdx k).flatMap Po.seg ++ R))) : Hs H ((pl.set k p2).flatMap Po.seg ++ R) := by
  have hk := (List.getElem?_eq_some_iff.1 h).1
  refine Hs.perm hH ?_
  have h2 : (pl.set k p2)[k]? = some p2 := List.getElem?_set_self hk
  refine List.Perm.trans ?_ (List.Perm.append_right R (erase_perm Po.seg h2)).symm
  rw [erase_set, List.append_assoc]; exact List.Perm.refl _
theorem Po.back0 (h : pl[k]? = some p) (hH : Hs H ([(p.m, some (.cells [.i .i64 p.un, .i .i64 p.tr, .b p.gv] true))] ++ ((pl.eraseIdx k).flatMap Po.seg ++ R))) : Hs H (pl.flatMap Po.seg ++ R) := by
  have h1 := Po.back (p2 := p) h hH
  rw [rows_same h] at h1; exact h1
theorem Po.get (h : p ∈ pl) (hH : Hs H (pl.flatMap Po.seg ++ R)) : H.get p.m = some (.cells [.i .i64 p.un, .i .i64 p.tr, .b p.gv] true) := by
  obtain ⟨k, hk⟩ := List.getElem?_of_mem h
  exact (Po.out hk hH).get
end



set_option linter.unusedVariables false
set_option linter.unusedSimpArgs false
def overE (now : Int) (e : Ea) (p : Po) : Bool := (decide (0 ≤ p.un) && decide (p.un < now)) || ((decide (0 ≤ p.tr) && decide (e.st = 2)) && decide (p.tr < e.sent))
abbrev pmP (m : Nat) : Po → Bool := fun p => decide (p.m = m)
def exStep (mp : List Nat) (now : Int) (s : List Po × Nat) (x : En) : List Po × Nat :=
  if x.e.st ∈ [0, 1, 2, 3] ∧ x.m ∈ mp then (match s.1[s.1.findIdx (pmP x.m)]? with
    | some p => if p.gv = false ∧ overE now x.e p = true then (s.1.set (s.1.findIdx (pmP x.m)) ⟨p.m, p.un, p.tr, true⟩, s.2 + 1) else s
    | none => s) else s
def gvOf (pl : List Po) (m : Nat) : Bool := match pl[pl.findIdx (pmP m)]? with
  | some p => p.gv
  | none => false
def exN (pl : List Po) (x : En) : En := if x.e.st ∈ [0, 1, 2, 3] ∧ gvOf pl x.m = true then ⟨x.e.setSt 4, x.n, x.m, x.dv⟩ else x
theorem fx_yes {α : Type} {P : α → Bool} {w : List α} {i : Nat} {x : α} (hi : w.findIdx P = i) (h : w[i]? = some x) : P x = true := by
  have hl := (List.getElem?_eq_some_iff.1 h).1
  have hg := List.findIdx_getElem (xs := w) (p := P) (w := by omega)
  simp only [hi] at hg
  rw [(List.getElem?_eq_some_iff.1 h).2] at hg
  exact hg
theorem po_at {pl : List Po} {m : Nat} (h : ∃ p ∈ pl, p.m = m) : ∃ p, pl[pl.findIdx (pmP m)]? = some p ∧ p.m = m := by
  obtain ⟨p, hp, hm⟩ := h
  have hlt : pl.findIdx (pmP m) < pl.length := List.findIdx_lt_length_of_exists ⟨p, hp, decide_eq_true hm⟩
  refine ⟨pl[pl.findIdx (pmP m)], List.getElem?_eq_getElem hlt, ?_⟩
  have := fx_yes (P := pmP m) rfl (List.getElem?_eq_getElem hlt)
  exact of_decide_eq_true this
theorem apart_full {H : AH} {R : HL} {pl : List Po} {mp : List Nat} {m : Nat} (hp : ∃ p ∈ pl, p.m = m) (hmp : ∀ k ∈ mp, ∃ p ∈ pl, p.m = k) (hH : Hs H (pl.flatMap Po.seg ++ R)) : ∀ k ∈ mp, m = k ∨ H.apart m k = true := fun k hk => by
  obtain ⟨p, h1, rfl⟩ := hp
  obtain ⟨p2, h2, rfl⟩ := hmp k hk
  exact .inr (apart_of (Po.get h1 hH) (Po.get h2 hH))
theorem ex_foldl {mp : List Nat} {now : Int} {q : List En} {j : Nat} {x : En} {s : List Po × Nat} (h : q[j]? = some x) : (q.take (j + 1)).foldl (exStep mp now) s = exStep mp now ((q.take j).foldl (exStep mp now) s) x := by
  rw [take_at h, List.foldl_append]; rfl
section
variable {mp : List Nat} {now : Int} {s : List Po × Nat} {x : En} {p : Po}
theorem exStep_st (h : x.e.st ∉ [0, 1, 2, 3]) : exStep mp now s x = s := by unfold exStep; rw [if_neg (fun h9 => h h9.1)]
theorem exStep_mem (h : x.m ∉ mp) : exStep mp now s x = s := by unfold exStep; rw [if_neg (fun h9 => h h9.2)]
theorem exStep_no (hp : s.1[s.1.findIdx (pmP x.m)]? = some p) (h : ¬ (p.gv = false ∧ overE now x.e p = true)) : exStep mp now s x = s := by
  unfold exStep
  split
  · rw [hp]; dsimp only; rw [if_neg h]
  · rfl
theorem exStep_yes (h1 : x.e.st ∈ [0, 1, 2, 3]) (h2 : x.m ∈ mp) (hp : s.1[s.1.findIdx (pmP x.m)]? = some p) (h3 : p.gv = false) (h4 : overE now x.e p = true) : exStep mp now s x = (s.1.set (s.1.findIdx (pmP x.m)) ⟨p.m, p.un, p.tr, true⟩, s.2 + 1) := by
  unfold exStep
  rw [if_pos ⟨h1, h2⟩, hp]; dsimp only; rw [if_pos ⟨h3, h4⟩]
end
theorem set_ms {pl : List Po} {k : Nat} {p p2 : Po} (h : pl[k]? = some p) (hm : p2.m = p.m) : (pl.set k p2).map Po.m = pl.map Po.m := by
  rw [List.map_set, hm, rows_same (by rw [List.getElem?_map, h]; rfl)]
theorem po_ms {pl pl2 : List Po} {m : Nat} (h : pl2.map Po.m = pl.map Po.m) (hp : ∃ p ∈ pl, p.m = m) : ∃ p ∈ pl2, p.m = m := by
  obtain ⟨p, h1, rfl⟩ := hp
  have h2 : p.m ∈ pl2.map Po.m := by rw [h]; exact List.mem_map_of_mem h1
  obtain ⟨p2, h3, h4⟩ := List.mem_map.1 h2
  exact ⟨p2, h3, h4⟩
theorem ex_same {pl : List Po} {q q1 : List En} {j : Nat} (h : q1 = (q.take j).map (exN pl) ++ q.drop j) : ∀ k, j ≤ k → (q1[k]?).map En.e = (q[k]?).map En.e := fun k hk => by
  rw [h]
  by_cases hj : j ≤ q.length
  · rw [List.getElem?_append_right (by rw [List.length_map, List.length_take]; omega), List.getElem?_drop, List.length_map, List.length_take, Nat.min_eq_left hj]
    congr 2; omega
  · rw [List.drop_eq_nil_of_le (by omega), List.append_nil, List.getElem?_eq_none (by rw [List.length_map, List.length_take]; omega), List.getElem?_eq_none (by omega)]
theorem ex_get {pl : List Po} {q q1 : List En} {j : Nat} {x : En} (h : q1 = (q.take j).map (exN pl) ++ q.drop j) (hx : q[j]? = some x) : q1[j]? = some x := by
  have hj := (List.getElem?_eq_some_iff.1 hx).1
  rw [h, List.getElem?_append_right (by rw [List.length_map, List.length_take]; omega), List.getElem?_drop, List.length_map, List.length_take, Nat.min_eq_left (Nat.le_of_lt hj)]
  rw [show j + (j - j) = j by omega]; exact hx
theorem ex_skip {pl : List Po} {q q1 : List En} {j : Nat} {x : En} (h : q1 = (q.take j).map (exN pl) ++ q.drop j) (hx : q[j]? = some x) (hn : exN pl x = x) : q1 = (q.take (j + 1)).map (exN pl) ++ q.drop (j + 1) := by
  rw [h, take_at hx, List.map_append, List.append_assoc, drop_at hx]
  show _ = _ ++ ([exN pl x] ++ _)
  rw [hn]; rfl
theorem ex_set {pl : List Po} {q q1 : List En} {j : Nat} {x y : En} (h : q1 = (q.take j).map (exN pl) ++ q.drop j) (hx : q[j]? = some x) (hn : exN pl x = y) : q1.set j y = (q.take (j + 1)).map (exN pl) ++ q.drop (j + 1) := by
  have hj := (List.getElem?_eq_some_iff.1 hx).1
  rw [h, take_at hx, List.map_append, drop_at hx, List.set_append_right (h := by rw [List.length_map, List.length_take]; omega), List.length_map, List.length_take, Nat.min_eq_left (Nat.le_of_lt hj), Nat.sub_self, List.append_assoc]
  show _ = _ ++ ([exN pl x] ++ _)
  rw [hn]; rfl
theorem over_ev {H : AH} {R : HL} {x : En} {p : Po} {now : Int} (hH0 : Hs H ([(x.n, some (.cells ([(.i .u8 x.e.c.k), (.i .u8 x.e.c.f), (.i .u32 x.e.a), (.i .u32 x.e.c.b), (.i .u16 x.e.c.o), (.i .u16 x.e.c.i), (.i .u32 x.e.c.p), x.e.c.x1, x.e.c.x2, x.e.c.x3, x.e.c.x4, x.dv, (.p (some (x.m, 0))), (.i .i64 x.e.st), (.i .i64 x.e.sent), (.i .i64 x.e.tm), (.i .i64 x.e.mi)]) true))] ++ ([(x.m, some (.cells ([(.i .i64 p.un), (.i .i64 p.tr), (.b p.gv)]) true))] ++ (R)))) : Ev tabA spA (.fn (.func 43) [] []) [.p (some (x.n, 0)), .i .i64 now] H (fun r H' => r = .b (overE now x.e p) ∧ Hs H' ([(x.n, some (.cells ([(.i .u8 x.e.c.k), (.i .u8 x.e.c.f), (.i .u32 x.e.a), (.i .u32 x.e.c.b), (.i .u16 x.e.c.o), (.i .u16 x.e.c.i), (.i .u32 x.e.c.p), x.e.c.x1, x.e.c.x2, x.e.c.x3, x.e.c.x4, x.dv, (.p (some (x.m, 0))), (.i .i64 x.e.st), (.i .i64 x.e.sent), (.i .i64 x.e.tm), (.i .i64 x.e.mi)]) true))] ++ ([(x.m, some (.cells ([(.i .i64 p.un), (.i .i64 p.tr), (.b p.gv)]) true))] ++ (R)))) := by
  refine Ev_C (F := x43) rfl ?_
  refine C_seq ?_
  refine C_region ?_
  refine O_p (.b false) (r_mv rfl) ?_
  refine O_nil ?_
  refine C_seq ?_
  by_cases ha : 0 ≤ p.un
  ·
    refine C_region ?_
    refine O_p (.p (some (x.n, 0))) (r_mv rfl) ?_
    refine O_p (.p (some (x.n, 0))) (r_nilc rfl) ?_
    refine O_p (.p (some (x.n, 12))) (r_fadd' rfl rfl) ?_
    refine O_p (.p (some (x.m, 0))) (r_ld rfl hH0.get0 rfl) ?_
    refine O_p (.p (some (x.m, 0))) (r_nilc rfl) ?_
    refine O_p (.p (some (x.m, 0))) (r_fadd' rfl rfl) ?_
    refine O_p (.i .i64 p.un) (r_ld rfl hH0.get1 rfl) ?_
    refine O_p (.b true) (by exact (by rw [r_geq rfl rfl, decide_eq_true (by omega)])) ?_
    refine O_p (.b true) (r_mv rfl) ?_
    refine O_gk rfl ?_
    refine O_p (.p (some (x.n, 0))) (r_mv rfl) ?_
    refine O_gk rfl ?_
    refine O_p (.p (some (x.n, 0))) (r_nilc rfl) ?_
    refine O_gk rfl ?_
    refine O_p (.p (some (x.n, 12))) (r_fadd' rfl rfl) ?_
    refine O_gk rfl ?_
    refine O_p (.p (some (x.m, 0))) (r_ld rfl hH0.get0 rfl) ?_
    refine O_gk rfl ?_
    refine O_p (.p (some (x.m, 0))) (r_nilc rfl) ?_
    refine O_gk rfl ?_
    refine O_p (.p (some (x.m, 0))) (r_fadd' rfl rfl) ?_
    refine O_gk rfl ?_
    refine O_p (.i .i64 p.un) (r_ld rfl hH0.get1 rfl) ?_
    refine O_gk rfl ?_
    refine O_p (.i .i64 now) (r_mv rfl) ?_
    refine O_gk rfl ?_
    refine O_p (.b (decide (p.un < now))) (r_lss rfl rfl) ?_
    refine O_p (.b (decide (p.un < now))) (r_pick_t rfl rfl) ?_
    refine O_p (.b (decide (p.un < now))) (r_mv rfl) ?_
    refine O_nil ?_
    refine C_seq ?_
    by_cases hb : 0 ≤ p.tr
    ·
      by_cases hc2 : x.e.st = 2
      ·
        refine C_draw fun b1 H2 hbase3 hA4 => ?_
        have hH5 := hH0.keep (by have := hA4.1; omega) (fun q _ => hA4.2 q) ((hH0.old).aside hA4).ok
        refine D_l (v := (.p (some (x.n, 0)))) rfl rfl rfl (r_mv rfl) ?_
        refine D_l (v := (.p (some (x.n, 0)))) rfl rfl rfl (r_nilc rfl) ?_
        refine D_l (v := (.p (some (x.n, 12)))) rfl rfl rfl (r_fadd' rfl rfl) ?_
        refine D_r (v := (.p (some (x.m, 0)))) rfl rfl rfl (r_ld rfl hH5.get0 rfl) ?_
        refine D_l (v := (.p (some (x.m, 0)))) rfl rfl rfl (r_nilc rfl) ?_
        refine D_l (v := (.p (some (x.m, 1)))) rfl rfl rfl (r_fadd' rfl rfl) ?_
        refine D_r (v := (.i .i64 p.tr)) rfl rfl rfl (r_ld rfl hH5.get1 rfl) ?_
        refine D_l (v := (.b true)) rfl rfl rfl (by exact (by rw [r_geq rfl rfl, decide_eq_true (by omega)])) ?_
        refine D_l (v := (.b true)) rfl rfl rfl (r_mv rfl) ?_
        refine D_gk rfl ?_
        refine D_l (v := (.p (some (x.n, 0)))) rfl rfl rfl (r_mv rfl) ?_
        refine D_gk rfl ?_
        refine D_l (v := (.p (some (x.n, 0)))) rfl rfl rfl (r_nilc rfl) ?_
        refine D_gk rfl ?_
        refine D_l (v := (.p (some (x.n, 13)))) rfl rfl rfl (r_fadd' rfl rfl) ?_
        refine D_gk rfl ?_
        refine D_r (v := (.i .i64 x.e.st)) rfl rfl rfl (r_ld rfl hH5.get0 rfl) ?_
        refine D_gk rfl ?_
        refine D_l (v := (.b true)) rfl rfl rfl (by exact (by rw [r_eql rfl rfl, decide_eq_true (by omega)])) ?_
        refine D_l (v := (.b true)) rfl rfl rfl (r_pick_t rfl rfl) ?_
        refine D_l (v := (.b true)) rfl rfl rfl (r_mv rfl) ?_
        refine D_gk rfl ?_
        refine D_l (v := (.p (some (x.n, 0)))) rfl rfl rfl (r_mv rfl) ?_
        refine D_gk rfl ?_
        refine D_l (v := (.p (some (x.n, 0)))) rfl rfl rfl (r_nilc rfl) ?_
        refine D_gk rfl ?_
        refine D_l (v := (.p (some (x.n, 14)))) rfl rfl rfl (r_fadd' rfl rfl) ?_
        refine D_gk rfl ?_
        refine D_l (v := (.p (some (x.n, 0)))) rfl rfl rfl (r_mv rfl) ?_
        refine D_gk rfl ?_
        refine D_l (v := (.p (some (x.n, 0)))) rfl rfl rfl (r_nilc rfl) ?_
        refine D_gk rfl ?_
        refine D_l (v := (.p (some (x.n, 12)))) rfl rfl rfl (r_fadd' rfl rfl) ?_
        refine D_gk rfl ?_
        refine D_r (v := (.i .i64 x.e.sent)) rfl rfl rfl (r_ld rfl hH5.get0 rfl) ?_
        refine D_gk rfl ?_
        refine D_r (v := (.p (some (x.m, 0)))) rfl rfl rfl (r_ld rfl hH5.get0 rfl) ?_
        refine D_gk rfl ?_
        refine D_l (v := (.p (some (x.m, 0)))) rfl rfl rfl (r_nilc rfl) ?_
        refine D_gk rfl ?_
        refine D_l (v := (.p (some (x.m, 1)))) rfl rfl rfl (r_fadd' rfl rfl) ?_
        refine D_gk rfl ?_
        refine D_r (v := (.i .i64 p.tr)) rfl rfl rfl (r_ld rfl hH5.get1 rfl) ?_
        refine D_gk rfl ?_
        refine D_l (v := (.b (decide (p.tr < x.e.sent)))) rfl rfl rfl (r_gtr rfl rfl) ?_
        refine D_l (v := (.b (decide (p.tr < x.e.sent)))) rfl rfl rfl (r_pick_t rfl rfl) ?_
        refine D_l (v := (.b (decide (p.tr < x.e.sent)))) rfl rfl rfl (r_mv rfl) ?_
        refine D_nil ?_
        refine C_seq ?_
        refine C_region ?_
        refine O_p (.b (decide (p.un < now))) (r_mv rfl) ?_
        refine O_p (.b (decide (p.un < now))) (r_mv rfl) ?_
        refine O_gx (e := (!(decide (p.un < now)))) (v := (.b (decide (p.tr < x.e.sent)))) (wf rfl) (fun he => (r_mv rfl)) ?_
        refine O_p (.b ((decide (p.un < now)) || (decide (p.tr < x.e.sent)))) (r_pick_or rfl rfl rfl rfl) ?_
        refine O_p (.b ((decide (p.un < now)) || (decide (p.tr < x.e.sent)))) (r_mv rfl) ?_
        refine O_nil ?_
        refine C_ret ?_
        have hH6 := ((hH5.top1).top1)
        exact ⟨.inr rfl, _, resL_one (r_tmp (v := (.b ((decide (p.un < now)) || (decide (p.tr < x.e.sent))))) rfl), by unfold overE; rw [decide_eq_true ha, decide_eq_true hb, decide_eq_true hc2]; first | rfl | (simp only [Bool.true_and, Bool.false_and, Bool.and_true, Bool.and_false, Bool.or_false, Bool.false_or] <;> rfl), hH6⟩
      ·
        refine C_draw fun b7 H8 hbase9 hA10 => ?_
        have hH11 := hH0.keep (by have := hA10.1; omega) (fun q _ => hA10.2 q) ((hH0.old).aside hA10).ok
        refine D_l (v := (.p (some (x.n, 0)))) rfl rfl rfl (r_mv rfl) ?_
        refine D_l (v := (.p (some (x.n, 0)))) rfl rfl rfl (r_nilc rfl) ?_
        refine D_l (v := (.p (some (x.n, 12)))) rfl rfl rfl (r_fadd' rfl rfl) ?_
        refine D_r (v := (.p (some (x.m, 0)))) rfl rfl rfl (r_ld rfl hH11.get0 rfl) ?_
        refine D_l (v := (.p (some (x.m, 0)))) rfl rfl rfl (r_nilc rfl) ?_
        refine D_l (v := (.p (some (x.m, 1)))) rfl rfl rfl (r_fadd' rfl rfl) ?_
        refine D_r (v := (.i .i64 p.tr)) rfl rfl rfl (r_ld rfl hH11.get1 rfl) ?_
        refine D_l (v := (.b true)) rfl rfl rfl (by exact (by rw [r_geq rfl rfl, decide_eq_true (by omega)])) ?_
        refine D_l (v := (.b true)) rfl rfl rfl (r_mv rfl) ?_
        refine D_gk rfl ?_
        refine D_l (v := (.p (some (x.n, 0)))) rfl rfl rfl (r_mv rfl) ?_
        refine D_gk rfl ?_
        refine D_l (v := (.p (some (x.n, 0)))) rfl rfl rfl (r_nilc rfl) ?_
        refine D_gk rfl ?_
        refine D_l (v := (.p (some (x.n, 13)))) rfl rfl rfl (r_fadd' rfl rfl) ?_
        refine D_gk rfl ?_
        refine D_r (v := (.i .i64 x.e.st)) rfl rfl rfl (r_ld rfl hH11.get0 rfl) ?_
        refine D_gk rfl ?_
        refine D_l (v := (.b false)) rfl rfl rfl (by exact (by rw [r_eql rfl rfl, decide_eq_false (by omega)])) ?_
        refine D_l (v := (.b false)) rfl rfl rfl (r_pick_t rfl rfl) ?_
        refine D_l (v := (.b false)) rfl rfl rfl (r_mv rfl) ?_
        refine D_gf rfl ?_
        refine D_gf rfl ?_
        refine D_gf rfl ?_
        refine D_gf rfl ?_
        refine D_gf rfl ?_
        refine D_gf rfl ?_
        refine D_gf rfl ?_
        refine D_gf rfl ?_
        refine D_gf rfl ?_
        refine D_gf rfl ?_
        refine D_gf rfl ?_
        refine D_gf rfl ?_
        refine D_l (v := (.b false)) rfl rfl rfl (r_pick_f rfl rfl) ?_
        refine D_l (v := (.b false)) rfl rfl rfl (r_mv rfl) ?_
        refine D_nil ?_
        refine C_seq ?_
        refine C_region ?_
        refine O_p (.b (decide (p.un < now))) (r_mv rfl) ?_
        refine O_p (.b (decide (p.un < now))) (r_mv rfl) ?_
        refine O_gx (e := (!(decide (p.un < now)))) (v := (.b false)) (wf rfl) (fun he => (r_mv rfl)) ?_
        refine O_p (.b ((decide (p.un < now)) || false)) (r_pick_or rfl rfl rfl rfl) ?_
        refine O_p (.b ((decide (p.un < now)) || false)) (r_mv rfl) ?_
        refine O_nil ?_
        refine C_ret ?_
        have hH12 := ((hH11.top1).top1)
        exact ⟨.inr rfl, _, resL_one (r_tmp (v := (.b ((decide (p.un < now)) || false))) rfl), by unfold overE; rw [decide_eq_true ha, decide_eq_true hb, decide_eq_false hc2]; first | rfl | (simp only [Bool.true_and, Bool.false_and, Bool.and_true, Bool.and_false, Bool.or_false, Bool.false_or] <;> rfl), hH12⟩
    ·
      refine C_draw fun b13 H14 hbase15 hA16 => ?_
      have hH17 := hH0.keep (by have := hA16.1; omega) (fun q _ => hA16.2 q) ((hH0.old).aside hA16).ok
      refine D_l (v := (.p (some (x.n, 0)))) rfl rfl rfl (r_mv rfl) ?_
      refine D_l (v := (.p (some (x.n, 0)))) rfl rfl rfl (r_nilc rfl) ?_
      refine D_l (v := (.p (some (x.n, 12)))) rfl rfl rfl (r_fadd' rfl rfl) ?_
      refine D_r (v := (.p (some (x.m, 0)))) rfl rfl rfl (r_ld rfl hH17.get0 rfl) ?_
      refine D_l (v := (.p (some (x.m, 0)))) rfl rfl rfl (r_nilc rfl) ?_
      refine D_l (v := (.p (some (x.m, 1)))) rfl rfl rfl (r_fadd' rfl rfl) ?_
      refine D_r (v := (.i .i64 p.tr)) rfl rfl rfl (r_ld rfl hH17.get1 rfl) ?_
      refine D_l (v := (.b false)) rfl rfl rfl (by exact (by rw [r_geq rfl rfl, decide_eq_false (by omega)])) ?_
      refine D_l (v := (.b false)) rfl rfl rfl (r_mv rfl) ?_
      refine D_gf rfl ?_
      refine D_gf rfl ?_
      refine D_gf rfl ?_
      refine D_gf rfl ?_
      refine D_gf rfl ?_
      refine D_l (v := (.b false)) rfl rfl rfl (r_pick_f rfl rfl) ?_
      refine D_l (v := (.b false)) rfl rfl rfl (r_mv rfl) ?_
      refine D_gf rfl ?_
      refine D_gf rfl ?_
      refine D_gf rfl ?_
      refine D_gf rfl ?_
      refine D_gf rfl ?_
      refine D_gf rfl ?_
      refine D_gf rfl ?_
      refine D_gf rfl ?_
      refine D_gf rfl ?_
      refine D_gf rfl ?_
      refine D_gf rfl ?_
      refine D_gf rfl ?_
      refine D_l (v := (.b false)) rfl rfl rfl (r_pick_f rfl rfl) ?_
      refine D_l (v := (.b false)) rfl rfl rfl (r_mv rfl) ?_
      refine D_nil ?_
      refine C_seq ?_
      refine C_region ?_
      refine O_p (.b (decide (p.un < now))) (r_mv rfl) ?_
      refine O_p (.b (decide (p.un < now))) (r_mv rfl) ?_
      refine O_gx (e := (!(decide (p.un < now)))) (v := (.b false)) (wf rfl) (fun he => (r_mv rfl)) ?_
      refine O_p (.b ((decide (p.un < now)) || false)) (r_pick_or rfl rfl rfl rfl) ?_
      refine O_p (.b ((decide (p.un < now)) || false)) (r_mv rfl) ?_
      refine O_nil ?_
      refine C_ret ?_
      have hH18 := ((hH17.top1).top1)
      exact ⟨.inr rfl, _, resL_one (r_tmp (v := (.b ((decide (p.un < now)) || false))) rfl), by unfold overE; rw [decide_eq_true ha, decide_eq_false hb]; first | rfl | (simp only [Bool.true_and, Bool.false_and, Bool.and_true, Bool.and_false, Bool.or_false, Bool.false_or] <;> rfl), hH18⟩
  ·
    refine C_region ?_
    refine O_p (.p (some (x.n, 0))) (r_mv rfl) ?_
    refine O_p (.p (some (x.n, 0))) (r_nilc rfl) ?_
    refine O_p (.p (some (x.n, 12))) (r_fadd' rfl rfl) ?_
    refine O_p (.p (some (x.m, 0))) (r_ld rfl hH0.get0 rfl) ?_
    refine O_p (.p (some (x.m, 0))) (r_nilc rfl) ?_
    refine O_p (.p (some (x.m, 0))) (r_fadd' rfl rfl) ?_
    refine O_p (.i .i64 p.un) (r_ld rfl hH0.get1 rfl) ?_
    refine O_p (.b false) (by exact (by rw [r_geq rfl rfl, decide_eq_false (by omega)])) ?_
    refine O_p (.b false) (r_mv rfl) ?_
    refine O_gf rfl ?_
    refine O_gf rfl ?_
    refine O_gf rfl ?_
    refine O_gf rfl ?_
    refine O_gf rfl ?_
    refine O_gf rfl ?_
    refine O_gf rfl ?_
    refine O_gf rfl ?_
    refine O_gf rfl ?_
    refine O_p (.b false) (r_pick_f rfl rfl) ?_
    refine O_p (.b false) (r_mv rfl) ?_
    refine O_nil ?_
    refine C_seq ?_
    by_cases hb : 0 ≤ p.tr
    ·
      by_cases hc2 : x.e.st = 2
      ·
        refine C_draw fun b19 H20 hbase21 hA22 => ?_
        have hH23 := hH0.keep (by have := hA22.1; omega) (fun q _ => hA22.2 q) ((hH0.old).aside hA22).ok
        refine D_l (v := (.p (some (x.n, 0)))) rfl rfl rfl (r_mv rfl) ?_
        refine D_l (v := (.p (some (x.n, 0)))) rfl rfl rfl (r_nilc rfl) ?_
        refine D_l (v := (.p (some (x.n, 12)))) rfl rfl rfl (r_fadd' rfl rfl) ?_
        refine D_r (v := (.p (some (x.m, 0)))) rfl rfl rfl (r_ld rfl hH23.get0 rfl) ?_
        refine D_l (v := (.p (some (x.m, 0)))) rfl rfl rfl (r_nilc rfl) ?_
        refine D_l (v := (.p (some (x.m, 1)))) rfl rfl rfl (r_fadd' rfl rfl) ?_
        refine D_r (v := (.i .i64 p.tr)) rfl rfl rfl (r_ld rfl hH23.get1 rfl) ?_
        refine D_l (v := (.b true)) rfl rfl rfl (by exact (by rw [r_geq rfl rfl, decide_eq_true (by omega)])) ?_
        refine D_l (v := (.b true)) rfl rfl rfl (r_mv rfl) ?_
        refine D_gk rfl ?_
        refine D_l (v := (.p (some (x.n, 0)))) rfl rfl rfl (r_mv rfl) ?_
        refine D_gk rfl ?_
        refine D_l (v := (.p (some (x.n, 0)))) rfl rfl rfl (r_nilc rfl) ?_
        refine D_gk rfl ?_
        refine D_l (v := (.p (some (x.n, 13)))) rfl rfl rfl (r_fadd' rfl rfl) ?_
        refine D_gk rfl ?_
        refine D_r (v := (.i .i64 x.e.st)) rfl rfl rfl (r_ld rfl hH23.get0 rfl) ?_
        refine D_gk rfl ?_
        refine D_l (v := (.b true)) rfl rfl rfl (by exact (by rw [r_eql rfl rfl, decide_eq_true (by omega)])) ?_
        refine D_l (v := (.b true)) rfl rfl rfl (r_pick_t rfl rfl) ?_
        refine D_l (v := (.b true)) rfl rfl rfl (r_mv rfl) ?_
        refine D_gk rfl ?_
        refine D_l (v := (.p (some (x.n, 0)))) rfl rfl rfl (r_mv rfl) ?_
        refine D_gk rfl ?_
        refine D_l (v := (.p (some (x.n, 0)))) rfl rfl rfl (r_nilc rfl) ?_
        refine D_gk rfl ?_
        refine D_l (v := (.p (some (x.n, 14)))) rfl rfl rfl (r_fadd' rfl rfl) ?_
        refine D_gk rfl ?_
        refine D_l (v := (.p (some (x.n, 0)))) rfl rfl rfl (r_mv rfl) ?_
        refine D_gk rfl ?_
        refine D_l (v := (.p (some (x.n, 0)))) rfl rfl rfl (r_nilc rfl) ?_
        refine D_gk rfl ?_
        refine D_l (v := (.p (some (x.n, 12)))) rfl rfl rfl (r_fadd' rfl rfl) ?_
        refine D_gk rfl ?_
        refine D_r (v := (.i .i64 x.e.sent)) rfl rfl rfl (r_ld rfl hH23.get0 rfl) ?_
        refine D_gk rfl ?_
        refine D_r (v := (.p (some (x.m, 0)))) rfl rfl rfl (r_ld rfl hH23.get0 rfl) ?_
        refine D_gk rfl ?_
        refine D_l (v := (.p (some (x.m, 0)))) rfl rfl rfl (r_nilc rfl) ?_
        refine D_gk rfl ?_
        refine D_l (v := (.p (some (x.m, 1)))) rfl rfl rfl (r_fadd' rfl rfl) ?_
        refine D_gk rfl ?_
        refine D_r (v := (.i .i64 p.tr)) rfl rfl rfl (r_ld rfl hH23.get1 rfl) ?_
        refine D_gk rfl ?_
        refine D_l (v := (.b (decide (p.tr < x.e.sent)))) rfl rfl rfl (r_gtr rfl rfl) ?_
        refine D_l (v := (.b (decide (p.tr < x.e.sent)))) rfl rfl rfl (r_pick_t rfl rfl) ?_
        refine D_l (v := (.b (decide (p.tr < x.e.sent)))) rfl rfl rfl (r_mv rfl) ?_
        refine D_nil ?_
        refine C_seq ?_
        refine C_region ?_
        refine O_p (.b false) (r_mv rfl) ?_
        refine O_p (.b false) (r_mv rfl) ?_
        refine O_gk rfl ?_
        refine O_p (.b (decide (p.tr < x.e.sent))) (r_mv rfl) ?_
        refine O_p (.b (decide (p.tr < x.e.sent))) (r_pick_f rfl rfl) ?_
        refine O_p (.b (decide (p.tr < x.e.sent))) (r_mv rfl) ?_
        refine O_nil ?_
        refine C_ret ?_
        have hH24 := ((hH23.top1).top1)
        exact ⟨.inr rfl, _, resL_one (r_tmp (v := (.b (decide (p.tr < x.e.sent)))) rfl), by unfold overE; rw [decide_eq_false ha, decide_eq_true hb, decide_eq_true hc2]; first | rfl | (simp only [Bool.true_and, Bool.false_and, Bool.and_true, Bool.and_false, Bool.or_false, Bool.false_or] <;> rfl), hH24⟩
      ·
        refine C_draw fun b25 H26 hbase27 hA28 => ?_
        have hH29 := hH0.keep (by have := hA28.1; omega) (fun q _ => hA28.2 q) ((hH0.old).aside hA28).ok
        refine D_l (v := (.p (some (x.n, 0)))) rfl rfl rfl (r_mv rfl) ?_
        refine D_l (v := (.p (some (x.n, 0)))) rfl rfl rfl (r_nilc rfl) ?_
        refine D_l (v := (.p (some (x.n, 12)))) rfl rfl rfl (r_fadd' rfl rfl) ?_
        refine D_r (v := (.p (some (x.m, 0)))) rfl rfl rfl (r_ld rfl hH29.get0 rfl) ?_
        refine D_l (v := (.p (some (x.m, 0)))) rfl rfl rfl (r_nilc rfl) ?_
        refine D_l (v := (.p (some (x.m, 1)))) rfl rfl rfl (r_fadd' rfl rfl) ?_
        refine D_r (v := (.i .i64 p.tr)) rfl rfl rfl (r_ld rfl hH29.get1 rfl) ?_
        refine D_l (v := (.b true)) rfl rfl rfl (by exact (by rw [r_geq rfl rfl, decide_eq_true (by omega)])) ?_
        refine D_l (v := (.b true)) rfl rfl rfl (r_mv rfl) ?_
        refine D_gk rfl ?_
        refine D_l (v := (.p (some (x.n, 0)))) rfl rfl rfl (r_mv rfl) ?_
        refine D_gk rfl ?_
        refine D_l (v := (.p (some (x.n, 0)))) rfl rfl rfl (r_nilc rfl) ?_
        refine D_gk rfl ?_
        refine D_l (v := (.p (some (x.n, 13)))) rfl rfl rfl (r_fadd' rfl rfl) ?_
        refine D_gk rfl ?_
        refine D_r (v := (.i .i64 x.e.st)) rfl rfl rfl (r_ld rfl hH29.get0 rfl) ?_
        refine D_gk rfl ?_
        refine D_l (v := (.b false)) rfl rfl rfl (by exact (by rw [r_eql rfl rfl, decide_eq_false (by omega)])) ?_
        refine D_l (v := (.b false)) rfl rfl rfl (r_pick_t rfl rfl) ?_
        refine D_l (v := (.b false)) rfl rfl rfl (r_mv rfl) ?_
        refine D_gf rfl ?_
        refine D_gf rfl ?_
        refine D_gf rfl ?_
        refine D_gf rfl ?_
        refine D_gf rfl ?_
        refine D_gf rfl ?_
        refine D_gf rfl ?_
        refine D_gf rfl ?_
        refine D_gf rfl ?_
        refine D_gf rfl ?_
        refine D_gf rfl ?_
        refine D_gf rfl ?_
        refine D_l (v := (.b false)) rfl rfl rfl (r_pick_f rfl rfl) ?_
        refine D_l (v := (.b false)) rfl rfl rfl (r_mv rfl) ?_
        refine D_nil ?_
        refine C_seq ?_
        refine C_region ?_
        refine O_p (.b false) (r_mv rfl) ?_
        refine O_p (.b false) (r_mv rfl) ?_
        refine O_gk rfl ?_
        refine O_p (.b false) (r_mv rfl) ?_
        refine O_p (.b false) (r_pick_f rfl rfl) ?_
        refine O_p (.b false) (r_mv rfl) ?_
        refine O_nil ?_
        refine C_ret ?_
        have hH30 := ((hH29.top1).top1)
        exact ⟨.inr rfl, _, resL_one (r_tmp (v := (.b false)) rfl), by unfold overE; rw [decide_eq_false ha, decide_eq_true hb, decide_eq_false hc2]; first | rfl | (simp only [Bool.true_and, Bool.false_and, Bool.and_true, Bool.and_false, Bool.or_false, Bool.false_or] <;> rfl), hH30⟩
    ·
      refine C_draw fun b31 H32 hbase33 hA34 => ?_
      have hH35 := hH0.keep (by have := hA34.1; omega) (fun q _ => hA34.2 q) ((hH0.old).aside hA34).ok
      refine D_l (v := (.p (some (x.n, 0)))) rfl rfl rfl (r_mv rfl) ?_
      refine D_l (v := (.p (some (x.n, 0)))) rfl rfl rfl (r_nilc rfl) ?_
      refine D_l (v := (.p (some (x.n, 12)))) rfl rfl rfl (r_fadd' rfl rfl) ?_
      refine D_r (v := (.p (some (x.m, 0)))) rfl rfl rfl (r_ld rfl hH35.get0 rfl) ?_
      refine D_l (v := (.p (some (x.m, 0)))) rfl rfl rfl (r_nilc rfl) ?_
      refine D_l (v := (.p (some (x.m, 1)))) rfl rfl rfl (r_fadd' rfl rfl) ?_
      refine D_r (v := (.i .i64 p.tr)) rfl rfl rfl (r_ld rfl hH35.get1 rfl) ?_
      refine D_l (v := (.b false)) rfl rfl rfl (by exact (by rw [r_geq rfl rfl, decide_eq_false (by omega)])) ?_
      refine D_l (v := (.b false)) rfl rfl rfl (r_mv rfl) ?_
      refine D_gf rfl ?_
      refine D_gf rfl ?_
      refine D_gf rfl ?_
      refine D_gf rfl ?_
      refine D_gf rfl ?_
      refine D_l (v := (.b false)) rfl rfl rfl (r_pick_f rfl rfl) ?_
      refine D_l (v := (.b false)) rfl rfl rfl (r_mv rfl) ?_
      refine D_gf rfl ?_
      refine D_gf rfl ?_
      refine D_gf rfl ?_
      refine D_gf rfl ?_
      refine D_gf rfl ?_
      refine D_gf rfl ?_
      refine D_gf rfl ?_
      refine D_gf rfl ?_
      refine D_gf rfl ?_
      refine D_gf rfl ?_
      refine D_gf rfl ?_
      refine D_gf rfl ?_
      refine D_l (v := (.b false)) rfl rfl rfl (r_pick_f rfl rfl) ?_
      refine D_l (v := (.b false)) rfl rfl rfl (r_mv rfl) ?_
      refine D_nil ?_
      refine C_seq ?_
      refine C_region ?_
      refine O_p (.b false) (r_mv rfl) ?_
      refine O_p (.b false) (r_mv rfl) ?_
      refine O_gk rfl ?_
      refine O_p (.b false) (r_mv rfl) ?_
      refine O_p (.b false) (r_pick_f rfl rfl) ?_
      refine O_p (.b false) (r_mv rfl) ?_
      refine O_nil ?_
      refine C_ret ?_
      have hH36 := ((hH35.top1).top1)
      exact ⟨.inr rfl, _, resL_one (r_tmp (v := (.b false)) rfl), by unfold overE; rw [decide_eq_false ha, decide_eq_false hb]; first | rfl | (simp only [Bool.true_and, Bool.false_and, Bool.and_true, Bool.and_false, Bool.or_false, Bool.false_or] <;> rfl), hH36⟩
theorem mp_step {q : List En} {mp : List Nat} {j : Nat} {x : En} (h : ∀ k, k ∈ mp ↔ ∃ i x, i < j ∧ q[i]? = some x ∧ x.e.st ∈ [0, 1, 2] ∧ x.m = k) (hx : q[j]? = some x) (hs : x.e.st ∈ [0, 1, 2]) : ∀ k, k ∈ (if x.m ∈ mp then mp else mp ++ [x.m]) ↔ ∃ i y, i < j + 1 ∧ q[i]? = some y ∧ y.e.st ∈ [0, 1, 2] ∧ y.m = k := fun k => by
  have hm : k ∈ (if x.m ∈ mp then mp else mp ++ [x.m]) ↔ k ∈ mp ∨ k = x.m := by
    split
    · rename_i h9; exact ⟨.inl, fun h8 => by rcases h8 with h8 | rfl; exact h8; exact h9⟩
    · rw [List.mem_append, List.mem_singleton]
  rw [hm, h k]
  constructor
  · rintro (⟨i, y, h1, h2⟩ | rfl)
    · exact ⟨i, y, by omega, h2⟩
    · exact ⟨j, x, by omega, hx, hs, rfl⟩
  · rintro ⟨i, y, h1, h2, h3, h4⟩
    rcases Nat.lt_succ_iff_lt_or_eq.1 h1 with h9 | rfl
    · exact .inl ⟨i, y, h9, h2, h3, h4⟩
    · rw [hx] at h2; cases h2; exact .inr h4.symm

set_option maxHeartbeats 2000000 in
theorem expire_raw {H : AH} {R D : HL} {F : Nat} {lv : AV} {lc : List AV} {nx : Int} {q : List En} {pl : List Po} {now : Int} (hlv : Sq 1 lv lc (q.map En.pr).flatten) (hql : q.length ≤ 100000) (hok : ∀ x ∈ q, OctIn D x.dv x.e.c.d) (hpo : ∀ x ∈ q, ∃ p ∈ pl, p.m = x.m) (hH0 : Hs H ([(F, some (.cells ([lv, (.i .u32 nx)]) true))] ++ ((qseg lv lc) ++ ((q.flatMap En.seg) ++ ((pl.flatMap Po.seg) ++ (R)))))) : Ev tabA spA (.fn (.func 26) [] []) [.p (some (F, 0)), .i .i64 now] H (fun r H' => ∃ (mp : List Nat) (pl2 : List Po) (n2 : Nat) (q1 : List En), r = .i .i64 ((n2 : Nat) : Int) ∧ (∀ k, k ∈ mp ↔ ∃ (i : Nat) (x : En), q[i]? = some x ∧ x.e.st ∈ [0, 1, 2] ∧ x.m = k) ∧ q.foldl (exStep mp now) (pl, 0) = (pl2, n2) ∧ pl2.map Po.m = pl.map Po.m ∧ q1 = q.map (exN pl2) ∧ q1.map En.nm = q.map En.nm ∧ (∀ x ∈ q1, OctIn D x.dv x.e.c.d) ∧ Hs H' ([(F, some (.cells ([lv, (.i .u32 nx)]) true))] ++ ((qseg lv lc) ++ ((q1.flatMap En.seg) ++ ((pl2.flatMap Po.seg) ++ (R)))))) := by
  refine Ev_C (F := x26) rfl ?_
  refine C_seq ?_
  refine C_region ?_
  refine O_box (z := [(.i .i64 now)]) rfl fun n1 H2 hN3 => ?_
  have hH4 := hH0.new hN3
  refine O_p (.i .i64 0) (r_mv rfl) ?_
  refine O_nil ?_
  refine C_seq ?_
  refine C_region ?_
  refine O_alloc fun n5 H6 hN7 => ?_
  have hH8 := hH4.new hN7
  refine O_store (vs := [(.i .i64 0)]) (c' := [(.i .i64 0)]) rfl (by rfl) hH8.get0 rfl (List.cons_ne_nil _ _) (Nat.le_of_ble_eq_true rfl) rfl fun H9 hW10 => ?_
  have hH11 := hH8.wr0 hW10
  refine O_nil ?_
  refine C_seq ?_
  refine C_region ?_
  refine O_mkmap fun n12 H13 hN14 => ?_
  have hH15 := hH11.new hN14
  refine O_alloc fun n16 H17 hN18 => ?_
  have hH19 := hH15.new hN18
  refine O_store (vs := [(.m (some n12))]) (c' := [(.m (some n12))]) rfl (by rfl) hH19.get0 rfl (List.cons_ne_nil _ _) (Nat.le_of_ble_eq_true rfl) rfl fun H20 hW21 => ?_
  have hH22 := hH19.wr0 hW21
  refine O_nil ?_
  refine C_seq ?_
  refine C_seq ?_
  refine C_region ?_
  refine O_p (.p (some (F, 0))) (r_mv rfl) ?_
  refine O_bslice (c := [(.i .i64 0), (.i .i64 1), (.i .i64 2)]) rfl fun n23 H24 hN25 => ?_
  have hH26 := hH22.new hN25
  refine O_call (Ev.mono (in_ev (F := F) (sb := n23) (ss := [0, 1, 2]) hH26) fun v27 H28 hq29 => ?_)
  obtain ⟨b30, b31, rfl, hH32⟩ := hq29
  refine O_nil ?_
  refine C_block ?_
  refine C_rangeFn (g := 59) (first := []) (cap := [.p (some (b30, 0)), .p (some (b31, 0))]) rfl fun Tx L HLL hTx hNL0 => ?_
  obtain ⟨LB, hLB, hNL⟩ := hNL0.loop
  have hH33 := hH32.new hNL
  have hH34 := ((((((((((((hH33.top11).top6).top6).top7).top8).top5).top11).top11).top11).top11).top11).top11)
  refine Ev.mono (in1_ev (F := F) (sb := n23) (nx := nx) (ss := [0, 1, 2]) (q0 := q) hlv hql (by decide) (fun j HH => ∃ (mp : List Nat), ∃ (bm : Blk), (Mp mp bm) ∧ (∀ k ∈ mp, ∃ p ∈ pl, p.m = k) ∧ (∀ k, k ∈ mp ↔ ∃ i x, i < j ∧ q[i]? = some x ∧ x.e.st ∈ [0, 1, 2] ∧ x.m = k) ∧ Hs HH ([(b30, some (.cells ([(.p (some (F, 0)))]) true))] ++ ([(b31, some (.cells ([(.sl (some (n23, 0)) [0, 1, 2].length [0, 1, 2].length 0)]) true))] ++ ([(n23, some (.cells ([0, 1, 2].map fun z => AV.i IntKind.i64 z) true))] ++ ([(F, some (.cells ([lv, (.i .u32 nx)]) true))] ++ ((qseg lv lc) ++ ((q.flatMap En.seg) ++ ([(L, some LB)] ++ ([(n1, some (.cells ([(.i .i64 now)]) true))] ++ ([(n5, some (.cells ([(.i .i64 0)]) true))] ++ ([(n16, some (.cells ([(.m (some n12))]) true))] ++ ([(n12, some bm)] ++ ((pl.flatMap Po.seg) ++ (R)))))))))))))) (fun HH => False) ?_ ?_ ?_ ?_ ?_) fun v2 HE hE => ?_
  · exact ⟨[], .map [] 0, Mp.nil, (fun k hk => by cases hk), (fun k => ⟨(fun h => by cases h), fun ⟨i, x, h, _⟩ => absurd h (Nat.not_lt_zero _)⟩), hH34⟩
  · rintro j H1 ⟨mp, bm, hq0, hq1, hq2, hh⟩
    exact ⟨q, _, rfl, (fun _ _ => rfl), hh⟩
  · rintro j H1 H2 hn hk2 hok ⟨mp, bm, hq0, hq1, hq2, hh⟩
    exact ⟨mp, bm, hq0, hq1, hq2, hh.keep hn hk2 hok⟩
  · rintro j H1 e0 h0j hst ⟨mp, bm, hq0, hq1, hq2, hh⟩
    refine ⟨mp, bm, hq0, hq1, fun k => (hq2 k).trans ⟨fun ⟨i, x, h1, h2⟩ => ⟨i, x, by omega, h2⟩, fun ⟨i, x, h1, h2, h3, h4⟩ => ⟨i, x, by rcases Nat.lt_succ_iff_lt_or_eq.1 h1 with h9 | rfl; exact h9; rw [h0j] at h2; cases h2; exact absurd h3 hst, h2, h3, h4⟩⟩, hh⟩
  ·
    rintro j HH e0 h0j hst ⟨mp, bm, hq0, hq1, hq2, hHb⟩
    have hjl : j < q.length := (List.getElem?_eq_some_iff.1 h0j).1
    obtain ⟨x, hxj, hxn, hxe⟩ := en_same (q := q) rfl ((fun _ _ => rfl) j (Nat.le_refl _)) h0j
    rw [← hxn]
    refine Ev_yield ((hHb.get6).trans (congrArg some hLB)) rfl ?_
    refine C.te ?_ (hTx.cons 14 _)
    have hpx := hpo x (List.mem_of_getElem? hxj)
    have hH35 := (hHb.top5)
    have hH36 := En.out hxj hH35
    refine C_region ?_
    refine O_p (.p (some (x.n, 0))) (r_mv rfl) ?_
    refine O_nil ?_
    refine ⟨rfl, _, _, _, _, _, (hH36.get7).trans (congrArg some hLB), fun H2 hWb => ?_⟩
    have hH37 := hH36.wr7 hWb
    refine C_block ?_
    refine C_draw fun b38 H39 hbase40 hA41 => ?_
    have hH42 := hH37.keep (by have := hA41.1; omega) (fun q _ => hA41.2 q) ((hH37.old).aside hA41).ok
    refine D_l (v := (.p (some (x.n, 0)))) rfl rfl rfl (r_mv rfl) ?_
    refine D_l (v := (.p (some (x.n, 0)))) rfl rfl rfl (r_nilc rfl) ?_
    refine D_l (v := (.p (some (x.n, 12)))) rfl rfl rfl (r_fadd' rfl rfl) ?_
    refine D_r (v := (.m (some n12))) rfl rfl rfl (r_ld rfl hH42.get10 rfl) ?_
    refine D_r (v := (.p (some (x.m, 0)))) rfl rfl rfl (r_ld rfl hH42.get0 rfl) ?_
    refine D_nh rfl rfl (by exact r_pput hH42.top11 hq0 rfl rfl rfl (apart_full hpx hq1 hH42.top12)) fun H43 hA44 => ?_
    obtain ⟨bm45, hMb46, hH47⟩ := hA44
    refine And.intro (And.intro (Or.inl rfl) (And.intro (Or.inl rfl) True.intro)) ?_
    refine D_nil ?_
    refine ⟨_, _, _, _, _, (hH47.get8), fun H4 hWr => ?_⟩
    have hH48 := Hs.cong8 (B := [(L, some LB)]) (hH47.wr8 hWr) (by rw [hLB]; rfl)
    have hH49 := ((hH48.top2).top2)
    have hH50 := En.back0 hxj hH49
    have hH51 := ((((((((((((hH50.top11).top2).top11).top11).top11).top11).top6).top11).top11).top11).top11).top11)
    exact ⟨_, rfl, fun _ => ⟨_, bm45, hMb46, fun k hk => by split at hk; exact hq1 k hk; rcases List.mem_append.1 hk with h9 | h9; exact hq1 k h9; rw [List.mem_singleton.1 h9]; exact hpx, mp_step hq2 hxj (by rw [hxe]; exact hst), hH51⟩, fun h => by cases h⟩
  rcases hE with hE | hE
  ·
    obtain ⟨mp, bm, hq0, hq1, hq2, hHE⟩ := hE
    refine ⟨.ready, none, _, _, _, _, (hHE.get6).trans (congrArg some hLB), by decide, fun HD hD => ?_⟩
    have hH52 := hHE.drp6 hD
    have hmpA := hq1
    have hmpM := hq0
    have hmpI := hq2
    refine C_seq ?_
    refine C_seq ?_
    refine C_region ?_
    refine O_p (.p (some (F, 0))) (r_mv rfl) ?_
    refine O_bslice (c := [(.i .i64 0), (.i .i64 1), (.i .i64 2), (.i .i64 3)]) rfl fun n53 H54 hN55 => ?_
    have hH56 := hH52.new hN55
    refine O_call (Ev.mono (in_ev (F := F) (sb := n53) (ss := [0, 1, 2, 3]) hH56) fun v57 H58 hq59 => ?_)
    obtain ⟨b60, b61, rfl, hH62⟩ := hq59
    refine O_nil ?_
    refine C_block ?_
    refine C_rangeFn (g := 59) (first := []) (cap := [.p (some (b60, 0)), .p (some (b61, 0))]) rfl fun Tx L HLL hTx hNL0 => ?_
    obtain ⟨LB, hLB, hNL⟩ := hNL0.loop
    have hH63 := hH62.new hNL
    have hH64 := (((hH63.sub4).sub4).sub4)
    have hH65 := ((((((((((((hH64.top11).top11).top11).top11).top11).top5).top11).top11).top11).top11).top11).top11)
    refine Ev.mono (in1_ev (F := F) (sb := n53) (nx := nx) (ss := [0, 1, 2, 3]) (q0 := q) hlv hql (by decide) (fun j HH => ∃ (pl1 : List Po), ∃ (nn : Nat), ((q.take j).foldl (exStep mp now) (pl, 0) = (pl1, nn)) ∧ (pl1.map Po.m = pl.map Po.m) ∧ (nn ≤ j) ∧ Hs HH ([(b60, some (.cells ([(.p (some (F, 0)))]) true))] ++ ([(b61, some (.cells ([(.sl (some (n53, 0)) [0, 1, 2, 3].length [0, 1, 2, 3].length 0)]) true))] ++ ([(n53, some (.cells ([0, 1, 2, 3].map fun z => AV.i IntKind.i64 z) true))] ++ ([(F, some (.cells ([lv, (.i .u32 nx)]) true))] ++ ((qseg lv lc) ++ ((q.flatMap En.seg) ++ ([(L, some LB)] ++ ([(n1, some (.cells ([(.i .i64 now)]) true))] ++ ([(n5, some (.cells ([(.i .i64 (((nn : Nat)) : Int))]) true))] ++ ([(n16, some (.cells ([(.m (some n12))]) true))] ++ ([(n12, some bm)] ++ ((pl1.flatMap Po.seg) ++ (R)))))))))))))) (fun HH => False) ?_ ?_ ?_ ?_ ?_) fun v2 HE hE => ?_
    · exact ⟨pl, 0, rfl, rfl, Nat.le_refl _, hH65⟩
    · rintro j H1 ⟨pl1, nn, hq0, hq1, hq2, hh⟩
      exact ⟨q, _, rfl, (fun _ _ => rfl), hh⟩
    · rintro j H1 H2 hn hk2 hok ⟨pl1, nn, hq0, hq1, hq2, hh⟩
      exact ⟨pl1, nn, hq0, hq1, hq2, hh.keep hn hk2 hok⟩
    · rintro j H1 e0 h0j hst ⟨pl1, nn, hq0, hq1, hq2, hh⟩
      refine ⟨pl1, nn, by rw [ex_foldl h0j, exStep_st hst]; exact hq0, hq1, Nat.le_trans hq2 (Nat.le_succ _), hh⟩
    ·
      rintro j HH e0 h0j hst ⟨pl1, nn, hq0, hq1, hq2, hHb⟩
      have hjl : j < q.length := (List.getElem?_eq_some_iff.1 h0j).1
      obtain ⟨x, hxj, hxn, hxe⟩ := en_same (q := q) rfl ((fun _ _ => rfl) j (Nat.le_refl _)) h0j
      rw [← hxn]
      refine Ev_yield ((hHb.get6).trans (congrArg some hLB)) rfl ?_
      refine C.te ?_ (hTx.cons 23 _)
      have hpx := po_ms hq1 (hpo x (List.mem_of_getElem? hxj))
      obtain ⟨p, hpk, hpm⟩ := po_at hpx
      have hst1 : x.e.st ∈ [0, 1, 2, 3] := by rw [hxe]; exact hst
      have hH66 := (hHb.top5)
      have hH67 := En.out hxj hH66
      refine C_region ?_
      refine O_p (.p (some (x.n, 0))) (r_mv rfl) ?_
      refine O_nil ?_
      refine ⟨rfl, _, _, _, _, _, (hH67.get7).trans (congrArg some hLB), fun H2 hWb => ?_⟩
      have hH68 := hH67.wr7 hWb
      refine C_block ?_
      refine C_seq ?_
      by_cases hmem : x.m ∈ mp
      ·
        by_cases hgv : p.gv = true
        ·
          refine C_draw fun b69 H70 hbase71 hA72 => ?_
          have hH73 := hH68.keep (by have := hA72.1; omega) (fun q _ => hA72.2 q) ((hH68.old).aside hA72).ok
          refine D_l (v := (.p (some (x.n, 0)))) rfl rfl rfl (r_mv rfl) ?_
          refine D_l (v := (.p (some (x.n, 0)))) rfl rfl rfl (r_nilc rfl) ?_
          refine D_l (v := (.p (some (x.n, 12)))) rfl rfl rfl (r_fadd' rfl rfl) ?_
          refine D_r (v := (.m (some n12))) rfl rfl rfl (r_ld rfl hH73.get10 rfl) ?_
          refine D_r (v := (.p (some (x.m, 0)))) rfl rfl rfl (r_ld rfl hH73.get0 rfl) ?_
          refine D_r (v := (.b true)) rfl rfl rfl (by exact ((r_pget hH73.get11 hmpM rfl rfl (apart_full hpx (fun k hk => po_ms hq1 (hmpA k hk)) hH73.top12)).trans (by rw [decide_eq_true hmem]))) ?_
          refine D_l (v := (.b true)) rfl rfl rfl (r_mv rfl) ?_
          refine D_gk rfl ?_
          refine D_l (v := (.p (some (x.n, 0)))) rfl rfl rfl (r_mv rfl) ?_
          refine D_gk rfl ?_
          refine D_l (v := (.p (some (x.n, 0)))) rfl rfl rfl (r_nilc rfl) ?_
          refine D_gk rfl ?_
          refine D_l (v := (.p (some (x.n, 12)))) rfl rfl rfl (r_fadd' rfl rfl) ?_
          refine D_gk rfl ?_
          refine D_r (v := (.p (some (x.m, 0)))) rfl rfl rfl (r_ld rfl hH73.get0 rfl) ?_
          refine D_gk rfl ?_
          refine D_l (v := (.p (some (x.m, 0)))) rfl rfl rfl (r_nilc rfl) ?_
          have hH74 := (hH73.top12)
          have hH75 := Po.out hpk hH74
          rw [hpm] at hH75
          refine D_gk rfl ?_
          refine D_l (v := (.p (some (x.m, 2)))) rfl rfl rfl (r_fadd' rfl rfl) ?_
          refine D_gk rfl ?_
          refine D_r (v := (.b true)) rfl rfl rfl (by exact (((r_ld rfl hH75.get0 rfl)).trans (by rw [hgv]))) ?_
          refine D_gk rfl ?_
          refine D_l (v := (.b false)) rfl rfl rfl (r_un rfl rfl) ?_
          refine D_l (v := (.b false)) rfl rfl rfl (r_pick_t rfl rfl) ?_
          refine D_l (v := (.b false)) rfl rfl rfl (r_mv rfl) ?_
          refine D_gf rfl ?_
          refine D_gf rfl ?_
          refine D_gf rfl ?_
          refine D_l (v := (.b false)) rfl rfl rfl (r_pick_f rfl rfl) ?_
          refine D_nil ?_
          refine C_cond (x := false) rfl (fun h => by cases h) (fun _ => ?_)
          refine C_skip ?_
          refine ⟨_, _, _, _, _, (hH75.get9), fun H4 hWr => ?_⟩
          have hH76 := Hs.cong9 (B := [(L, some LB)]) (hH75.wr9 hWr) (by rw [hLB]; rfl)
          have hH77 := ((hH76.top1).top1)
          have hH78 := Po.back0 hpk (by rw [hpm]; exact hH77)
          have hH79 := ((hH78.top2).top2)
          have hH80 := En.back0 hxj hH79
          have hH81 := ((((((((((((hH80.top1).top11).top11).top11).top11).top11).top6).top11).top11).top11).top11).top11)
          have hex := exStep_no (mp := mp) (now := now) (s := (pl1, nn)) hpk (fun h9 => by rw [hgv] at h9; cases h9.1)
          exact ⟨_, rfl, fun _ => ⟨pl1, nn, by rw [ex_foldl hxj, hq0, hex], hq1, Nat.le_trans hq2 (Nat.le_succ _), hH81⟩, fun h => by cases h⟩
        ·
          have hgv : p.gv = false := by simpa using hgv
          by_cases hov : overE now x.e p = true
          ·
            refine C_draw fun b82 H83 hbase84 hA85 => ?_
            have hH86 := hH68.keep (by have := hA85.1; omega) (fun q _ => hA85.2 q) ((hH68.old).aside hA85).ok
            refine D_l (v := (.p (some (x.n, 0)))) rfl rfl rfl (r_mv rfl) ?_
            refine D_l (v := (.p (some (x.n, 0)))) rfl rfl rfl (r_nilc rfl) ?_
            refine D_l (v := (.p (some (x.n, 12)))) rfl rfl rfl (r_fadd' rfl rfl) ?_
            refine D_r (v := (.m (some n12))) rfl rfl rfl (r_ld rfl hH86.get10 rfl) ?_
            refine D_r (v := (.p (some (x.m, 0)))) rfl rfl rfl (r_ld rfl hH86.get0 rfl) ?_
            refine D_r (v := (.b true)) rfl rfl rfl (by exact ((r_pget hH86.get11 hmpM rfl rfl (apart_full hpx (fun k hk => po_ms hq1 (hmpA k hk)) hH86.top12)).trans (by rw [decide_eq_true hmem]))) ?_
            refine D_l (v := (.b true)) rfl rfl rfl (r_mv rfl) ?_
            refine D_gk rfl ?_
            refine D_l (v := (.p (some (x.n, 0)))) rfl rfl rfl (r_mv rfl) ?_
            refine D_gk rfl ?_
            refine D_l (v := (.p (some (x.n, 0)))) rfl rfl rfl (r_nilc rfl) ?_
            refine D_gk rfl ?_
            refine D_l (v := (.p (some (x.n, 12)))) rfl rfl rfl (r_fadd' rfl rfl) ?_
            refine D_gk rfl ?_
            refine D_r (v := (.p (some (x.m, 0)))) rfl rfl rfl (r_ld rfl hH86.get0 rfl) ?_
            refine D_gk rfl ?_
            refine D_l (v := (.p (some (x.m, 0)))) rfl rfl rfl (r_nilc rfl) ?_
            have hH87 := (hH86.top12)
            have hH88 := Po.out hpk hH87
            rw [hpm] at hH88
            refine D_gk rfl ?_
            refine D_l (v := (.p (some (x.m, 2)))) rfl rfl rfl (r_fadd' rfl rfl) ?_
            refine D_gk rfl ?_
            refine D_r (v := (.b false)) rfl rfl rfl (by exact (((r_ld rfl hH88.get0 rfl)).trans (by rw [hgv]))) ?_
            refine D_gk rfl ?_
            refine D_l (v := (.b true)) rfl rfl rfl (r_un rfl rfl) ?_
            refine D_l (v := (.b true)) rfl rfl rfl (r_pick_t rfl rfl) ?_
            refine D_l (v := (.b true)) rfl rfl rfl (r_mv rfl) ?_
            refine D_gk rfl ?_
            refine D_l (v := (.p (some (x.n, 0)))) rfl rfl rfl (r_mv rfl) ?_
            refine D_gk rfl ?_
            refine D_r (v := (.i .i64 now)) rfl rfl rfl (r_ld rfl hH88.get10 rfl) ?_
            refine D_gk rfl ?_
            have hH89 := (hH88.top2)
            have hH90 := ((hH89.top1).top1)
            refine D_call (Ev.mono (over_ev hH90) fun v91 H92 hq93 => ?_)
            rw [hov] at hq93
            obtain ⟨rfl, hH94⟩ := hq93
            refine And.intro (And.intro (Or.inl rfl) (And.intro (Or.inl rfl) (And.intro (Or.inl rfl) (And.intro (Or.inl rfl) (And.intro (Or.inl rfl) (And.intro (Or.inl rfl) True.intro)))))) ?_
            refine D_l (v := (.b true)) rfl rfl rfl (r_pick_t rfl rfl) ?_
            refine D_nil ?_
            refine C_cond (x := true) rfl (fun _ => ?_) (fun h => by cases h)
            refine C_seq ?_
            refine C_region ?_
            refine O_p (.p (some (x.n, 0))) (r_mv rfl) ?_
            refine O_p (.p (some (x.n, 0))) (r_nilc rfl) ?_
            refine O_p (.p (some (x.n, 12))) (r_fadd' rfl rfl) ?_
            refine O_p (.p (some (x.m, 0))) (r_ld rfl hH94.get0 rfl) ?_
            refine O_p (.p (some (x.m, 0))) (r_nilc rfl) ?_
            refine O_p (.p (some (x.m, 2))) (r_fadd' rfl rfl) ?_
            refine O_store (vs := [(.b true)]) (c' := [(.i .i64 p.un), (.i .i64 p.tr), (.b true)]) rfl (by rfl) hH94.get1 rfl (List.cons_ne_nil _ _) (Nat.le_of_ble_eq_true rfl) rfl fun H95 hW96 => ?_
            have hH97 := hH94.wr1 hW96
            refine O_nil ?_
            refine C_region ?_
            refine O_p (.i .i64 (((nn : Nat)) : Int)) (r_ld rfl hH97.get11 rfl) ?_
            refine O_p (.i .i64 ((((nn : Nat)) : Int) + 1)) (by exact (r_addi rfl rfl (wrap_i64 (by omega) (by omega)))) ?_
            refine O_store (vs := [(.i .i64 ((((nn : Nat)) : Int) + 1))]) (c' := [(.i .i64 ((((nn : Nat)) : Int) + 1))]) rfl (by rfl) hH97.get11 rfl (List.cons_ne_nil _ _) (Nat.le_of_ble_eq_true rfl) rfl fun H98 hW99 => ?_
            have hH100 := hH97.wr11 hW99
            refine O_nil ?_
            refine ⟨_, _, _, _, _, (hH100.get9), fun H4 hWr => ?_⟩
            have hH101 := Hs.cong9 (B := [(L, some LB)]) (hH100.wr9 hWr) (by rw [hLB]; rfl)
            have hH102 := ((hH101.top2).top2)
            have hH103 := Po.back (p2 := ⟨p.m, p.un, p.tr, true⟩) hpk (by rw [hpm]; exact hH102)
            have hH104 := ((hH103.top2).top2)
            have hH105 := En.back0 hxj hH104
            have hH106 := ((((((((((((hH105.top1).top11).top11).top11).top11).top11).top6).top11).top11).top11).top11).top11)
            have hex := exStep_yes (mp := mp) (now := now) (s := (pl1, nn)) hst1 hmem hpk hgv hov
            exact ⟨_, rfl, fun _ => ⟨(pl1.set (pl1.findIdx (pmP x.m)) ⟨p.m, p.un, p.tr, true⟩), nn + 1, by rw [ex_foldl hxj, hq0, hex], (set_ms (p2 := ⟨p.m, p.un, p.tr, true⟩) hpk rfl).trans hq1, Nat.succ_le_succ hq2, hH106⟩, fun h => by cases h⟩
          ·
            have hov : overE now x.e p = false := by simpa using hov
            refine C_draw fun b107 H108 hbase109 hA110 => ?_
            have hH111 := hH68.keep (by have := hA110.1; omega) (fun q _ => hA110.2 q) ((hH68.old).aside hA110).ok
            refine D_l (v := (.p (some (x.n, 0)))) rfl rfl rfl (r_mv rfl) ?_
            refine D_l (v := (.p (some (x.n, 0)))) rfl rfl rfl (r_nilc rfl) ?_
            refine D_l (v := (.p (some (x.n, 12)))) rfl rfl rfl (r_fadd' rfl rfl) ?_
            refine D_r (v := (.m (some n12))) rfl rfl rfl (r_ld rfl hH111.get10 rfl) ?_
            refine D_r (v := (.p (some (x.m, 0)))) rfl rfl rfl (r_ld rfl hH111.get0 rfl) ?_
            refine D_r (v := (.b true)) rfl rfl rfl (by exact ((r_pget hH111.get11 hmpM rfl rfl (apart_full hpx (fun k hk => po_ms hq1 (hmpA k hk)) hH111.top12)).trans (by rw [decide_eq_true hmem]))) ?_
            refine D_l (v := (.b true)) rfl rfl rfl (r_mv rfl) ?_
            refine D_gk rfl ?_
            refine D_l (v := (.p (some (x.n, 0)))) rfl rfl rfl (r_mv rfl) ?_
            refine D_gk rfl ?_
            refine D_l (v := (.p (some (x.n, 0)))) rfl rfl rfl (r_nilc rfl) ?_
            refine D_gk rfl ?_
            refine D_l (v := (.p (some (x.n, 12)))) rfl rfl rfl (r_fadd' rfl rfl) ?_
            refine D_gk rfl ?_
            refine D_r (v := (.p (some (x.m, 0)))) rfl rfl rfl (r_ld rfl hH111.get0 rfl) ?_
            refine D_gk rfl ?_
            refine D_l (v := (.p (some (x.m, 0)))) rfl rfl rfl (r_nilc rfl) ?_
            have hH112 := (hH111.top12)
            have hH113 := Po.out hpk hH112
            rw [hpm] at hH113
            refine D_gk rfl ?_
            refine D_l (v := (.p (some (x.m, 2)))) rfl rfl rfl (r_fadd' rfl rfl) ?_
            refine D_gk rfl ?_
            refine D_r (v := (.b false)) rfl rfl rfl (by exact (((r_ld rfl hH113.get0 rfl)).trans (by rw [hgv]))) ?_
            refine D_gk rfl ?_
            refine D_l (v := (.b true)) rfl rfl rfl (r_un rfl rfl) ?_
            refine D_l (v := (.b true)) rfl rfl rfl (r_pick_t rfl rfl) ?_
            refine D_l (v := (.b true)) rfl rfl rfl (r_mv rfl) ?_
            refine D_gk rfl ?_
            refine D_l (v := (.p (some (x.n, 0)))) rfl rfl rfl (r_mv rfl) ?_
            refine D_gk rfl ?_
            refine D_r (v := (.i .i64 now)) rfl rfl rfl (r_ld rfl hH113.get10 rfl) ?_
            refine D_gk rfl ?_
            have hH114 := (hH113.top2)
            have hH115 := ((hH114.top1).top1)
            refine D_call (Ev.mono (over_ev hH115) fun v116 H117 hq118 => ?_)
            rw [hov] at hq118
            obtain ⟨rfl, hH119⟩ := hq118
            refine And.intro (And.intro (Or.inl rfl) (And.intro (Or.inl rfl) (And.intro (Or.inl rfl) (And.intro (Or.inl rfl) (And.intro (Or.inl rfl) (And.intro (Or.inl rfl) True.intro)))))) ?_
            refine D_l (v := (.b false)) rfl rfl rfl (r_pick_t rfl rfl) ?_
            refine D_nil ?_
            refine C_cond (x := false) rfl (fun h => by cases h) (fun _ => ?_)
            refine C_skip ?_
            refine ⟨_, _, _, _, _, (hH119.get9), fun H4 hWr => ?_⟩
            have hH120 := Hs.cong9 (B := [(L, some LB)]) (hH119.wr9 hWr) (by rw [hLB]; rfl)
            have hH121 := ((hH120.top2).top2)
            have hH122 := Po.back0 hpk (by rw [hpm]; exact hH121)
            have hH123 := ((hH122.top2).top2)
            have hH124 := En.back0 hxj hH123
            have hH125 := ((((((((((((hH124.top1).top11).top11).top11).top11).top11).top6).top11).top11).top11).top11).top11)
            have hex := exStep_no (mp := mp) (now := now) (s := (pl1, nn)) hpk (fun h9 => by rw [hov] at h9; cases h9.2)
            exact ⟨_, rfl, fun _ => ⟨pl1, nn, by rw [ex_foldl hxj, hq0, hex], hq1, Nat.le_trans hq2 (Nat.le_succ _), hH125⟩, fun h => by cases h⟩
      ·
        refine C_draw fun b126 H127 hbase128 hA129 => ?_
        have hH130 := hH68.keep (by have := hA129.1; omega) (fun q _ => hA129.2 q) ((hH68.old).aside hA129).ok
        refine D_l (v := (.p (some (x.n, 0)))) rfl rfl rfl (r_mv rfl) ?_
        refine D_l (v := (.p (some (x.n, 0)))) rfl rfl rfl (r_nilc rfl) ?_
        refine D_l (v := (.p (some (x.n, 12)))) rfl rfl rfl (r_fadd' rfl rfl) ?_
        refine D_r (v := (.m (some n12))) rfl rfl rfl (r_ld rfl hH130.get10 rfl) ?_
        refine D_r (v := (.p (some (x.m, 0)))) rfl rfl rfl (r_ld rfl hH130.get0 rfl) ?_
        refine D_r (v := (.b false)) rfl rfl rfl (by exact ((r_pget hH130.get11 hmpM rfl rfl (apart_full hpx (fun k hk => po_ms hq1 (hmpA k hk)) hH130.top12)).trans (by rw [decide_eq_false hmem]))) ?_
        refine D_l (v := (.b false)) rfl rfl rfl (r_mv rfl) ?_
        refine D_gf rfl ?_
        refine D_gf rfl ?_
        refine D_gf rfl ?_
        refine D_gf rfl ?_
        refine D_gf rfl ?_
        have hH131 := (hH130.top12)
        have hH132 := Po.out hpk hH131
        rw [hpm] at hH132
        refine D_gf rfl ?_
        refine D_gf rfl ?_
        refine D_gf rfl ?_
        refine D_l (v := (.b false)) rfl rfl rfl (r_pick_f rfl rfl) ?_
        refine D_l (v := (.b false)) rfl rfl rfl (r_mv rfl) ?_
        refine D_gf rfl ?_
        refine D_gf rfl ?_
        refine D_gf rfl ?_
        refine D_l (v := (.b false)) rfl rfl rfl (r_pick_f rfl rfl) ?_
        refine D_nil ?_
        refine C_cond (x := false) rfl (fun h => by cases h) (fun _ => ?_)
        refine C_skip ?_
        refine ⟨_, _, _, _, _, (hH132.get9), fun H4 hWr => ?_⟩
        have hH133 := Hs.cong9 (B := [(L, some LB)]) (hH132.wr9 hWr) (by rw [hLB]; rfl)
        have hH134 := ((hH133.top1).top1)
        have hH135 := Po.back0 hpk (by rw [hpm]; exact hH134)
        have hH136 := ((hH135.top2).top2)
        have hH137 := En.back0 hxj hH136
        have hH138 := ((((((((((((hH137.top1).top11).top11).top11).top11).top11).top6).top11).top11).top11).top11).top11)
        have hex := exStep_mem (now := now) (s := (pl1, nn)) hmem
        exact ⟨_, rfl, fun _ => ⟨pl1, nn, by rw [ex_foldl hxj, hq0, hex], hq1, Nat.le_trans hq2 (Nat.le_succ _), hH138⟩, fun h => by cases h⟩
    rcases hE with hE | hE
    ·
      obtain ⟨pl1, nn, hq0, hq1, hq2, hHE⟩ := hE
      refine ⟨.ready, none, _, _, _, _, (hHE.get6).trans (congrArg some hLB), by decide, fun HD hD => ?_⟩
      have hH139 := hHE.drp6 hD
      rw [List.take_of_length_le (Nat.le_refl _)] at hq0
      have hfo := hq0
      have hms := hq1
      obtain ⟨pl2, hpl2⟩ : ∃ z, z = pl1 := ⟨_, rfl⟩
      obtain ⟨n2, hn2⟩ : ∃ z, z = nn := ⟨_, rfl⟩
      rw [← hpl2, ← hn2] at hH139
      rw [← hpl2, ← hn2] at hfo
      rw [← hpl2] at hms
      refine C_seq ?_
      refine C_seq ?_
      refine C_region ?_
      refine O_p (.p (some (F, 0))) (r_mv rfl) ?_
      refine O_bslice (c := [(.i .i64 0), (.i .i64 1), (.i .i64 2), (.i .i64 3)]) rfl fun n140 H141 hN142 => ?_
      have hH143 := hH139.new hN142
      refine O_call (Ev.mono (in_ev (F := F) (sb := n140) (ss := [0, 1, 2, 3]) hH143) fun v144 H145 hq146 => ?_)
      obtain ⟨b147, b148, rfl, hH149⟩ := hq146
      refine O_nil ?_
      refine C_block ?_
      refine C_rangeFn (g := 59) (first := []) (cap := [.p (some (b147, 0)), .p (some (b148, 0))]) rfl fun Tx L HLL hTx hNL0 => ?_
      obtain ⟨LB, hLB, hNL⟩ := hNL0.loop
      have hH150 := hH149.new hNL
      have hH151 := (((hH150.sub4).sub4).sub4)
      have hH152 := ((((((((((((hH151.top11).top11).top11).top11).top11).top5).top11).top11).top11).top11).top11).top11)
      refine Ev.mono (in1_ev (F := F) (sb := n140) (nx := nx) (ss := [0, 1, 2, 3]) (q0 := q) hlv hql (by decide) (fun j HH => ∃ (q1 : List En), (q1.map En.nm = q.map En.nm) ∧ (q1 = (q.take j).map (exN pl2) ++ q.drop j) ∧ (∀ x ∈ q1, OctIn D x.dv x.e.c.d) ∧ Hs HH ([(b147, some (.cells ([(.p (some (F, 0)))]) true))] ++ ([(b148, some (.cells ([(.sl (some (n140, 0)) [0, 1, 2, 3].length [0, 1, 2, 3].length 0)]) true))] ++ ([(n140, some (.cells ([0, 1, 2, 3].map fun z => AV.i IntKind.i64 z) true))] ++ ([(F, some (.cells ([lv, (.i .u32 nx)]) true))] ++ ((qseg lv lc) ++ ((q1.flatMap En.seg) ++ ([(L, some LB)] ++ ([(n1, some (.cells ([(.i .i64 now)]) true))] ++ ([(n5, some (.cells ([(.i .i64 (((n2 : Nat)) : Int))]) true))] ++ ([(n16, some (.cells ([(.m (some n12))]) true))] ++ ([(n12, some bm)] ++ ((pl2.flatMap Po.seg) ++ (R)))))))))))))) (fun HH => False) ?_ ?_ ?_ ?_ ?_) fun v2 HE hE => ?_
      · exact ⟨q, rfl, by rw [List.take_zero]; rfl, hok, hH152⟩
      · rintro j H1 ⟨q1, hq0, hq1, hq2, hh⟩
        exact ⟨q1, _, hq0, (ex_same hq1), hh⟩
      · rintro j H1 H2 hn hk2 hok ⟨q1, hq0, hq1, hq2, hh⟩
        exact ⟨q1, hq0, hq1, hq2, hh.keep hn hk2 hok⟩
      · rintro j H1 e0 h0j hst ⟨q1, hq0, hq1, hq2, hh⟩
        refine ⟨q1, hq0, ex_skip hq1 h0j (by unfold exN; rw [if_neg (fun h9 => hst h9.1)]), hq2, hh⟩
      ·
        rintro j HH e0 h0j hst ⟨q1, hq0, hq1, hq2, hHb⟩
        have hjl : j < q.length := (List.getElem?_eq_some_iff.1 h0j).1
        obtain ⟨x, hxj, hxn, hxe⟩ := en_same (q := q1) hq0 ((ex_same hq1) j (Nat.le_refl _)) h0j
        rw [← hxn]
        refine Ev_yield ((hHb.get6).trans (congrArg some hLB)) rfl ?_
        refine C.te ?_ (hTx.cons 56 _)
        have hx0 : x = e0 := by have h9 := ex_get hq1 h0j; rw [hxj] at h9; exact Option.some.inj h9
        have h0x := h0j
        rw [← hx0] at h0x
        have hpx := po_ms hms (hpo x (List.mem_of_getElem? h0x))
        obtain ⟨p, hpk, hpm⟩ := po_at hpx
        have hst1 : x.e.st ∈ [0, 1, 2, 3] := by rw [hxe]; exact hst
        have hgo : gvOf pl2 x.m = p.gv := by unfold gvOf; rw [hpk]
        have hH153 := (hHb.top5)
        have hH154 := En.out hxj hH153
        have hH155 := (hH154.top12)
        have hH156 := Po.out hpk hH155
        rw [hpm] at hH156
        refine C_region ?_
        refine O_p (.p (some (x.n, 0))) (r_mv rfl) ?_
        refine O_nil ?_
        refine ⟨rfl, _, _, _, _, _, (hH156.get9).trans (congrArg some hLB), fun H2 hWb => ?_⟩
        have hH157 := hH156.wr9 hWb
        refine C_block ?_
        refine C_seq ?_
        refine C_region ?_
        refine O_p (.p (some (x.n, 0))) (r_mv rfl) ?_
        refine O_p (.p (some (x.n, 0))) (r_nilc rfl) ?_
        refine O_p (.p (some (x.n, 12))) (r_fadd' rfl rfl) ?_
        refine O_p (.p (some (x.m, 0))) (r_ld rfl hH157.get2 rfl) ?_
        refine O_p (.p (some (x.m, 0))) (r_nilc rfl) ?_
        refine O_p (.p (some (x.m, 2))) (r_fadd' rfl rfl) ?_
        refine O_p (.b p.gv) (r_ld rfl hH157.get0 rfl) ?_
        refine O_nil ?_
        refine C_cond (x := p.gv) rfl (fun hc158 => ?_) (fun hc158 => ?_)
        ·
          try simp only [decide_eq_true_eq, decide_eq_false_iff_not, Bool.not_eq_true', Bool.not_eq_false', Bool.and_eq_true, Bool.or_eq_true, Bool.or_eq_false_iff, Bool.not_not, Bool.and_eq_false_iff] at hc158
          have hg3 : p.gv = true := by simpa using hc158
          refine C_region ?_
          refine O_p (.p (some (x.n, 0))) (r_mv rfl) ?_
          refine O_p (.p (some (x.n, 0))) (r_nilc rfl) ?_
          refine O_p (.p (some (x.n, 13))) (r_fadd' rfl rfl) ?_
          refine O_store (vs := [(.i .i64 4)]) (c' := [(.i .u8 x.e.c.k), (.i .u8 x.e.c.f), (.i .u32 x.e.a), (.i .u32 x.e.c.b), (.i .u16 x.e.c.o), (.i .u16 x.e.c.i), (.i .u32 x.e.c.p), x.e.c.x1, x.e.c.x2, x.e.c.x3, x.e.c.x4, x.dv, (.p (some (x.m, 0))), (.i .i64 4), (.i .i64 x.e.sent), (.i .i64 x.e.tm), (.i .i64 x.e.mi)]) rfl (by rfl) hH157.get2 rfl (List.cons_ne_nil _ _) (Nat.le_of_ble_eq_true rfl) rfl fun H159 hW160 => ?_
          have hH161 := hH157.wr2 hW160
          refine O_nil ?_
          refine ⟨_, _, _, _, _, (hH161.get9), fun H4 hWr => ?_⟩
          have hH162 := Hs.cong9 (B := [(L, some LB)]) (hH161.wr9 hWr) (by rw [hLB]; rfl)
          have hH163 := ((hH162.top1).top1)
          have hH164 := Po.back0 hpk (by rw [hpm]; exact hH163)
          have hH165 := ((hH164.top2).top2)
          have hH166 := En.back (y := (⟨x.e.setSt 4, x.n, x.m, x.dv⟩ : En)) hxj hH165
          have hH167 := ((((((((((((hH166.top1).top11).top11).top11).top11).top11).top6).top11).top11).top11).top11).top11)
          exact ⟨_, rfl, fun _ => ⟨q1.set j (⟨x.e.setSt 4, x.n, x.m, x.dv⟩ : En), set_names hxj rfl hq0, ex_set hq1 h0x (by unfold exN; rw [if_pos ⟨hst1, by rw [hgo]; exact hg3⟩]), set_all hq2 (hq2 x (List.mem_of_getElem? hxj)), hH167⟩, fun h => by cases h⟩
        ·
          try simp only [decide_eq_true_eq, decide_eq_false_iff_not, Bool.not_eq_true', Bool.not_eq_false', Bool.and_eq_true, Bool.or_eq_true, Bool.or_eq_false_iff, Bool.not_not, Bool.and_eq_false_iff] at hc158
          have hg3 : p.gv = false := by simpa using hc158
          refine C_skip ?_
          refine ⟨_, _, _, _, _, (hH157.get9), fun H4 hWr => ?_⟩
          have hH168 := Hs.cong9 (B := [(L, some LB)]) (hH157.wr9 hWr) (by rw [hLB]; rfl)
          have hH169 := ((hH168.top1).top1)
          have hH170 := Po.back0 hpk (by rw [hpm]; exact hH169)
          have hH171 := ((hH170.top2).top2)
          have hH172 := En.back (y := x) hxj hH171
          have hH173 := ((((((((((((hH172.top1).top11).top11).top11).top11).top11).top6).top11).top11).top11).top11).top11)
          exact ⟨_, rfl, fun _ => ⟨q1.set j x, set_names hxj rfl hq0, ex_set hq1 h0x (by unfold exN; rw [if_neg (fun h9 => by rw [hgo, hg3] at h9; cases h9.2)]), set_all hq2 (hq2 x (List.mem_of_getElem? hxj)), hH173⟩, fun h => by cases h⟩
      rcases hE with hE | hE
      ·
        obtain ⟨q1, hq0, hq1, hq2, hHE⟩ := hE
        refine ⟨.ready, none, _, _, _, _, (hHE.get6).trans (congrArg some hLB), by decide, fun HD hD => ?_⟩
        have hH174 := hHE.drp6 hD
        rw [List.take_of_length_le (Nat.le_refl _), List.drop_length, List.append_nil] at hq1
        refine C_seq ?_
        refine C_region ?_
        refine O_p (.i .i64 (((n2 : Nat)) : Int)) (r_ld rfl hH174.get7 rfl) ?_
        refine O_p (.i .i64 (((n2 : Nat)) : Int)) (r_mv rfl) ?_
        refine O_nil ?_
        refine C_ret ?_
        have hH175 := (((((((hH174.sub0).sub0).sub0).sub3).sub3).sub3).sub3)
        have hH176 := ((((hH175.top3).top3).top3).top3)
        exact ⟨.inr rfl, _, resL_one (r_tmp (v := (.i .i64 (((n2 : Nat)) : Int))) rfl), mp, pl2, n2, q1, rfl, fun k => (hmpI k).trans ⟨fun ⟨i, x, _, h2⟩ => ⟨i, x, h2⟩, fun ⟨i, x, h2⟩ => ⟨i, x, (List.getElem?_eq_some_iff.1 h2.1).1, h2⟩⟩, hfo, hms, hq1, hq0, hq2, hH176⟩
      · exact hE.elim
    · exact hE.elim
  · exact hE.elim
end Go.Proofs.Ytipcacpaadgagaa.E
