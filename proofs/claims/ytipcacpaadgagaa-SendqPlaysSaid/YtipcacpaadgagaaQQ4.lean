/- Queues of chunks: the document's queue, small functions. It bears no condition. -/
import Derived.Test.YtipcacpaadgagaaQQ3
namespace Go.Proofs.Ytipcacpaadgagaa.E
set_option linter.unusedVariables false
set_option linter.unusedSimpArgs false
structure Rk where
 k : Int
 un : Int
 tr : Int
structure Te where
 e : Ea
 z : Rk
 dv : AV
def teRow (x : Te) : List AV := [.i .u8 x.e.c.k, .i .u8 x.e.c.f, .i .u32 x.e.a, .i .u32 x.e.c.b, .i .u16 x.e.c.o, .i .u16 x.e.c.i, .i .u32 x.e.c.p, x.e.c.x1, x.e.c.x2, x.e.c.x3, x.e.c.x4, x.dv, .i .i64 x.z.k, .i .i64 x.e.st, .i .i64 x.e.sent, .i .i64 x.e.tm, .i .i64 x.e.mi, .i .i64 x.z.un, .i .i64 x.z.tr]
theorem te_lens (q : List Te) : ∀ r ∈ q.map teRow, r.length = 19 := fun r hr => by obtain ⟨x, _, rfl⟩ := List.mem_map.1 hr; rfl
theorem te_get {q : List Te} {i : Nat} {x : Te} (h : q[i]? = some x) : (q.map teRow)[i]? = some (teRow x) := by rw [List.getElem?_map, h]; rfl
theorem te_flat (q : List Te) : ((q.map teRow).flatten).length = q.length * 19 := (flat_len (te_lens q)).trans (by rw [List.length_map])
theorem te_flatn {q : List Te} {n : Nat} (h : q.length = n) : ((q.map teRow).flatten).length = n * 19 := h ▸ te_flat q
theorem te_app {q : List Te} {x : Te} : (q.map teRow).flatten ++ teRow x = ((q ++ [x]).map teRow).flatten := by rw [List.map_append, List.flatten_append, List.map_cons, List.map_nil, List.flatten_cons, List.flatten_nil, List.append_nil]
theorem te_e {q : List Te} {i : Nat} {x : Te} (h : q[i]? = some x) : (q.map Te.e)[i]? = some x.e := by rw [List.getElem?_map, h]; rfl
theorem OctIn.lenOf {D : HL} {v : AV} {d : List UInt8} (h : OctIn D v d) : lenOfA v = some d.length := by
 obtain ⟨a, c, g, rfl, _⟩ := h; rfl
theorem OctIn.isSl {D : HL} {v : AV} {d : List UInt8} (h : OctIn D v d) : ∃ a len cap g, v = .sl a len cap g := by
 obtain ⟨a, c, g, h, _⟩ := h; exact ⟨a, _, c, g, h⟩
def Upd (g : Nat → Te → Ea) (i : Nat) (q0 q : List Te) : Prop := ∀ k, q[k]? = (q0[k]?).map fun x => if k < i then ⟨g k x, x.z, x.dv⟩ else x
section
variable {g : Nat → Te → Ea} {i : Nat} {q0 q : List Te} {x y : Te}
theorem Upd.zero : Upd g 0 q q := fun k => by
 simp only [Nat.not_lt_zero, if_false]
 cases q[k]? <;> rfl
theorem Upd.len (h : Upd g i q0 q) : q.length = q0.length := by
  refine Nat.le_antisymm ?_ ?_
  · refine Nat.le_of_not_lt fun hl => ?_
    have := h q0.length
    rw [List.getElem?_eq_none (Nat.le_refl _), List.getElem?_eq_getElem hl] at this
    cases this
  · refine Nat.le_of_not_lt fun hl => ?_
    have := h q.length
    rw [List.getElem?_eq_none (Nat.le_refl _), List.getElem?_eq_getElem hl] at this
    cases this
theorem Upd.get (h : Upd g i q0 q) (hx : q0[i]? = some x) : q[i]? = some x := by
 rw [h i, hx]; simp
theorem Upd.skip (h : Upd g i q0 q) (hx : q0[i]? = some x) (hg : g i x = x.e) : Upd g (i + 1) q0 q := fun k => by
  rw [h k]
  rcases Nat.lt_trichotomy k i with h1 | rfl | h1
  · simp [h1, Nat.lt_succ_of_lt h1]
  · rw [hx]; simp [hg]
  · simp [show ¬ k < i by omega, show ¬ k < i + 1 by omega]
theorem Upd.set {e' : Ea} (h : Upd g i q0 q) (hx : q0[i]? = some x) (hg : g i x = e') : Upd g (i + 1) q0 (q.set i ⟨e', x.z, x.dv⟩) := fun k => by
  rw [List.getElem?_set]
  by_cases hk : i = k
  · subst hk
    have hl := (List.getElem?_eq_some_iff.1 (h.get hx)).1
    rw [if_pos rfl, if_pos hl, hx, ← hg]; simp
  · rw [if_neg hk, h k]
    by_cases h1 : k < i
    · simp [h1, Nat.lt_succ_of_lt h1]
    · simp [h1, show ¬ k < i + 1 by omega]
theorem Upd.ok {D : HL} (h : Upd g i q0 q) (hok : ∀ x ∈ q0, OctIn D x.dv x.e.c.d) (hg : ∀ k x, (g k x).c.d = x.e.c.d) : ∀ x ∈ q, OctIn D x.dv x.e.c.d := fun x hx => by
  obtain ⟨k, hk⟩ := List.getElem?_of_mem hx
  rw [h k] at hk
  cases h0 : q0[k]? with
  | none => rw [h0] at hk; cases hk
  | some y =>
    rw [h0] at hk
    simp only [Option.map_some, Option.some.injEq] at hk
    have := hok y (List.mem_of_getElem? h0)
    split at hk
    · subst hk; show OctIn D y.dv (g k y).c.d; rw [hg]; exact this
    · subst hk; exact this
theorem Upd.zs (h : Upd g i q0 q) : q.map Te.z = q0.map Te.z := List.ext_getElem? fun k => by
  rw [List.getElem?_map, List.getElem?_map, h k]
  cases q0[k]? with
  | none => rfl
  | some x => simp only [Option.map_some]; split <;> rfl
theorem Upd.es (h : Upd g i q0 q) (k : Nat) : (q.map Te.e)[k]? = (q0[k]?).map fun x => if k < i then g k x else x.e := by
  rw [List.getElem?_map, h k]
  cases q0[k]? with
  | none => rfl
  | some x => simp only [Option.map_some]; split <;> rfl
theorem Upd.all {f : Ea → Ea} (h : Upd (fun _ x => f x.e) i q0 q) (hi : q0.length ≤ i) : q.map Te.e = (q0.map Te.e).map f := List.ext_getElem? fun k => by
  rw [h.es k, List.getElem?_map, List.getElem?_map]
  cases hk : q0[k]? with
  | none => rfl
  | some x =>
    have := (List.getElem?_eq_some_iff.1 hk).1
    simp only [Option.map_some]; rw [if_pos (by omega)]
end
theorem octs_yes2 {ss : List Int} {l : List Ea} {j : Nat} {e : Ea} (h : l[j]? = some e) (hs : e.st ∈ ss) : octs ss (l.take (j + 1)) = octs ss (l.take j) + e.c.d.length := by
 rw [take_at h, octs_app]
 show _ + ((if e.st ∈ ss then _ else 0) + 0) = _
 rw [if_pos hs, Nat.add_zero]
theorem octs_no2 {ss : List Int} {l : List Ea} {j : Nat} {e : Ea} (h : l[j]? = some e) (hs : ¬ e.st ∈ ss) : octs ss (l.take (j + 1)) = octs ss (l.take j) := by
 rw [take_at h, octs_app]
 show _ + ((if e.st ∈ ss then _ else 0) + 0) = _
 rw [if_neg hs]; rfl
theorem mem_take_at {α : Type} {l : List α} {i m : Nat} {x : α} (h : l[i]? = some x) (hi : i < m) : x ∈ l.take m := List.mem_of_getElem? (i := i) (by rw [List.getElem?_take, if_pos hi]; exact h)
theorem w32_dist {a b : Int} (ha : 0 ≤ a ∧ a < 4294967296) (hb : 0 ≤ b ∧ b < 4294967296) : w32 (if a ≤ b then b - a else b + 4294967296 - a) = w32 (b - a) := by
  split
  · rfl
  · simp only [w32, wrap_u32]; omega
theorem putAt_all {r vs : List AV} (h : vs.length = r.length) : putAt r 0 vs = vs := by
 rw [putAt_eq vs r 0 (by omega), List.take_zero, List.nil_append, Nat.zero_add, List.drop_eq_nil_of_le (by omega), List.append_nil]
theorem mk_bs1 {T : Tm} {x : XO} {vs z : List AV} {len m : Nat} (hx : x.ev T = .agg vs) (h : vs.length = m) (h2 : z.length = m) : (XOp.bslice z [(0, m, x)] len).make T = some (fun n => (.sl (some (n, 0)) len len 0, .cells vs true)) := by
 simp only [XOp.make, fillP, hx, AV.cellsOf]
 rw [if_pos ⟨h, by omega⟩, putAt_all (by omega)]; rfl
theorem C_cut {tab : Nat → Option XFun} {sp : Nat → List AV → AH → Option (AV × AH)} {T : Tm} {H : AH} {Q : XExit → Tm → AH → Prop} {a b : XC} (P : Tm → AH → Prop) (h1 : C tab sp a T H (fun e T' H' => e = .norm ∧ P T' H')) (h2 : ∀ T' H', P T' H' → C tab sp b T' H' Q) : C tab sp (.seq a b) T H Q := C_seq (fun Tx hx => by
 obtain ⟨k, e, T', H', T2, h, t, rfl, p⟩ := h1 Tx hx
 exact ⟨k, .norm, T', H', T2, h, t, h2 T2 H' p⟩)
theorem rnew_ev {H : AH} {R : HL} {a : Int} (hH0 : Hs H R) : Ev tabA spA (.fn (.func 28) [] []) [.i .u32 a] H (fun r H' => ∃ F, r = .p (some (F, 0)) ∧ Hs H' ([(F, some (.cells [.sl none 0 0 0, .i .u32 a, .i .i64 0] true))] ++ R)) := by
 refine Ev_C (F := x28) rfl ?_
 refine C_seq  (C_region  (pv (.p none) rfl (O_nil  (C_seq  (C_region  (pv (.i .u32 a) rfl (O_p (.agg [(.sl none 0 0 0), (.i .u32 a), (.i .i64 0)]) (r_build rfl) ?_)))))))
 refine O_box (z := [(.sl none 0 0 0), (.i .u32 a), (.i .i64 0)]) rfl fun n1 H2 hN3 => ?_
 have hH4 := hH0.new hN3
 refine pv (pT n1 0) rfl (O_nil  (C_ret  ?_))
 exact ⟨.inr rfl, _, resL_one (r_tmp (v := (.p (some (n1, 0)))) rfl), n1, rfl, hH4⟩
theorem rfloor_raw {H : AH} {R : HL} {F n : Nat} {lv : AV} {lc : List AV} {nx cn : Int} {q0 : List Te} (hlv : Sq 19 lv lc (q0.map teRow).flatten) (hn : q0.length = n) (hql : n ≤ 100000) (hH0 : Hs H ([(F, some (.cells [lv, .i .u32 nx, .i .i64 cn] true))] ++ (qseg lv lc ++ R))) : Ev tabA spA (.fn (.func 56) [] []) [.p (some (F, 0))] H (fun r H' => r = .i .u32 (floorA nx n) ∧ Hs H' ([(F, some (.cells [lv, .i .u32 nx, .i .i64 cn] true))] ++ (qseg lv lc ++ R))) := by
 refine Ev_C (F := x56) rfl ?_
 refine C_seq  (C_region  (pv (.i .u32 0) rfl (O_nil  (C_seq  ?_))))
 refine C_draw fun b1 H2 hbase3 hA4 => ?_
 have hH5 := hH0.keep (by have := hA4.1; omega) (fun q _ => hA4.2 q) ((hH0.old).aside hA4).ok
 refine D_l (v := (pT F 0)) rfl rfl rfl (r_mv rfl) (D_l (v := (pT F 0)) rfl rfl rfl (r_nilc rfl) (D_l (v := (pT F 1)) rfl rfl rfl (r_fadd' rfl rfl) (D_l (v := (pT F 0)) rfl rfl rfl (r_mv rfl) (D_l (v := (pT F 0)) rfl rfl rfl (r_nilc rfl) (D_l (v := (pT F 0)) rfl rfl rfl (r_fadd' rfl rfl) (D_r (v := (.i .u32 nx)) rfl rfl rfl (r_ld rfl hH5.get0 rfl) (D_r (v := lv) rfl rfl rfl (r_ld rfl hH5.get0 rfl) (D_l (v := (nI n)) rfl rfl rfl (by exact (by exact r_lenOf rfl (hlv.lenOf (te_flatn hn) (by decide)) hlv.isSl)) (D_l (v := (.i .u32 (IntKind.u32.wrap (((n : Nat)) : Int)))) rfl rfl rfl (r_cint rfl) (D_l (v := (.i .u32 (IntKind.u32.wrap (nx - (IntKind.u32.wrap (((n : Nat)) : Int)))))) rfl rfl rfl (r_bin rfl rfl rfl) (D_l (v := (.i .u32 (IntKind.u32.wrap ((IntKind.u32.wrap (nx - (IntKind.u32.wrap (((n : Nat)) : Int)))) - 1)))) rfl rfl rfl (r_bin rfl rfl rfl) (D_l (v := (.i .u32 (IntKind.u32.wrap ((IntKind.u32.wrap (nx - (IntKind.u32.wrap (((n : Nat)) : Int)))) - 1)))) rfl rfl rfl (r_mv rfl) (D_nil  ?_)))))))))))))
 refine C_ret  ?_
 have hH6 := ((hH5.top1).top1)
 exact ⟨.inr rfl, _, resL_one (r_tmp (v := (.i .u32 (IntKind.u32.wrap ((IntKind.u32.wrap (nx - (IntKind.u32.wrap (((n : Nat)) : Int)))) - 1)))) rfl), rfl, hH6⟩
theorem rstate_raw {H : AH} {R : HL} {F n : Nat} {lv : AV} {lc : List AV} {nx cn : Int} {q0 : List Te} {a : Int} (hlv : Sq 19 lv lc (q0.map teRow).flatten) (hn : q0.length = n) (hql : n ≤ 100000) (hH0 : Hs H ([(F, some (.cells [lv, .i .u32 nx, .i .i64 cn] true))] ++ (qseg lv lc ++ R))) : Ev tabA spA (.fn (.func 54) [] []) [.p (some (F, 0)), .i .u32 a] H (fun r H' => ((∃ (i : Nat) (x : Te), q0[i]? = some x ∧ x.e.a = a ∧ (∀ (k : Nat) (y : Te), k < i → q0[k]? = some y → ¬ y.e.a = a) ∧ r = .tup [.i .i64 x.e.st, .b true]) ∨ ((∀ (k : Nat) (y : Te), q0[k]? = some y → ¬ y.e.a = a) ∧ r = .tup [.i .i64 0, .b false])) ∧ Hs H' ([(F, some (.cells [lv, .i .u32 nx, .i .i64 cn] true))] ++ (qseg lv lc ++ R))) := by
 refine Ev_C (F := x54) rfl ?_
 refine C_seq  (C_region  (pv (.i .i64 0) rfl (pv (.b false) rfl (O_nil  (C_seq  (C_seq  (C_region  (pv (.i .i64 0) rfl (O_nil  (C_block  ?_))))))))))
 refine C_while (fun m1 T2 H3 => ∃ i : Nat, m1 = n - i ∧ i ≤ n ∧ (∀ (k : Nat) (x : Te), k < i → q0[k]? = some x → ¬ x.e.a = a) ∧ Hs H3 ([(F, some (.cells ([lv, (.i .u32 nx), (.i .i64 cn)]) true))] ++ ((qseg lv lc) ++ (R))) ∧ T2.get 0 = (.p (some (F, 0))) ∧ T2.get 1 = (.i .u32 a) ∧ T2.get 6 = (.i .i64 (((i : Nat)) : Int))) (fun m1 T2 H3 hI4 => ?_) n _ _ ⟨0, rfl, Nat.zero_le _, fun k x hk => absurd hk (Nat.not_lt_zero _), hH0, rfl, rfl, rfl⟩
 obtain ⟨i, hm5, hp6, hp7, hH11, hT8, hT9, hT10⟩ := hI4
 refine C_seq  (C_seq  (C_region  (pv (nI i) hT10 (pv (pT F 0) hT8 (O_p (pT F 0) (r_nilc rfl) (pf (pT F 0) rfl rfl (O_p lv (r_ld rfl hH11.get0 rfl) (O_p (nI n) (by exact (by exact r_lenOf rfl (hlv.lenOf (te_flatn hn) (by decide)) hlv.isSl)) (O_p (.b (decide ((((i : Nat)) : Int) < (((n : Nat)) : Int)))) (r_lss rfl rfl) (O_nil  ?_))))))))))
 refine C_cond (x := (decide ((((i : Nat)) : Int) < (((n : Nat)) : Int)))) rfl (fun hc12 => ?_) (fun hc12 => ?_)
 ·
  try simp only [dz1, dz2, dz3, dz4, dz5, dz6, dz7, dz8, dz9] at hc12
  refine C_skip  (C_seq  (C_block  (C_seq  (C_region  ?_))))
  have hil : i < n := by omega
  obtain ⟨x, hxi⟩ : ∃ x, q0[i]? = some x := ⟨_, List.getElem?_eq_getElem (by omega)⟩
  refine pv (pT F 0) hT8 (O_p (pT F 0) (r_nilc rfl) (pf (pT F 0) rfl rfl (O_p lv (r_ld rfl hH11.get0 rfl) (pv (nI i) hT10 ?_))))
  refine O_q (by exact Sq.cell hlv (te_lens q0) hH11.top1 rfl (i := i) rfl (r := teRow x) (te_get hxi) (by decide)) fun v14 hv13 => ?_
  obtain ⟨rb15, ro16, rfl, hrg17, hrt18, hrb19, hput20, hqs21⟩ := hv13
  refine pf (.p (some (rb15, (ro16 + 0)))) rfl rfl (pf (.p (some (rb15, (ro16 + 2)))) rfl rfl (O_p (.i .u32 x.e.a) (r_ldR (q := 2) rfl ⟨_, _, hrg17, hrt18⟩ rfl) (pv (.i .u32 a) hT9 (O_p (.b (decide (x.e.a = a))) (r_eql rfl rfl) (O_nil  ?_)))))
  refine C_cond (x := (decide (x.e.a = a))) rfl (fun hc22 => ?_) (fun hc22 => ?_)
  ·
   try simp only [dz1, dz2, dz3, dz4, dz5, dz6, dz7, dz8, dz9] at hc22
   have hne : x.e.a = a := hc22
   refine C_seq  (C_region  (pv (pT F 0) hT8 (O_p (pT F 0) (r_nilc rfl) (pf (pT F 0) rfl rfl (O_p lv (r_ld rfl hH11.get0 rfl) (pv (nI i) hT10 ?_))))))
   refine O_q (by exact Sq.cell hlv (te_lens q0) hH11.top1 rfl (i := i) rfl (r := teRow x) (te_get hxi) (by decide)) fun v24 hv23 => ?_
   obtain ⟨rb25, ro26, rfl, hrg27, hrt28, hrb29, hput30, hqs31⟩ := hv23
   refine pf (.p (some (rb25, (ro26 + 13)))) rfl rfl (O_p (.i .i64 x.e.st) (r_ldR (q := 13) rfl ⟨_, _, hrg27, hrt28⟩ rfl) (pv (.i .i64 x.e.st) rfl (pv (.b true) rfl (O_nil  (C_ret  (bk_ret  (nx_ret  (nx_ret  (bk_ret  (nx_ret  ?_))))))))))
   have hH32 := ((hH11.top1).top1)
   exact ⟨.inr rfl, _, resL_cons (r_tmp (v := (.i .i64 x.e.st)) rfl) (resL_one (r_tmp (v := (.b true)) rfl)), .inl ⟨i, x, hxi, hne, hp7, rfl⟩, hH32⟩
  ·
   try simp only [dz1, dz2, dz3, dz4, dz5, dz6, dz7, dz8, dz9] at hc22
   have hne : ¬ x.e.a = a := hc22
   refine C_skip  (C_region  (pv (nI i) hT10 (O_p (.i .i64 ((((i : Nat)) : Int) + 1)) (by exact (r_addi rfl rfl (wrap_i64 (by omega) (by omega)))) (pv (.i .i64 ((((i : Nat)) : Int) + 1)) rfl (O_nil  ?_)))))
   have hH33 := ((hH11.top1).top1)
   exact ⟨n - (i + 1), by omega, (i + 1), rfl, by omega, fun k x hk hx => by rcases Nat.lt_succ_iff_lt_or_eq.1 hk with h9 | rfl; exact hp7 k x h9 hx; rw [hxi] at hx; cases hx; exact hne, hH33, hT8, hT9, rfl⟩
 ·
  try simp only [dz1, dz2, dz3, dz4, dz5, dz6, dz7, dz8, dz9] at hc12
  refine C_exit  (nx_exit  (nx_exit  (bk_hit  (C_seq  (C_region  (pv (.i .i64 0) rfl (pv (.b false) rfl (O_nil  (C_ret  ?_)))))))))
  have hH34 := ((hH11.top1).top1)
  exact ⟨.inr rfl, _, resL_cons (r_tmp (v := (.i .i64 0)) rfl) (resL_one (r_tmp (v := (.b false)) rfl)), .inr ⟨fun k x hx => hp7 k x (by have := (List.getElem?_eq_some_iff.1 hx).1; omega) hx, rfl⟩, hH34⟩
theorem rocts_raw {H : AH} {R D : HL} {F n : Nat} {lv : AV} {lc : List AV} {nx cn : Int} {q0 : List Te} {a b : Int} (hlv : Sq 19 lv lc (q0.map teRow).flatten) (hn : q0.length = n) (hql : n ≤ 100000) (hok : ∀ x ∈ q0, OctIn D x.dv x.e.c.d) (hsz : ∀ e ∈ q0.map Te.e, e.c.d.length ≤ 1000000) (hH0 : Hs H ([(F, some (.cells [lv, .i .u32 nx, .i .i64 cn] true))] ++ (qseg lv lc ++ R))) : Ev tabA spA (.fn (.func 57) [] []) [.p (some (F, 0)), .i .i64 a, .i .i64 b] H (fun r H' => r = .i .i64 ((octs [a, b] (q0.map Te.e) : Nat) : Int) ∧ Hs H' ([(F, some (.cells [lv, .i .u32 nx, .i .i64 cn] true))] ++ (qseg lv lc ++ R))) := by
 refine Ev_C (F := x57) rfl ?_
 refine C_seq  (C_region  (pv (.i .i64 0) rfl (O_nil  (C_seq  (C_region  (pv (.i .i64 0) rfl (O_nil  (C_seq  (C_seq  (C_region  (pv (.i .i64 0) rfl (O_nil  (C_block  ?_)))))))))))))
 refine C_while (fun m1 T2 H3 => ∃ i : Nat, m1 = n - i ∧ i ≤ n ∧ Hs H3 ([(F, some (.cells ([lv, (.i .u32 nx), (.i .i64 cn)]) true))] ++ ((qseg lv lc) ++ (R))) ∧ T2.get 0 = (.p (some (F, 0))) ∧ T2.get 1 = (.i .i64 a) ∧ T2.get 2 = (.i .i64 b) ∧ T2.get 8 = (.i .i64 (((i : Nat)) : Int)) ∧ T2.get 7 = (.i .i64 ((((octs [a, b] ((q0.map Te.e).take i)) : Nat)) : Int))) (fun m1 T2 H3 hI4 => ?_) n _ _ ⟨0, rfl, Nat.zero_le _, hH0, rfl, rfl, rfl, rfl, rfl⟩
 obtain ⟨i, hm5, hp6, hH12, hT7, hT8, hT9, hT10, hT11⟩ := hI4
 have hob := octs_le (ss := [a, b]) (fun e he => hsz e (List.mem_of_mem_take he)) (l := (q0.map Te.e).take i)
 have htl : ((q0.map Te.e).take i).length ≤ i := by rw [List.length_take]; omega
 refine C_seq  (C_seq  (C_region  (pv (nI i) hT10 (pv (pT F 0) hT7 (O_p (pT F 0) (r_nilc rfl) (pf (pT F 0) rfl rfl (O_p lv (r_ld rfl hH12.get0 rfl) (O_p (nI n) (by exact (by exact r_lenOf rfl (hlv.lenOf (te_flatn hn) (by decide)) hlv.isSl)) (O_p (.b (decide ((((i : Nat)) : Int) < (((n : Nat)) : Int)))) (r_lss rfl rfl) (O_nil  ?_))))))))))
 refine C_cond (x := (decide ((((i : Nat)) : Int) < (((n : Nat)) : Int)))) rfl (fun hc13 => ?_) (fun hc13 => ?_)
 ·
  try simp only [dz1, dz2, dz3, dz4, dz5, dz6, dz7, dz8, dz9] at hc13
  refine C_skip  (C_seq  (C_block  (C_seq  ?_)))
  have hil : i < n := by omega
  obtain ⟨x, hxi⟩ : ∃ x, q0[i]? = some x := ⟨_, List.getElem?_eq_getElem (by omega)⟩
  have hdx := hok x (List.mem_of_getElem? hxi)
  have hszx := hsz x.e (List.mem_map_of_mem (List.mem_of_getElem? hxi))
  by_cases hsa : x.e.st = a
  ·
   have hin : x.e.st ∈ [a, b] := by rw [hsa]; exact List.mem_cons_self ..
   refine C_region  (pv (pT F 0) hT7 (O_p (pT F 0) (r_nilc rfl) (pf (pT F 0) rfl rfl (O_p lv (r_ld rfl hH12.get0 rfl) (pv (nI i) hT10 ?_)))))
   refine O_q (by exact Sq.cell hlv (te_lens q0) hH12.top1 rfl (i := i) rfl (r := teRow x) (te_get hxi) (by decide)) fun v15 hv14 => ?_
   obtain ⟨rb16, ro17, rfl, hrg18, hrt19, hrb20, hput21, hqs22⟩ := hv14
   refine pf (.p (some (rb16, (ro17 + 13)))) rfl rfl (O_p (.i .i64 x.e.st) (r_ldR (q := 13) rfl ⟨_, _, hrg18, hrt19⟩ rfl) (pv (.i .i64 a) hT8 (O_p (.b true) (by exact (by rw [r_eql rfl rfl, decide_eq_true hsa])) (pv (.b true) rfl (O_gf rfl (O_gf rfl (O_gf rfl (O_gf rfl (O_gf rfl (O_gf rfl (O_gf rfl (O_gf rfl (O_gf rfl ?_)))))))))))))
   refine O_gf rfl (O_p (.b true) (r_pick_t rfl rfl) (O_nil  ?_))
   refine C_cond (x := true) rfl (fun _ => ?_) (fun h => by cases h)
   refine C_region  (pv (.i .i64 ((((octs [a, b] ((q0.map Te.e).take i)) : Nat)) : Int)) hT11 (pv (pT F 0) hT7 (O_p (pT F 0) (r_nilc rfl) (pf (pT F 0) rfl rfl (O_p lv (r_ld rfl hH12.get0 rfl) (pv (nI i) hT10 ?_))))))
   refine O_q (by exact Sq.cell hlv (te_lens q0) hH12.top1 rfl (i := i) rfl (r := teRow x) (te_get hxi) (by decide)) fun v24 hv23 => ?_
   obtain ⟨rb25, ro26, rfl, hrg27, hrt28, hrb29, hput30, hqs31⟩ := hv23
   refine pf (.p (some (rb25, (ro26 + 0)))) rfl rfl (pf (.p (some (rb25, (ro26 + 11)))) rfl rfl (O_p x.dv (r_ldR (q := 11) rfl ⟨_, _, hrg27, hrt28⟩ rfl) (O_p (.i .i64 (((x.e.c.d.length : Nat)) : Int)) (r_lenOf (v := x.dv) (n := x.e.c.d.length) rfl hdx.lenOf hdx.isSl) (O_p (.i .i64 (((((octs [a, b] ((q0.map Te.e).take i)) : Nat)) : Int) + (((x.e.c.d.length : Nat)) : Int))) (by exact (r_addi rfl rfl (wrap_i64 (by omega) (by omega)))) (pv (.i .i64 (((((octs [a, b] ((q0.map Te.e).take i)) : Nat)) : Int) + (((x.e.c.d.length : Nat)) : Int))) rfl (O_nil  (C_region  (pv (nI i) hT10 (O_p (.i .i64 ((((i : Nat)) : Int) + 1)) (by exact (r_addi rfl rfl (wrap_i64 (by omega) (by omega)))) (pv (.i .i64 ((((i : Nat)) : Int) + 1)) rfl (O_nil  ?_)))))))))))
   have hH32 := ((hH12.top1).top1)
   exact ⟨n - (i + 1), by omega, (i + 1), rfl, by omega, hH32, hT7, hT8, hT9, rfl, (by rw [octs_yes2 (te_e hxi) hin]; exact rfl)⟩
  ·
   refine C_region  (pv (pT F 0) hT7 (O_p (pT F 0) (r_nilc rfl) (pf (pT F 0) rfl rfl (O_p lv (r_ld rfl hH12.get0 rfl) (pv (nI i) hT10 ?_)))))
   refine O_q (by exact Sq.cell hlv (te_lens q0) hH12.top1 rfl (i := i) rfl (r := teRow x) (te_get hxi) (by decide)) fun v34 hv33 => ?_
   obtain ⟨rb35, ro36, rfl, hrg37, hrt38, hrb39, hput40, hqs41⟩ := hv33
   refine pf (.p (some (rb35, (ro36 + 13)))) rfl rfl (O_p (.i .i64 x.e.st) (r_ldR (q := 13) rfl ⟨_, _, hrg37, hrt38⟩ rfl) (pv (.i .i64 a) hT8 (O_p (.b false) (by exact (by rw [r_eql rfl rfl, decide_eq_false hsa])) (pv (.b false) rfl (O_gk rfl (pv (pT F 0) hT7 (O_gk rfl (O_p (pT F 0) (r_nilc rfl) (O_gk rfl (pf (pT F 0) rfl rfl (O_gk rfl (O_p lv (r_ld rfl hH12.get0 rfl) (O_gk rfl ?_)))))))))))))
   refine pv (nI i) hT10 (O_gk rfl ?_)
   refine O_q (by exact Sq.cell hlv (te_lens q0) hH12.top1 rfl (i := i) rfl (r := teRow x) (te_get hxi) (by decide)) fun v43 hv42 => ?_
   obtain ⟨rb44, ro45, rfl, hrg46, hrt47, hrb48, hput49, hqs50⟩ := hv42
   refine O_gk rfl (pf (.p (some (rb44, (ro45 + 13)))) rfl rfl (O_gk rfl (O_p (.i .i64 x.e.st) (r_ldR (q := 13) rfl ⟨_, _, hrg46, hrt47⟩ rfl) (O_gk rfl (pv (.i .i64 b) hT9 (O_gk rfl (O_p (.b (decide (x.e.st = b))) (r_eql rfl rfl) (O_p (.b (decide (x.e.st = b))) (r_pick_f rfl rfl) (O_nil  ?_)))))))))
   refine C_cond (x := (decide (x.e.st = b))) rfl (fun hc51 => ?_) (fun hc51 => ?_)
   ·
    try simp only [dz1, dz2, dz3, dz4, dz5, dz6, dz7, dz8, dz9] at hc51
    have hin : x.e.st ∈ [a, b] := by simp only [List.mem_cons, List.not_mem_nil, or_false]; omega
    refine C_region  (pv (.i .i64 ((((octs [a, b] ((q0.map Te.e).take i)) : Nat)) : Int)) hT11 (pv (pT F 0) hT7 (O_p (pT F 0) (r_nilc rfl) (pf (pT F 0) rfl rfl (O_p lv (r_ld rfl hH12.get0 rfl) (pv (nI i) hT10 ?_))))))
    refine O_q (by exact Sq.cell hlv (te_lens q0) hH12.top1 rfl (i := i) rfl (r := teRow x) (te_get hxi) (by decide)) fun v53 hv52 => ?_
    obtain ⟨rb54, ro55, rfl, hrg56, hrt57, hrb58, hput59, hqs60⟩ := hv52
    refine pf (.p (some (rb54, (ro55 + 0)))) rfl rfl (pf (.p (some (rb54, (ro55 + 11)))) rfl rfl (O_p x.dv (r_ldR (q := 11) rfl ⟨_, _, hrg56, hrt57⟩ rfl) (O_p (.i .i64 (((x.e.c.d.length : Nat)) : Int)) (r_lenOf (v := x.dv) (n := x.e.c.d.length) rfl hdx.lenOf hdx.isSl) (O_p (.i .i64 (((((octs [a, b] ((q0.map Te.e).take i)) : Nat)) : Int) + (((x.e.c.d.length : Nat)) : Int))) (by exact (r_addi rfl rfl (wrap_i64 (by omega) (by omega)))) (pv (.i .i64 (((((octs [a, b] ((q0.map Te.e).take i)) : Nat)) : Int) + (((x.e.c.d.length : Nat)) : Int))) rfl (O_nil  (C_region  (pv (nI i) hT10 (O_p (.i .i64 ((((i : Nat)) : Int) + 1)) (by exact (r_addi rfl rfl (wrap_i64 (by omega) (by omega)))) (pv (.i .i64 ((((i : Nat)) : Int) + 1)) rfl (O_nil  ?_)))))))))))
    have hH61 := ((hH12.top1).top1)
    exact ⟨n - (i + 1), by omega, (i + 1), rfl, by omega, hH61, hT7, hT8, hT9, rfl, (by rw [octs_yes2 (te_e hxi) hin]; exact rfl)⟩
   ·
    try simp only [dz1, dz2, dz3, dz4, dz5, dz6, dz7, dz8, dz9] at hc51
    have hin : ¬ x.e.st ∈ [a, b] := by simp only [List.mem_cons, List.not_mem_nil, or_false]; omega
    refine C_skip  (C_region  (pv (nI i) hT10 (O_p (.i .i64 ((((i : Nat)) : Int) + 1)) (by exact (r_addi rfl rfl (wrap_i64 (by omega) (by omega)))) (pv (.i .i64 ((((i : Nat)) : Int) + 1)) rfl (O_nil  ?_)))))
    have hH62 := ((hH12.top1).top1)
    exact ⟨n - (i + 1), by omega, (i + 1), rfl, by omega, hH62, hT7, hT8, hT9, rfl, (by rw [octs_no2 (te_e hxi) hin]; exact hT11)⟩
 ·
  try simp only [dz1, dz2, dz3, dz4, dz5, dz6, dz7, dz8, dz9] at hc13
  refine C_exit  (nx_exit  (nx_exit  (bk_hit  (C_seq  (C_region  (pv (.i .i64 ((((octs [a, b] ((q0.map Te.e).take i)) : Nat)) : Int)) hT11 (pv (.i .i64 ((((octs [a, b] ((q0.map Te.e).take i)) : Nat)) : Int)) rfl (O_nil  (C_ret  ?_)))))))))
  have hH63 := ((hH12.top1).top1)
  exact ⟨.inr rfl, _, resL_one (r_tmp (v := (.i .i64 ((((octs [a, b] ((q0.map Te.e).take i)) : Nat)) : Int))) rfl), by rw [List.take_of_length_le (by rw [List.length_map]; omega)]; rfl, hH63⟩
theorem rsteps_ev {H : AH} {R : HL} {a b : Int} (ha : 0 ≤ a ∧ a < 4294967296) (hb : 0 ≤ b ∧ b < 4294967296) (hH0 : Hs H R) : Ev tabA spA (.fn (.func 78) [] []) [.i .i64 a, .i .i64 b, .i .i64 4294967296] H (fun r H' => r = .i .i64 (if a ≤ b then b - a else b + 4294967296 - a) ∧ Hs H' R) := by
 refine Ev_C (F := x78) rfl ?_
 refine C_seq  (C_region  (pv (.i .i64 0) rfl (O_nil  (C_seq  (C_seq  (C_region  (pv (.i .i64 b) rfl (pv (.i .i64 a) rfl (O_p (.b (decide (a ≤ b))) (r_geq rfl rfl) (O_nil  ?_))))))))))
 refine C_cond (x := (decide (a ≤ b))) rfl (fun hc1 => ?_) (fun hc1 => ?_)
 ·
  try simp only [dz1, dz2, dz3, dz4, dz5, dz6, dz7, dz8, dz9] at hc1
  refine C_seq  (C_region  (pv (.i .i64 b) rfl (pv (.i .i64 a) rfl (O_p (.i .i64 (b - a)) (by exact (r_subi rfl rfl (wrap_i64 (by omega) (by omega)))) (pv (.i .i64 (b - a)) rfl (O_nil  (C_ret  (nx_ret  ?_))))))))
  exact ⟨.inr rfl, _, resL_one (r_tmp (v := (.i .i64 (b - a))) rfl), by first | (rw [if_pos (by omega)]; rfl) | (rw [if_neg (by omega)]; rfl), hH0⟩
 ·
  try simp only [dz1, dz2, dz3, dz4, dz5, dz6, dz7, dz8, dz9] at hc1
  refine C_skip  (C_seq  (C_region  (pv (.i .i64 b) rfl (pv (.i .i64 4294967296) rfl (O_p (.i .i64 (b + 4294967296)) (by exact (r_addi rfl rfl (wrap_i64 (by omega) (by omega)))) (pv (.i .i64 a) rfl (O_p (.i .i64 ((b + 4294967296) - a)) (by exact (r_subi rfl rfl (wrap_i64 (by omega) (by omega)))) (pv (.i .i64 ((b + 4294967296) - a)) rfl (O_nil  (C_ret  ?_))))))))))
  exact ⟨.inr rfl, _, resL_one (r_tmp (v := (.i .i64 ((b + 4294967296) - a))) rfl), by first | (rw [if_pos (by omega)]; rfl) | (rw [if_neg (by omega)]; rfl), hH0⟩
theorem rdist_ev {H : AH} {R : HL} {a b : Int} (ha : 0 ≤ a ∧ a < 4294967296) (hb : 0 ≤ b ∧ b < 4294967296) (hH0 : Hs H R) : Ev tabA spA (.fn (.func 76) [] []) [.i .u32 a, .i .u32 b] H (fun r H' => r = .i .u32 (w32 (b - a)) ∧ Hs H' R) := by
 refine Ev_C (F := x76) rfl ?_
 refine C_seq  (C_region  (pv (.i .u32 0) rfl (O_nil  (C_seq  (C_region  (pv (.i .u32 a) rfl (O_p (.i .i64 a) (by exact (r_cint' rfl (wrap_i64 (by omega) (by omega)))) (pv (.i .u32 b) rfl (O_p (.i .i64 b) (by exact (r_cint' rfl (wrap_i64 (by omega) (by omega)))) ?_)))))))))
 refine O_call (Ev.mono (rsteps_ev ha hb hH0) fun v1 H2 hq3 => ?_)
 obtain ⟨rfl, hH4⟩ := hq3
 refine O_p (.i .u32 (IntKind.u32.wrap (if a ≤ b then b - a else b + 4294967296 - a))) (r_cint rfl) (pv (.i .u32 (IntKind.u32.wrap (if a ≤ b then b - a else b + 4294967296 - a))) rfl (O_nil  (C_ret  ?_)))
 exact ⟨.inr rfl, _, resL_one (r_tmp (v := (.i .u32 (IntKind.u32.wrap (if a ≤ b then b - a else b + 4294967296 - a)))) rfl), by rw [← w32_dist ha hb]; rfl, hH4⟩
theorem rmay_raw {H : AH} {R : HL} {F n : Nat} {lv : AV} {lc : List AV} {nx cn : Int} {q0 : List Te} {cum : Int} {m : Nat} (hlv : Sq 19 lv lc (q0.map teRow).flatten) (hn : q0.length = n) (hql : n ≤ 100000) (hcr : 0 ≤ cum ∧ cum < 4294967296) (hcum : w32 (cum - floorA nx n) = ((m : Nat) : Int)) (hH0 : Hs H ([(F, some (.cells [lv, .i .u32 nx, .i .i64 cn] true))] ++ (qseg lv lc ++ R))) : Ev tabA spA (.fn (.func 70) [] []) [.p (some (F, 0)), .i .u32 cum] H (fun r H' => ((AckOK (q0.map Te.e) m ∧ r = .tup [.i .i64 ((m : Nat) : Int), .b true]) ∨ (¬ AckOK (q0.map Te.e) m ∧ r = .tup [.i .i64 0, .b false])) ∧ Hs H' ([(F, some (.cells [lv, .i .u32 nx, .i .i64 cn] true))] ++ (qseg lv lc ++ R))) := by
 refine Ev_C (F := x70) rfl ?_
 have hm32 := w32_nat hcum
 refine C_seq  (C_region  (pv (.i .i64 0) rfl (pv (.b false) rfl (O_nil  (C_seq  (C_region  (pv (pT F 0) rfl ?_)))))))
 have hH1 := ((hH0.top1).top1)
 refine O_call (Ev.mono (rfloor_raw hlv hn hql hH1) fun v2 H3 hq4 => ?_)
 obtain ⟨rfl, hH5⟩ := hq4
 refine pv (.i .u32 cum) rfl ?_
 refine O_call (Ev.mono (rdist_ev (by exact w32_r _) hcr hH5) fun v6 H7 hq8 => ?_)
 obtain ⟨rfl, hH9⟩ := hq8
 refine O_p (.i .i64 (((m : Nat)) : Int)) (by exact (by rw [show (AV.i .i64 ((m : Nat) : Int)) = .i .i64 (IntKind.i64.wrap (w32 (cum - floorA nx n))) by rw [hcum, wrap_i64 (by omega) (by omega)]]; exact r_cint rfl)) (pv (nI m) rfl (O_nil  (C_seq  (C_seq  (C_region  (pv (nI m) rfl (pv (pT F 0) rfl (O_p (pT F 0) (r_nilc rfl) (pf (pT F 0) rfl rfl (O_p lv (r_ld rfl hH9.get0 rfl) (O_p (nI n) (by exact (by exact r_lenOf rfl (hlv.lenOf (te_flatn hn) (by decide)) hlv.isSl)) (O_p (.b (decide ((((n : Nat)) : Int) < (((m : Nat)) : Int)))) (r_gtr rfl rfl) (O_nil  ?_)))))))))))))
 refine C_cond (x := (decide ((((n : Nat)) : Int) < (((m : Nat)) : Int)))) rfl (fun hc10 => ?_) (fun hc10 => ?_)
 ·
  try simp only [dz1, dz2, dz3, dz4, dz5, dz6, dz7, dz8, dz9] at hc10
  have hmn : n < m := by omega
  refine C_seq  (C_region  (pv (.i .i64 0) rfl (pv (.b false) rfl (O_nil  (C_ret  (nx_ret  ?_))))))
  have hH11 := ((hH9.top1).top1)
  exact ⟨.inr rfl, _, resL_cons (r_tmp (v := (.i .i64 0)) rfl) (resL_one (r_tmp (v := (.b false)) rfl)), .inr ⟨fun h9 => by have := h9.1; rw [List.length_map] at this; omega, rfl⟩, hH11⟩
 ·
  try simp only [dz1, dz2, dz3, dz4, dz5, dz6, dz7, dz8, dz9] at hc10
  have hmn : m ≤ n := by omega
  refine C_skip  (C_seq  (C_seq  (C_region  (pv (.i .i64 0) rfl (O_nil  (C_block  ?_))))))
  refine C_while (fun m12 T13 H14 => ∃ i : Nat, m12 = m - i ∧ i ≤ m ∧ m ≤ n ∧ (∀ e ∈ (q0.map Te.e).take i, ¬ e.st = 0) ∧ Hs H14 ([(F, some (.cells ([lv, (.i .u32 nx), (.i .i64 cn)]) true))] ++ ((qseg lv lc) ++ (R))) ∧ T13.get 0 = (.p (some (F, 0))) ∧ T13.get 6 = (.i .i64 (((m : Nat)) : Int)) ∧ T13.get 7 = (.i .i64 (((i : Nat)) : Int))) (fun m12 T13 H14 hI15 => ?_) m _ _ ⟨0, rfl, Nat.zero_le _, hmn, (fun e he => by rw [List.take_zero] at he; cases he), hH9, rfl, rfl, rfl⟩
  obtain ⟨i, hm16, hp17, hp18, hp19, hH23, hT20, hT21, hT22⟩ := hI15
  refine C_seq  (C_seq  (C_region  (pv (nI i) hT22 (pv (nI m) hT21 (O_p (.b (decide ((((i : Nat)) : Int) < (((m : Nat)) : Int)))) (r_lss rfl rfl) (O_nil  ?_))))))
  refine C_cond (x := (decide ((((i : Nat)) : Int) < (((m : Nat)) : Int)))) rfl (fun hc24 => ?_) (fun hc24 => ?_)
  ·
   try simp only [dz1, dz2, dz3, dz4, dz5, dz6, dz7, dz8, dz9] at hc24
   refine C_skip  (C_seq  (C_block  (C_seq  (C_region  ?_))))
   have hil : i < n := by omega
   obtain ⟨x, hxi⟩ : ∃ x, q0[i]? = some x := ⟨_, List.getElem?_eq_getElem (by omega)⟩
   refine pv (pT F 0) hT20 (O_p (pT F 0) (r_nilc rfl) (pf (pT F 0) rfl rfl (O_p lv (r_ld rfl hH23.get0 rfl) (pv (nI i) hT22 ?_))))
   refine O_q (by exact Sq.cell hlv (te_lens q0) hH23.top1 rfl (i := i) rfl (r := teRow x) (te_get hxi) (by decide)) fun v26 hv25 => ?_
   obtain ⟨rb27, ro28, rfl, hrg29, hrt30, hrb31, hput32, hqs33⟩ := hv25
   refine pf (.p (some (rb27, (ro28 + 13)))) rfl rfl (O_p (.i .i64 x.e.st) (r_ldR (q := 13) rfl ⟨_, _, hrg29, hrt30⟩ rfl) (O_p (.b (decide (x.e.st = 0))) (r_eql rfl rfl) (O_nil  ?_)))
   refine C_cond (x := (decide (x.e.st = 0))) rfl (fun hc34 => ?_) (fun hc34 => ?_)
   ·
    try simp only [dz1, dz2, dz3, dz4, dz5, dz6, dz7, dz8, dz9] at hc34
    have hne : x.e.st = 0 := hc34
    refine C_seq  (C_region  (pv (.i .i64 0) rfl (pv (.b false) rfl (O_nil  (C_ret  (bk_ret  (nx_ret  (nx_ret  (bk_ret  (nx_ret  ?_))))))))))
    have hH35 := ((hH23.top1).top1)
    exact ⟨.inr rfl, _, resL_cons (r_tmp (v := (.i .i64 0)) rfl) (resL_one (r_tmp (v := (.b false)) rfl)), .inr ⟨fun h9 => h9.2 _ (mem_take_at (te_e hxi) (by omega)) hne, rfl⟩, hH35⟩
   ·
    try simp only [dz1, dz2, dz3, dz4, dz5, dz6, dz7, dz8, dz9] at hc34
    have hne : ¬ x.e.st = 0 := hc34
    refine C_skip  (C_region  (pv (nI i) hT22 (O_p (.i .i64 ((((i : Nat)) : Int) + 1)) (by exact (r_addi rfl rfl (wrap_i64 (by omega) (by omega)))) (pv (.i .i64 ((((i : Nat)) : Int) + 1)) rfl (O_nil  ?_)))))
    have hH36 := ((hH23.top1).top1)
    exact ⟨m - (i + 1), by omega, (i + 1), rfl, by omega, hmn, fun e he => by rw [take_at (te_e hxi)] at he; rcases List.mem_append.1 he with h9 | h9; exact hp19 e h9; rw [List.mem_singleton.1 h9]; exact hne, hH36, hT20, hT21, rfl⟩
  ·
   try simp only [dz1, dz2, dz3, dz4, dz5, dz6, dz7, dz8, dz9] at hc24
   refine C_exit  (nx_exit  (nx_exit  (bk_hit  (C_seq  (C_region  (pv (nI m) hT21 (pv (nI m) rfl (pv (.b true) rfl (O_nil  (C_ret  ?_))))))))))
   have hH37 := ((hH23.top1).top1)
   exact ⟨.inr rfl, _, resL_cons (r_tmp (v := (.i .i64 (((m : Nat)) : Int))) rfl) (resL_one (r_tmp (v := (.b true)) rfl)), .inl ⟨⟨by rw [List.length_map, hn]; omega, by have h9 := hp19; rw [show i = m by omega] at h9; exact h9⟩, rfl⟩, hH37⟩
set_option linter.unusedVariables false
set_option linter.unusedSimpArgs false
theorem Upd.part {f : Ea → Ea} {i : Nat} {q0 q : List Te} (h : Upd (fun _ x => f x.e) i q0 q) : q.map Te.e = ((q0.map Te.e).take i).map f ++ (q0.map Te.e).drop i := List.ext_getElem? fun k => by
  rw [h.es k]
  by_cases hk : k < i
  · by_cases hl : k < q0.length
    · rw [List.getElem?_append_left (by rw [List.length_map, List.length_take, List.length_map]; omega), List.getElem?_map, List.getElem?_take, if_pos hk, List.getElem?_map]
      cases q0[k]? with
      | none => rfl
      | some x => simp only [Option.map_some, if_pos hk]
    · rw [List.getElem?_eq_none (by omega), List.getElem?_eq_none (by rw [List.length_append, List.length_map, List.length_take, List.length_drop, List.length_map]; omega)]; rfl
  · by_cases hi : i ≤ q0.length
    · rw [List.getElem?_append_right (by rw [List.length_map, List.length_take, List.length_map]; omega), List.getElem?_drop, List.length_map, List.length_take, List.length_map, Nat.min_eq_left hi, show i + (k - i) = k by omega, List.getElem?_map]
      cases q0[k]? with
      | none => rfl
      | some x => simp only [Option.map_some, if_neg hk]
    · rw [List.getElem?_eq_none (by omega), List.getElem?_eq_none (by rw [List.length_append, List.length_map, List.length_take, List.length_drop, List.length_map]; omega)]; rfl
section
variable {S now RM rm : Int} {es A told : List Ea} {j : Nat} {e : Ea}
def flS1 (S now : Int) (e : Ea) : Ea := if e.st = S then e.fly now else e
theorem tl_skip (h : es[j]? = some e) (hst : ¬ e.st = S) (hT : takeL S now (es.take j) RM = ((es.take j).map (flS1 S now), told, rm, false)) : takeL S now (es.take (j + 1)) RM = ((es.take (j + 1)).map (flS1 S now), told, rm, false) := by
 have e1 : flS1 S now e = e := by unfold flS1; rw [if_neg hst]
 rw [take_at h, takeL_app, hT, takeL_ne hst, List.map_append, List.map_cons, List.map_nil, e1]
 show (_, _ ++ [], _, false) = _
 rw [List.append_nil]; rfl
theorem tl_fly (h : es[j]? = some e) (hst : e.st = S) (hT : takeL S now (es.take j) RM = ((es.take j).map (flS1 S now), told, rm, false)) (hr : ¬ rm < (e.c.d.length : Int)) : takeL S now (es.take (j + 1)) RM = ((es.take (j + 1)).map (flS1 S now), told ++ [e], rm - ((e.c.d.length : Nat) : Int), false) := by
 have e1 : flS1 S now e = e.fly now := by unfold flS1; rw [if_pos hst]
 rw [take_at h, takeL_app, hT, takeL_fit hst hr, List.map_append, List.map_cons, List.map_nil, e1]; rfl
theorem tl_stop (h : es[j]? = some e) (hst : e.st = S) (hT : takeL S now (es.take j) RM = ((es.take j).map (flS1 S now), told, rm, false)) (hr : rm < (e.c.d.length : Int)) : takeL S now es RM = ((es.take j).map (flS1 S now) ++ es.drop j, told, rm, true) := by
 have e1 : takeL S now es RM = takeL S now (es.take j ++ es.drop j) RM := by rw [List.take_append_drop]
 rw [e1, takeL_app, hT, drop_at h, takeL_full hst hr]
 show (_, _ ++ [], _, true) = _
 rw [List.append_nil]
end
def ovO (m : Int) (x : Te) : Bool := decide (x.z.k = m) && decide (x.e.st < 3)
def lateR (now : Int) (x : Te) : Bool := (decide (0 ≤ x.z.un) && decide (x.z.un < now)) || ((decide (0 ≤ x.z.tr) && decide (x.e.st = 2)) && decide (x.z.tr < x.e.sent))
def ovL (m now : Int) (x : Te) : Bool := decide (x.z.k = m) && lateR now x
def ovR (now m : Int) (q : List Te) : Bool := q.any (ovO m) && q.any (ovL m now)
theorem any_at {α : Type} {P : α → Bool} {l : List α} {j : Nat} {x : α} (h : l[j]? = some x) : (l.take (j + 1)).any P = ((l.take j).any P || P x) := by
 rw [take_at h, List.any_append]; simp only [List.any_cons, List.any_nil, Bool.or_false]
def gvE (m : Int) (x : Te) : Ea := if x.z.k = m then x.e.setSt 4 else x.e
def gvR (m : Int) (q : List Te) : List Te := q.map fun x => ⟨gvE m x, x.z, x.dv⟩
theorem Upd.gv {m : Int} {i : Nat} {q0 q : List Te} (h : Upd (fun _ x => gvE m x) i q0 q) (hi : q0.length ≤ i) : q = gvR m q0 := List.ext_getElem? fun k => by
  unfold gvR
  rw [h k, List.getElem?_map]
  cases hk : q0[k]? with
  | none => rfl
  | some x =>
    have := (List.getElem?_eq_some_iff.1 hk).1
    simp only [Option.map_some]; rw [if_pos (by omega)]
theorem gvE_d {m : Int} {x : Te} : (gvE m x).c = x.e.c := by unfold gvE; split <;> rfl
theorem gvR_ok {D : HL} {m : Int} {q : List Te} (h : ∀ x ∈ q, OctIn D x.dv x.e.c.d) : ∀ x ∈ gvR m q, OctIn D x.dv x.e.c.d := fun x hx => by
  obtain ⟨y, hy, rfl⟩ := List.mem_map.1 hx
  show OctIn D y.dv (gvE m y).c.d
  rw [gvE_d]; exact h y hy
def exR (now : Int) (s : List Te × Nat) (i : Nat) : List Te × Nat := match s.1[i]? with
  | some x => if ovR now x.z.k s.1 = true then (gvR x.z.k s.1, s.2 + 1) else s
  | none => s
theorem exR_at {now : Int} {i : Nat} {s : List Te × Nat} : (List.range (i + 1)).foldl (exR now) s = exR now ((List.range i).foldl (exR now) s) i := by
 rw [List.range_succ, List.foldl_append]; rfl
theorem rtime_raw {H : AH} {R D : HL} {F n : Nat} {lv : AV} {lc : List AV} {nx cn : Int} {q0 : List Te} (hlv : Sq 19 lv lc (q0.map teRow).flatten) (hn : q0.length = n) (hql : n ≤ 100000) (hok : ∀ x ∈ q0, OctIn D x.dv x.e.c.d) (hH0 : Hs H ([(F, some (.cells [lv, .i .u32 nx, .i .i64 cn] true))] ++ (qseg lv lc ++ R))) : Ev tabA spA (.fn (.func 51) [] []) [.p (some (F, 0))] H (fun r H' => ∃ (q : List Te) (lc' : List AV), r = .i .i64 ((tcn (q0.map Te.e) : Nat) : Int) ∧ q.map Te.e = (q0.map Te.e).map toE ∧ q.map Te.z = q0.map Te.z ∧ (∀ x ∈ q, OctIn D x.dv x.e.c.d) ∧ Sq 19 lv lc' (q.map teRow).flatten ∧ q.length = n ∧ Hs H' ([(F, some (.cells [lv, .i .u32 nx, .i .i64 cn] true))] ++ (qseg lv lc' ++ R))) := by
 refine Ev_C (F := x51) rfl ?_
 refine C_seq  (C_region  (pv (.i .i64 0) rfl (O_nil  (C_seq  (C_region  (pv (.i .i64 0) rfl (O_nil  (C_seq  (C_seq  (C_region  (pv (.i .i64 0) rfl (O_nil  (C_block  ?_)))))))))))))
 refine C_while (fun m1 T2 H3 => ∃ q : List Te, ∃ lc : List AV, ∃ i : Nat, m1 = n - i ∧ i ≤ n ∧ Sq 19 lv lc (q.map teRow).flatten ∧ q.length = n ∧ Upd (fun _ x => toE x.e) i q0 q ∧ Hs H3 ([(F, some (.cells ([lv, (.i .u32 nx), (.i .i64 cn)]) true))] ++ ((qseg lv lc) ++ (R))) ∧ T2.get 0 = (.p (some (F, 0))) ∧ T2.get 4 = (.i .i64 (((i : Nat)) : Int)) ∧ T2.get 3 = (.i .i64 ((((tcn ((q0.map Te.e).take i)) : Nat)) : Int))) (fun m1 T2 H3 hI4 => ?_) n _ _ ⟨q0, lc, 0, rfl, Nat.zero_le _, hlv, hn, Upd.zero, hH0, rfl, rfl, rfl⟩
 obtain ⟨q, lc, i, hm5, hp6, hp7, hp8, hp9, hH13, hT10, hT11, hT12⟩ := hI4
 have htl := tcn_le (l := (q0.map Te.e).take i)
 have htk : ((q0.map Te.e).take i).length ≤ i := by rw [List.length_take]; omega
 refine C_seq  (C_seq  (C_region  (pv (nI i) hT11 (pv (pT F 0) hT10 (O_p (pT F 0) (r_nilc rfl) (pf (pT F 0) rfl rfl (O_p lv (r_ld rfl hH13.get0 rfl) (O_p (nI n) (by exact (by exact r_lenOf rfl (hp7.lenOf (te_flatn hp8) (by decide)) hp7.isSl)) (O_p (.b (decide ((((i : Nat)) : Int) < (((n : Nat)) : Int)))) (r_lss rfl rfl) (O_nil  ?_))))))))))
 refine C_cond (x := (decide ((((i : Nat)) : Int) < (((n : Nat)) : Int)))) rfl (fun hc14 => ?_) (fun hc14 => ?_)
 ·
  try simp only [dz1, dz2, dz3, dz4, dz5, dz6, dz7, dz8, dz9] at hc14
  refine C_skip  (C_seq  (C_block  (C_seq  (C_region  ?_))))
  have hil : i < n := by omega
  obtain ⟨x, hxi⟩ : ∃ x, q0[i]? = some x := ⟨_, List.getElem?_eq_getElem (by omega)⟩
  have hxq := hp9.get hxi
  refine pv (pT F 0) hT10 (O_p (pT F 0) (r_nilc rfl) (pf (pT F 0) rfl rfl (O_p lv (r_ld rfl hH13.get0 rfl) (pv (nI i) hT11 ?_))))
  refine O_q (by exact Sq.cell hp7 (te_lens q) hH13.top1 rfl (i := i) rfl (r := teRow x) (te_get hxq) (by decide)) fun v16 hv15 => ?_
  obtain ⟨rb17, ro18, rfl, hrg19, hrt20, hrb21, hput22, hqs23⟩ := hv15
  refine pf (.p (some (rb17, (ro18 + 13)))) rfl rfl (O_p (.i .i64 x.e.st) (r_ldR (q := 13) rfl ⟨_, _, hrg19, hrt20⟩ rfl) (O_p (.b (decide (x.e.st = 1))) (r_eql rfl rfl) (O_nil  ?_)))
  refine C_cond (x := (decide (x.e.st = 1))) rfl (fun hc24 => ?_) (fun hc24 => ?_)
  ·
   try simp only [dz1, dz2, dz3, dz4, dz5, dz6, dz7, dz8, dz9] at hc24
   have hst : x.e.st = 1 := hc24
   refine C_seq  (C_region  (pv (pT F 0) hT10 (O_p (pT F 0) (r_nilc rfl) (pf (pT F 0) rfl rfl (O_p lv (r_ld rfl hH13.get0 rfl) (pv (nI i) hT11 ?_))))))
   refine O_q (by exact Sq.cell hp7 (te_lens q) hH13.top1 rfl (i := i) rfl (r := teRow x) (te_get hxq) (by decide)) fun v26 hv25 => ?_
   obtain ⟨rb27, ro28, rfl, hrg29, hrt30, hrb31, hput32, hqs33⟩ := hv25
   refine pf (.p (some (rb27, (ro28 + 13)))) rfl rfl ?_
   refine O_store (vs := [(.i .i64 2)]) (c' := (putAt lc (ro28 + 13) [(.i .i64 2)])) rfl (by rfl) hrg29 rfl (List.cons_ne_nil _ _) (by have := hrb31; show _ + 1 ≤ _; omega) rfl fun H34 hW35 => ?_
   have hH37 := Hs.cong1 (Hs.wr1 (Hs.cong1 hH13 (hqs33 _)) hW35) (hqs33 _).symm
   have hSq36 := hput32 13 [(.i .i64 2)] [(.i .u8 x.e.c.k), (.i .u8 x.e.c.f), (.i .u32 x.e.a), (.i .u32 x.e.c.b), (.i .u16 x.e.c.o), (.i .u16 x.e.c.i), (.i .u32 x.e.c.p), x.e.c.x1, x.e.c.x2, x.e.c.x3, x.e.c.x4, x.dv, (.i .i64 x.z.k), (.i .i64 2), (.i .i64 x.e.sent), (.i .i64 x.e.tm), (.i .i64 x.e.mi), (.i .i64 x.z.un), (.i .i64 x.z.tr)] (Nat.le_of_ble_eq_true rfl) rfl
   obtain ⟨qq38, he39⟩ : ∃ z : List Te, z = q.set i ⟨⟨x.e.c, x.e.a, 2, x.e.sent, x.e.tm, x.e.mi⟩, x.z, x.dv⟩ := ⟨_, rfl⟩
   have hs42 : Sq 19 lv (putAt lc (ro28 + 13) [(.i .i64 2)]) (qq38.map teRow).flatten := by rw [he39, List.map_set]; exact hSq36
   have hn40 : qq38.length = n := by rw [he39, List.length_set]; exact hp8
   have hx41 : qq38[i]? = some ⟨⟨x.e.c, x.e.a, 2, x.e.sent, x.e.tm, x.e.mi⟩, x.z, x.dv⟩ := by rw [he39]; exact List.getElem?_set_self (by omega)
   refine O_nil  (C_region  (pv (.i .i64 ((((tcn ((q0.map Te.e).take i)) : Nat)) : Int)) hT12 (O_p (.i .i64 (((((tcn ((q0.map Te.e).take i)) : Nat)) : Int) + 1)) (by exact (r_addi rfl rfl (wrap_i64 (by omega) (by omega)))) (pv (.i .i64 (((((tcn ((q0.map Te.e).take i)) : Nat)) : Int) + 1)) rfl (O_nil  (C_region  (pv (nI i) hT11 (O_p (.i .i64 ((((i : Nat)) : Int) + 1)) (by exact (r_addi rfl rfl (wrap_i64 (by omega) (by omega)))) (pv (.i .i64 ((((i : Nat)) : Int) + 1)) rfl (O_nil  ?_))))))))))
   have hH43 := ((hH37.top1).top1)
   exact ⟨n - (i + 1), by omega, qq38, (putAt lc (ro28 + 13) [(.i .i64 2)]), (i + 1), rfl, by omega, hs42, hn40, by rw [he39]; exact hp9.set hxi (toE_yes hst), hH43, hT10, rfl, (by rw [tcn_yes (te_e hxi) hst]; exact rfl)⟩
  ·
   try simp only [dz1, dz2, dz3, dz4, dz5, dz6, dz7, dz8, dz9] at hc24
   have hst : ¬ x.e.st = 1 := hc24
   refine C_skip  (C_region  (pv (nI i) hT11 (O_p (.i .i64 ((((i : Nat)) : Int) + 1)) (by exact (r_addi rfl rfl (wrap_i64 (by omega) (by omega)))) (pv (.i .i64 ((((i : Nat)) : Int) + 1)) rfl (O_nil  ?_)))))
   have hH44 := ((hH13.top1).top1)
   exact ⟨n - (i + 1), by omega, q, lc, (i + 1), rfl, by omega, hp7, hp8, hp9.skip hxi (toE_no hst), hH44, hT10, rfl, (by rw [tcn_no (te_e hxi) hst]; exact hT12)⟩
 ·
  try simp only [dz1, dz2, dz3, dz4, dz5, dz6, dz7, dz8, dz9] at hc14
  refine C_exit  (nx_exit  (nx_exit  (bk_hit  (C_seq  (C_region  (pv (.i .i64 ((((tcn ((q0.map Te.e).take i)) : Nat)) : Int)) hT12 (pv (.i .i64 ((((tcn ((q0.map Te.e).take i)) : Nat)) : Int)) rfl (O_nil  (C_ret  ?_)))))))))
  have hH45 := ((hH13.top1).top1)
  exact ⟨.inr rfl, _, resL_one (r_tmp (v := (.i .i64 ((((tcn ((q0.map Te.e).take i)) : Nat)) : Int))) rfl), q, lc, by rw [List.take_of_length_le (by rw [List.length_map]; omega)]; rfl, hp9.all (by omega), hp9.zs, hp9.ok hok (fun k x => by show (toE x.e).c.d = _; unfold toE; split <;> rfl), hp7, hp8, hH45⟩
set_option maxHeartbeats 2000000 in
theorem rover_raw {H : AH} {R : HL} {F n : Nat} {lv : AV} {lc : List AV} {nx cn : Int} {q0 : List Te} {mm now : Int} (hlv : Sq 19 lv lc (q0.map teRow).flatten) (hn : q0.length = n) (hql : n ≤ 100000) (hH0 : Hs H ([(F, some (.cells [lv, .i .u32 nx, .i .i64 cn] true))] ++ (qseg lv lc ++ R))) : Ev tabA spA (.fn (.func 71) [] []) [.p (some (F, 0)), .i .i64 mm, .i .i64 now] H (fun r H' => r = .b (ovR now mm q0) ∧ Hs H' ([(F, some (.cells [lv, .i .u32 nx, .i .i64 cn] true))] ++ (qseg lv lc ++ R))) := by
 refine Ev_C (F := x71) rfl ?_
 refine C_seq  (C_region  (pv (.b false) rfl (O_nil  (C_seq  (C_region  (pv (.b false) rfl (O_nil  (C_seq  (C_region  (pv (.b false) rfl (O_nil  (C_seq  (C_seq  ?_)))))))))))))
 refine C_region  (pv (.i .i64 0) rfl (O_nil  (C_block  ?_)))
 refine C_while (fun m1 T2 H3 => ∃ bo : Bool, ∃ bl : Bool, ∃ i : Nat, m1 = n - i ∧ i ≤ n ∧ bo = (q0.take i).any (ovO mm) ∧ bl = (q0.take i).any (ovL mm now) ∧ Hs H3 ([(F, some (.cells ([lv, (.i .u32 nx), (.i .i64 cn)]) true))] ++ ((qseg lv lc) ++ (R))) ∧ T2.get 0 = (.p (some (F, 0))) ∧ T2.get 1 = (.i .i64 mm) ∧ T2.get 2 = (.i .i64 now) ∧ T2.get 7 = (.b bo) ∧ T2.get 8 = (.b bl) ∧ T2.get 9 = (.i .i64 (((i : Nat)) : Int))) (fun m1 T2 H3 hI4 => ?_) n _ _ ⟨false, false, 0, rfl, Nat.zero_le _, by rw [List.take_zero]; rfl, by rw [List.take_zero]; rfl, hH0, rfl, rfl, rfl, rfl, rfl, rfl⟩
 obtain ⟨bo, bl, i, hm5, hp6, hp7, hp8, hH15, hT9, hT10, hT11, hT12, hT13, hT14⟩ := hI4
 refine C_seq  (C_seq  (C_region  (pv (nI i) hT14 (pv (pT F 0) hT9 (O_p (pT F 0) (r_nilc rfl) (pf (pT F 0) rfl rfl (O_p lv (r_ld rfl hH15.get0 rfl) (O_p (nI n) (by exact (by exact r_lenOf rfl (hlv.lenOf (te_flatn hn) (by decide)) hlv.isSl)) (O_p (.b (decide ((((i : Nat)) : Int) < (((n : Nat)) : Int)))) (r_lss rfl rfl) (O_nil  ?_))))))))))
 refine C_cond (x := (decide ((((i : Nat)) : Int) < (((n : Nat)) : Int)))) rfl (fun hc16 => ?_) (fun hc16 => ?_)
 ·
  try simp only [dz1, dz2, dz3, dz4, dz5, dz6, dz7, dz8, dz9] at hc16
  refine C_skip  (C_seq  (C_block  (C_seq  (C_region  ?_))))
  have hil : i < n := by omega
  obtain ⟨x, hxi⟩ : ∃ x, q0[i]? = some x := ⟨_, List.getElem?_eq_getElem (by omega)⟩
  refine pv (pT F 0) hT9 (O_p (pT F 0) (r_nilc rfl) (pf (pT F 0) rfl rfl (O_p lv (r_ld rfl hH15.get0 rfl) (pv (nI i) hT14 ?_))))
  refine O_q (by exact Sq.cell hlv (te_lens q0) hH15.top1 rfl (i := i) rfl (r := teRow x) (te_get hxi) (by decide)) fun v18 hv17 => ?_
  obtain ⟨rb19, ro20, rfl, hrg21, hrt22, hrb23, hput24, hqs25⟩ := hv17
  refine O_p (.agg [(.i .u8 x.e.c.k), (.i .u8 x.e.c.f), (.i .u32 x.e.a), (.i .u32 x.e.c.b), (.i .u16 x.e.c.o), (.i .u16 x.e.c.i), (.i .u32 x.e.c.p), x.e.c.x1, x.e.c.x2, x.e.c.x3, x.e.c.x4, x.dv, (.i .i64 x.z.k), (.i .i64 x.e.st), (.i .i64 x.e.sent), (.i .i64 x.e.tm), (.i .i64 x.e.mi), (.i .i64 x.z.un), (.i .i64 x.z.tr)]) (r_ldRA (q := 0) rfl ⟨_, _, hrg21, hrt22⟩ rfl) ?_
  refine O_alloc fun n26 H27 hN28 => ?_
  have hH29 := hH15.new hN28
  refine O_store (vs := [(.i .u8 x.e.c.k), (.i .u8 x.e.c.f), (.i .u32 x.e.a), (.i .u32 x.e.c.b), (.i .u16 x.e.c.o), (.i .u16 x.e.c.i), (.i .u32 x.e.c.p), x.e.c.x1, x.e.c.x2, x.e.c.x3, x.e.c.x4, x.dv, (.i .i64 x.z.k), (.i .i64 x.e.st), (.i .i64 x.e.sent), (.i .i64 x.e.tm), (.i .i64 x.e.mi), (.i .i64 x.z.un), (.i .i64 x.z.tr)]) (c' := [(.i .u8 x.e.c.k), (.i .u8 x.e.c.f), (.i .u32 x.e.a), (.i .u32 x.e.c.b), (.i .u16 x.e.c.o), (.i .u16 x.e.c.i), (.i .u32 x.e.c.p), x.e.c.x1, x.e.c.x2, x.e.c.x3, x.e.c.x4, x.dv, (.i .i64 x.z.k), (.i .i64 x.e.st), (.i .i64 x.e.sent), (.i .i64 x.e.tm), (.i .i64 x.e.mi), (.i .i64 x.z.un), (.i .i64 x.z.tr)]) rfl (by rfl) hH29.get0 rfl (List.cons_ne_nil _ _) (Nat.le_of_ble_eq_true rfl) (putAt_all rfl) fun H30 hW31 => ?_
  have hH32 := hH29.wr0 hW31
  refine O_nil  (C_seq  (C_seq  (C_region  (pf (pT n26 12) rfl rfl (O_p (.i .i64 x.z.k) (r_ld rfl hH32.get0 rfl) (pv (.i .i64 mm) hT10 (O_p (.b (!decide (x.z.k = mm))) (r_neq rfl rfl) (O_nil  ?_))))))))
  refine C_cond (x := (!decide (x.z.k = mm))) rfl (fun hc33 => ?_) (fun hc33 => ?_)
  ·
   try simp only [dz1, dz2, dz3, dz4, dz5, dz6, dz7, dz8, dz9] at hc33
   have hmm : ¬ x.z.k = mm := by simpa using hc33
   refine C_exit  (nx_exit  (bk_hit  (C_region  (pv (nI i) hT14 (O_p (.i .i64 ((((i : Nat)) : Int) + 1)) (by exact (r_addi rfl rfl (wrap_i64 (by omega) (by omega)))) (pv (.i .i64 ((((i : Nat)) : Int) + 1)) rfl (O_nil  ?_)))))))
   have hH34 := (hH32.sub0)
   have hH35 := ((hH34.top1).top1)
   exact ⟨n - (i + 1), by omega, bo, bl, (i + 1), rfl, by omega, by rw [any_at hxi, ← hp7]; unfold ovO; rw [decide_eq_false hmm, Bool.false_and, Bool.or_false], by rw [any_at hxi, ← hp8]; unfold ovL; rw [decide_eq_false hmm, Bool.false_and, Bool.or_false], hH35, hT9, hT10, hT11, hT12, hT13, rfl⟩
  ·
   try simp only [dz1, dz2, dz3, dz4, dz5, dz6, dz7, dz8, dz9] at hc33
   have hmm : x.z.k = mm := by simpa using hc33
   refine C_skip  (C_seq  (C_region  (pv (.b bo) hT12 (pv (.b bo) rfl (O_gx (e := (!bo)) (v := (pT n26 13)) (wf rfl) (fun he => (r_fadd' rfl rfl)) (O_gx (e := (!bo)) (v := (.i .i64 x.e.st)) (wf rfl) (fun he => (r_ld (cond_pos he) hH32.get0 rfl)) (O_gx (e := (!bo)) (v := (.b (decide (x.e.st < 3)))) (wf rfl) (fun he => (r_lss (cond_pos he) rfl)) (O_p (.b (bo || (decide (x.e.st < 3)))) (r_pick_or rfl rfl rfl rfl) (pv (.b (bo || (decide (x.e.st < 3)))) rfl (O_nil  (C_region  (pv (.b bl) hT13 (pv (.b bl) rfl ?_)))))))))))))
   refine O_gx (e := (!bl)) (v := (pT n26 17)) (wf rfl) (fun he => (r_fadd' rfl rfl)) (O_gx (e := (!bl)) (v := (.i .i64 x.z.un)) (wf rfl) (fun he => (r_ld (cond_pos he) hH32.get0 rfl)) (O_gx (e := (!bl)) (v := (.b (decide (0 ≤ x.z.un)))) (wf rfl) (fun he => (r_geq (cond_pos he) rfl)) (O_gx (e := (!bl)) (v := (.b (decide (0 ≤ x.z.un)))) (wf rfl) (fun he => (r_mv (cond_pos he))) (O_gx (e := ((!bl) && (decide (0 ≤ x.z.un)))) (v := (pT n26 17)) (wtg rfl) (fun he => (r_fadd' rfl rfl)) (O_gx (e := ((!bl) && (decide (0 ≤ x.z.un)))) (v := (.i .i64 x.z.un)) (wtg rfl) (fun he => (r_ld (cond_pos he) hH32.get0 rfl)) (O_gx (e := ((!bl) && (decide (0 ≤ x.z.un)))) (v := (.i .i64 now)) (wtg rfl) (fun he => (r_mv hT11)) (O_gx (e := ((!bl) && (decide (0 ≤ x.z.un)))) (v := (.b (decide (x.z.un < now)))) (wtg rfl) (fun he => (r_lss (cond_pos he) (cond_pos he))) (O_gx (e := (!bl)) (v := (.b ((decide (0 ≤ x.z.un)) && (decide (x.z.un < now))))) (wf rfl) (fun he => (r_pick_and (cond_pos he) rfl (and_t he) rfl)) (O_p (.b (bl || ((decide (0 ≤ x.z.un)) && (decide (x.z.un < now))))) (r_pick_or rfl rfl rfl rfl) (pv (.b (bl || ((decide (0 ≤ x.z.un)) && (decide (x.z.un < now))))) rfl (O_gx (e := (!(bl || ((decide (0 ≤ x.z.un)) && (decide (x.z.un < now)))))) (v := (pT n26 18)) (wf rfl) (fun he => (r_fadd' rfl rfl)) (O_gx (e := (!(bl || ((decide (0 ≤ x.z.un)) && (decide (x.z.un < now)))))) (v := (.i .i64 x.z.tr)) (wf rfl) (fun he => (r_ld (cond_pos he) hH32.get0 rfl)) ?_))))))))))))
   refine O_gx (e := (!(bl || ((decide (0 ≤ x.z.un)) && (decide (x.z.un < now)))))) (v := (.b (decide (0 ≤ x.z.tr)))) (wf rfl) (fun he => (r_geq (cond_pos he) rfl)) (O_gx (e := (!(bl || ((decide (0 ≤ x.z.un)) && (decide (x.z.un < now)))))) (v := (.b (decide (0 ≤ x.z.tr)))) (wf rfl) (fun he => (r_mv (cond_pos he))) (O_gx (e := ((!(bl || ((decide (0 ≤ x.z.un)) && (decide (x.z.un < now))))) && (decide (0 ≤ x.z.tr)))) (v := (pT n26 13)) (wtg rfl) (fun he => (r_fadd' rfl rfl)) (O_gx (e := ((!(bl || ((decide (0 ≤ x.z.un)) && (decide (x.z.un < now))))) && (decide (0 ≤ x.z.tr)))) (v := (.i .i64 x.e.st)) (wtg rfl) (fun he => (r_ld (cond_pos he) hH32.get0 rfl)) (O_gx (e := ((!(bl || ((decide (0 ≤ x.z.un)) && (decide (x.z.un < now))))) && (decide (0 ≤ x.z.tr)))) (v := (.b (decide (x.e.st = 2)))) (wtg rfl) (fun he => (r_eql (cond_pos he) rfl)) (O_gx (e := (!(bl || ((decide (0 ≤ x.z.un)) && (decide (x.z.un < now)))))) (v := (.b ((decide (0 ≤ x.z.tr)) && (decide (x.e.st = 2))))) (wf rfl) (fun he => (r_pick_and (cond_pos he) rfl (and_t he) rfl)) (O_gx (e := (!(bl || ((decide (0 ≤ x.z.un)) && (decide (x.z.un < now)))))) (v := (.b ((decide (0 ≤ x.z.tr)) && (decide (x.e.st = 2))))) (wf rfl) (fun he => (r_mv (cond_pos he))) (O_gx (e := ((!(bl || ((decide (0 ≤ x.z.un)) && (decide (x.z.un < now))))) && ((decide (0 ≤ x.z.tr)) && (decide (x.e.st = 2))))) (v := (pT n26 14)) (wtg rfl) (fun he => (r_fadd' rfl rfl)) ?_)))))))
   refine O_gx (e := ((!(bl || ((decide (0 ≤ x.z.un)) && (decide (x.z.un < now))))) && ((decide (0 ≤ x.z.tr)) && (decide (x.e.st = 2))))) (v := (.i .i64 x.e.sent)) (wtg rfl) (fun he => (r_ld (cond_pos he) hH32.get0 rfl)) (O_gx (e := ((!(bl || ((decide (0 ≤ x.z.un)) && (decide (x.z.un < now))))) && ((decide (0 ≤ x.z.tr)) && (decide (x.e.st = 2))))) (v := (pT n26 18)) (wtg rfl) (fun he => (r_fadd' rfl rfl)) (O_gx (e := ((!(bl || ((decide (0 ≤ x.z.un)) && (decide (x.z.un < now))))) && ((decide (0 ≤ x.z.tr)) && (decide (x.e.st = 2))))) (v := (.i .i64 x.z.tr)) (wtg rfl) (fun he => (r_ld (cond_pos he) hH32.get0 rfl)) (O_gx (e := ((!(bl || ((decide (0 ≤ x.z.un)) && (decide (x.z.un < now))))) && ((decide (0 ≤ x.z.tr)) && (decide (x.e.st = 2))))) (v := (.b (decide (x.z.tr < x.e.sent)))) (wtg rfl) (fun he => (r_gtr (cond_pos he) (cond_pos he))) (O_gx (e := (!(bl || ((decide (0 ≤ x.z.un)) && (decide (x.z.un < now)))))) (v := (.b (((decide (0 ≤ x.z.tr)) && (decide (x.e.st = 2))) && (decide (x.z.tr < x.e.sent))))) (wf rfl) (fun he => (r_pick_and (cond_pos he) rfl (and_t he) rfl)) (O_p (.b ((bl || ((decide (0 ≤ x.z.un)) && (decide (x.z.un < now)))) || (((decide (0 ≤ x.z.tr)) && (decide (x.e.st = 2))) && (decide (x.z.tr < x.e.sent))))) (r_pick_or rfl rfl rfl rfl) (pv (.b ((bl || ((decide (0 ≤ x.z.un)) && (decide (x.z.un < now)))) || (((decide (0 ≤ x.z.tr)) && (decide (x.e.st = 2))) && (decide (x.z.tr < x.e.sent))))) rfl ?_))))))
   refine O_nil  (C_region  (pv (nI i) hT14 (O_p (.i .i64 ((((i : Nat)) : Int) + 1)) (by exact (r_addi rfl rfl (wrap_i64 (by omega) (by omega)))) (pv (.i .i64 ((((i : Nat)) : Int) + 1)) rfl (O_nil  ?_)))))
   have hH36 := (hH32.sub0)
   have hH37 := ((hH36.top1).top1)
   exact ⟨n - (i + 1), by omega, (bo || (decide (x.e.st < 3))), ((bl || ((decide (0 ≤ x.z.un)) && (decide (x.z.un < now)))) || (((decide (0 ≤ x.z.tr)) && (decide (x.e.st = 2))) && (decide (x.z.tr < x.e.sent)))), (i + 1), rfl, by omega, by rw [any_at hxi, ← hp7]; unfold ovO; rw [decide_eq_true hmm, Bool.true_and], by rw [any_at hxi, ← hp8]; unfold ovL lateR; rw [decide_eq_true hmm, Bool.true_and]; simp only [Bool.or_assoc, Bool.and_assoc, ge_iff_le], hH37, hT9, hT10, hT11, rfl, rfl, rfl⟩
 ·
  try simp only [dz1, dz2, dz3, dz4, dz5, dz6, dz7, dz8, dz9] at hc16
  refine C_exit  (nx_exit  (nx_exit  (bk_hit  (C_seq  (C_region  (pv (.b bo) hT12 (pv (.b bo) rfl (O_gx (e := bo) (v := (.b bl)) (wt rfl) (fun he => (r_mv hT13)) (O_p (.b (bo && bl)) (r_pick_and rfl rfl rfl rfl) (pv (.b (bo && bl)) rfl (O_nil  (C_ret  ?_))))))))))))
  have hH38 := ((hH15.top1).top1)
  exact ⟨.inr rfl, _, resL_one (r_tmp (v := (.b (bo && bl))) rfl), by unfold ovR; rw [hp7, hp8, List.take_of_length_le (by omega)]; rfl, hH38⟩
set_option linter.unusedVariables false
set_option linter.unusedSimpArgs false
theorem rexp_raw {H : AH} {R D : HL} {F n : Nat} {lv : AV} {lc : List AV} {nx cn : Int} {q0 : List Te} {now : Int} (hlv : Sq 19 lv lc (q0.map teRow).flatten) (hn : q0.length = n) (hql : n ≤ 100000) (hok : ∀ x ∈ q0, OctIn D x.dv x.e.c.d) (hH0 : Hs H ([(F, some (.cells [lv, .i .u32 nx, .i .i64 cn] true))] ++ (qseg lv lc ++ R))) : Ev tabA spA (.fn (.func 52) [] []) [.p (some (F, 0)), .i .i64 now] H (fun r H' => ∃ (q : List Te) (cnt : Nat) (lc' : List AV), r = .i .i64 ((cnt : Nat) : Int) ∧ (q, cnt) = (List.range n).foldl (exR now) (q0, 0) ∧ (∀ x ∈ q, OctIn D x.dv x.e.c.d) ∧ Sq 19 lv lc' (q.map teRow).flatten ∧ q.length = n ∧ Hs H' ([(F, some (.cells [lv, .i .u32 nx, .i .i64 cn] true))] ++ (qseg lv lc' ++ R))) := by
 refine Ev_C (F := x52) rfl ?_
 refine C_seq  (C_region  (pv (.i .i64 0) rfl (O_nil  (C_seq  (C_region  (pv (.i .i64 0) rfl (O_nil  (C_seq  (C_seq  (C_region  (pv (.i .i64 0) rfl (O_nil  (C_block  ?_)))))))))))))
 refine C_while (fun m1 T2 H3 => ∃ q : List Te, ∃ lc : List AV, ∃ cnt : Nat, ∃ i : Nat, m1 = n - i ∧ i ≤ n ∧ Sq 19 lv lc (q.map teRow).flatten ∧ q.length = n ∧ (q, cnt) = (List.range i).foldl (exR now) (q0, 0) ∧ cnt ≤ i ∧ (∀ x ∈ q, OctIn D x.dv x.e.c.d) ∧ Hs H3 ([(F, some (.cells ([lv, (.i .u32 nx), (.i .i64 cn)]) true))] ++ ((qseg lv lc) ++ (R))) ∧ T2.get 0 = (.p (some (F, 0))) ∧ T2.get 1 = (.i .i64 now) ∧ T2.get 5 = (.i .i64 (((cnt : Nat)) : Int)) ∧ T2.get 6 = (.i .i64 (((i : Nat)) : Int))) (fun m1 T2 H3 hI4 => ?_) n _ _ ⟨q0, lc, 0, 0, rfl, Nat.zero_le _, hlv, hn, rfl, Nat.le_refl _, hok, hH0, rfl, rfl, rfl, rfl⟩
 obtain ⟨q, lc, cnt, i, hm5, hp6, hp7, hp8, hp9, hp10, hp11, hH16, hT12, hT13, hT14, hT15⟩ := hI4
 refine C_seq  (C_seq  (C_region  (pv (nI i) hT15 (pv (pT F 0) hT12 (O_p (pT F 0) (r_nilc rfl) (pf (pT F 0) rfl rfl (O_p lv (r_ld rfl hH16.get0 rfl) (O_p (nI n) (by exact (by exact r_lenOf rfl (hp7.lenOf (te_flatn hp8) (by decide)) hp7.isSl)) (O_p (.b (decide ((((i : Nat)) : Int) < (((n : Nat)) : Int)))) (r_lss rfl rfl) (O_nil  ?_))))))))))
 refine C_cond (x := (decide ((((i : Nat)) : Int) < (((n : Nat)) : Int)))) rfl (fun hc17 => ?_) (fun hc17 => ?_)
 ·
  try simp only [dz1, dz2, dz3, dz4, dz5, dz6, dz7, dz8, dz9] at hc17
  refine C_skip  (C_seq  (C_block  (C_seq  (C_seq  (C_region  ?_)))))
  have hil : i < n := by omega
  obtain ⟨x, hxi⟩ : ∃ x, q[i]? = some x := ⟨_, List.getElem?_eq_getElem (by omega)⟩
  refine pv (pT F 0) hT12 (pv (pT F 0) hT12 (O_p (pT F 0) (r_nilc rfl) (pf (pT F 0) rfl rfl (O_p lv (r_ld rfl hH16.get0 rfl) (pv (nI i) hT15 ?_)))))
  refine O_q (by exact Sq.cell hp7 (te_lens q) hH16.top1 rfl (i := i) rfl (r := teRow x) (te_get hxi) (by decide)) fun v19 hv18 => ?_
  obtain ⟨rb20, ro21, rfl, hrg22, hrt23, hrb24, hput25, hqs26⟩ := hv18
  refine pf (.p (some (rb20, (ro21 + 12)))) rfl rfl (O_p (.i .i64 x.z.k) (r_ldR (q := 12) rfl ⟨_, _, hrg22, hrt23⟩ rfl) (pv (.i .i64 now) hT13 ?_))
  have hH27 := ((hH16.top1).top1)
  refine O_call (Ev.mono (rover_raw (mm := x.z.k) (now := now) hp7 hp8 hql hH27) fun v28 H29 hq30 => ?_)
  obtain ⟨rfl, hH31⟩ := hq30
  refine O_p (.b (!(ovR now x.z.k q))) (r_not rfl) (O_nil  ?_)
  refine C_cond (x := (!(ovR now x.z.k q))) rfl (fun hc32 => ?_) (fun hc32 => ?_)
  ·
   have hov : ovR now x.z.k q = false := by simpa using hc32
   refine C_exit  (nx_exit  (bk_hit  (C_region  (pv (nI i) hT15 (O_p (.i .i64 ((((i : Nat)) : Int) + 1)) (by exact (r_addi rfl rfl (wrap_i64 (by omega) (by omega)))) (pv (.i .i64 ((((i : Nat)) : Int) + 1)) rfl (O_nil  ?_)))))))
   have hH33 := ((hH31.top1).top1)
   exact ⟨n - (i + 1), by omega, q, lc, cnt, (i + 1), rfl, by omega, hp7, hp8, by rw [exR_at, ← hp9]; unfold exR; dsimp only; rw [hxi]; dsimp only; rw [if_neg (by rw [hov]; exact Bool.false_ne_true)], by omega, hp11, hH33, hT12, hT13, hT14, rfl⟩
  ·
   have hov : ovR now x.z.k q = true := by simpa using hc32
   refine C_skip  (C_seq  (C_region  (pv (nI cnt) hT14 (O_p (.i .i64 ((((cnt : Nat)) : Int) + 1)) (by exact (r_addi rfl rfl (wrap_i64 (by omega) (by omega)))) (pv (.i .i64 ((((cnt : Nat)) : Int) + 1)) rfl (O_nil  (C_seq  (C_region  (pv (pT F 0) hT12 (O_p (pT F 0) (r_nilc rfl) (pf (pT F 0) rfl rfl (O_p lv (r_ld rfl hH31.get0 rfl) (pv (nI i) hT15 ?_)))))))))))))
   refine O_q (by exact Sq.cell hp7 (te_lens q) hH31.top1 rfl (i := i) rfl (r := teRow x) (te_get hxi) (by decide)) fun v35 hv34 => ?_
   obtain ⟨rb36, ro37, rfl, hrg38, hrt39, hrb40, hput41, hqs42⟩ := hv34
   refine pf (.p (some (rb36, (ro37 + 12)))) rfl rfl (O_p (.i .i64 x.z.k) (r_ldR (q := 12) rfl ⟨_, _, hrg38, hrt39⟩ rfl) (pv (.i .i64 x.z.k) rfl (O_nil  (C_seq  (C_region  (pv (.i .i64 0) rfl (O_nil  (C_block  ?_))))))))
   refine C_while (fun m43 T44 H45 => ∃ q2 : List Te, ∃ lc2 : List AV, ∃ j : Nat, m43 = n - j ∧ j ≤ n ∧ Sq 19 lv lc2 (q2.map teRow).flatten ∧ q2.length = n ∧ Upd (fun _ y => gvE x.z.k y) j q q2 ∧ Hs H45 ([(F, some (.cells ([lv, (.i .u32 nx), (.i .i64 cn)]) true))] ++ ((qseg lv lc2) ++ (R))) ∧ T44.get 0 = (.p (some (F, 0))) ∧ T44.get 1 = (.i .i64 now) ∧ T44.get 5 = (.i .i64 ((((cnt : Nat)) : Int) + 1)) ∧ T44.get 6 = (.i .i64 (((i : Nat)) : Int)) ∧ T44.get 7 = (.i .i64 x.z.k) ∧ T44.get 8 = (.i .i64 (((j : Nat)) : Int))) (fun m43 T44 H45 hI46 => ?_) n _ _ ⟨q, lc, 0, rfl, Nat.zero_le _, hp7, hp8, Upd.zero, hH31, hT12, hT13, rfl, hT15, rfl, rfl⟩
   obtain ⟨q2, lc2, j, hm47, hp48, hp49, hp50, hp51, hH58, hT52, hT53, hT54, hT55, hT56, hT57⟩ := hI46
   refine C_seq  (C_seq  (C_region  (pv (nI j) hT57 (pv (pT F 0) hT52 (O_p (pT F 0) (r_nilc rfl) (pf (pT F 0) rfl rfl (O_p lv (r_ld rfl hH58.get0 rfl) (O_p (nI n) (by exact (by exact r_lenOf rfl (hp49.lenOf (te_flatn hp50) (by decide)) hp49.isSl)) (O_p (.b (decide ((((j : Nat)) : Int) < (((n : Nat)) : Int)))) (r_lss rfl rfl) (O_nil  ?_))))))))))
   refine C_cond (x := (decide ((((j : Nat)) : Int) < (((n : Nat)) : Int)))) rfl (fun hc59 => ?_) (fun hc59 => ?_)
   ·
    try simp only [dz1, dz2, dz3, dz4, dz5, dz6, dz7, dz8, dz9] at hc59
    refine C_skip  (C_seq  (C_block  (C_seq  (C_region  ?_))))
    have hjl : j < n := by omega
    obtain ⟨y, hyi⟩ : ∃ x, q[j]? = some x := ⟨_, List.getElem?_eq_getElem (by omega)⟩
    have hyq := hp51.get hyi
    refine pv (pT F 0) hT52 (O_p (pT F 0) (r_nilc rfl) (pf (pT F 0) rfl rfl (O_p lv (r_ld rfl hH58.get0 rfl) (pv (nI j) hT57 ?_))))
    refine O_q (by exact Sq.cell hp49 (te_lens q2) hH58.top1 rfl (i := j) rfl (r := teRow y) (te_get hyq) (by decide)) fun v61 hv60 => ?_
    obtain ⟨rb62, ro63, rfl, hrg64, hrt65, hrb66, hput67, hqs68⟩ := hv60
    refine pf (.p (some (rb62, (ro63 + 12)))) rfl rfl (O_p (.i .i64 y.z.k) (r_ldR (q := 12) rfl ⟨_, _, hrg64, hrt65⟩ rfl) (pv (.i .i64 x.z.k) hT56 (O_p (.b (decide (y.z.k = x.z.k))) (r_eql rfl rfl) (O_nil  ?_))))
    refine C_cond (x := (decide (y.z.k = x.z.k))) rfl (fun hc69 => ?_) (fun hc69 => ?_)
    ·
     try simp only [dz1, dz2, dz3, dz4, dz5, dz6, dz7, dz8, dz9] at hc69
     have hym : y.z.k = x.z.k := hc69
     refine C_region  (pv (pT F 0) hT52 (O_p (pT F 0) (r_nilc rfl) (pf (pT F 0) rfl rfl (O_p lv (r_ld rfl hH58.get0 rfl) (pv (nI j) hT57 ?_)))))
     refine O_q (by exact Sq.cell hp49 (te_lens q2) hH58.top1 rfl (i := j) rfl (r := teRow y) (te_get hyq) (by decide)) fun v71 hv70 => ?_
     obtain ⟨rb72, ro73, rfl, hrg74, hrt75, hrb76, hput77, hqs78⟩ := hv70
     refine pf (.p (some (rb72, (ro73 + 13)))) rfl rfl ?_
     refine O_store (vs := [(.i .i64 4)]) (c' := (putAt lc2 (ro73 + 13) [(.i .i64 4)])) rfl (by rfl) hrg74 rfl (List.cons_ne_nil _ _) (by have := hrb76; show _ + 1 ≤ _; omega) rfl fun H79 hW80 => ?_
     have hH82 := Hs.cong1 (Hs.wr1 (Hs.cong1 hH58 (hqs78 _)) hW80) (hqs78 _).symm
     have hSq81 := hput77 13 [(.i .i64 4)] [(.i .u8 y.e.c.k), (.i .u8 y.e.c.f), (.i .u32 y.e.a), (.i .u32 y.e.c.b), (.i .u16 y.e.c.o), (.i .u16 y.e.c.i), (.i .u32 y.e.c.p), y.e.c.x1, y.e.c.x2, y.e.c.x3, y.e.c.x4, y.dv, (.i .i64 y.z.k), (.i .i64 4), (.i .i64 y.e.sent), (.i .i64 y.e.tm), (.i .i64 y.e.mi), (.i .i64 y.z.un), (.i .i64 y.z.tr)] (Nat.le_of_ble_eq_true rfl) rfl
     obtain ⟨qq83, he84⟩ : ∃ z : List Te, z = q2.set j ⟨⟨y.e.c, y.e.a, 4, y.e.sent, y.e.tm, y.e.mi⟩, y.z, y.dv⟩ := ⟨_, rfl⟩
     have hs87 : Sq 19 lv (putAt lc2 (ro73 + 13) [(.i .i64 4)]) (qq83.map teRow).flatten := by rw [he84, List.map_set]; exact hSq81
     have hn85 : qq83.length = n := by rw [he84, List.length_set]; exact hp50
     have hx86 : qq83[j]? = some ⟨⟨y.e.c, y.e.a, 4, y.e.sent, y.e.tm, y.e.mi⟩, y.z, y.dv⟩ := by rw [he84]; exact List.getElem?_set_self (by omega)
     refine O_nil  (C_region  (pv (nI j) hT57 (O_p (.i .i64 ((((j : Nat)) : Int) + 1)) (by exact (r_addi rfl rfl (wrap_i64 (by omega) (by omega)))) (pv (.i .i64 ((((j : Nat)) : Int) + 1)) rfl (O_nil  ?_)))))
     have hH88 := ((hH82.top1).top1)
     exact ⟨n - (j + 1), by omega, qq83, (putAt lc2 (ro73 + 13) [(.i .i64 4)]), (j + 1), rfl, by omega, hs87, hn85, by rw [he84]; exact hp51.set hyi (by unfold gvE; rw [if_pos hym]; rfl), hH88, hT52, hT53, hT54, hT55, hT56, rfl⟩
    ·
     try simp only [dz1, dz2, dz3, dz4, dz5, dz6, dz7, dz8, dz9] at hc69
     have hym : ¬ y.z.k = x.z.k := hc69
     refine C_skip  (C_region  (pv (nI j) hT57 (O_p (.i .i64 ((((j : Nat)) : Int) + 1)) (by exact (r_addi rfl rfl (wrap_i64 (by omega) (by omega)))) (pv (.i .i64 ((((j : Nat)) : Int) + 1)) rfl (O_nil  ?_)))))
     have hH89 := ((hH58.top1).top1)
     exact ⟨n - (j + 1), by omega, q2, lc2, (j + 1), rfl, by omega, hp49, hp50, hp51.skip hyi (by unfold gvE; rw [if_neg hym]), hH89, hT52, hT53, hT54, hT55, hT56, rfl⟩
   ·
    try simp only [dz1, dz2, dz3, dz4, dz5, dz6, dz7, dz8, dz9] at hc59
    refine C_exit  (nx_exit  (nx_exit  (bk_hit  (C_region  (pv (nI i) hT55 (O_p (.i .i64 ((((i : Nat)) : Int) + 1)) (by exact (r_addi rfl rfl (wrap_i64 (by omega) (by omega)))) (pv (.i .i64 ((((i : Nat)) : Int) + 1)) rfl (O_nil  ?_))))))))
    have hH90 := ((hH58.top1).top1)
    exact ⟨n - (i + 1), by omega, q2, lc2, (cnt + 1), (i + 1), rfl, by omega, hp49, hp50, by rw [exR_at, ← hp9]; unfold exR; dsimp only; rw [hxi]; dsimp only; rw [if_pos hov, hp51.gv (by omega)], by omega, by rw [hp51.gv (by omega)]; exact gvR_ok hp11, hH90, hT52, hT53, hT54, rfl⟩
 ·
  try simp only [dz1, dz2, dz3, dz4, dz5, dz6, dz7, dz8, dz9] at hc17
  refine C_exit  (nx_exit  (nx_exit  (bk_hit  (C_seq  (C_region  (pv (nI cnt) hT14 (pv (nI cnt) rfl (O_nil  (C_ret  ?_)))))))))
  have hH91 := ((hH16.top1).top1)
  exact ⟨.inr rfl, _, resL_one (r_tmp (v := (.i .i64 (((cnt : Nat)) : Int))) rfl), q, cnt, lc, rfl, by rw [hp9, show i = n by omega], hp11, hp7, hp8, hH91⟩
set_option maxHeartbeats 1000000 in
theorem rsend_raw {H : AH} {R D : HL} {F n : Nat} {lv : AV} {lc : List AV} {nx cn : Int} {q0 : List Te} {ov : AV} {oc : List AV} {orows : List (List AV)} {ocs : List (Cx × Int)} {S now room : Int} (hlv : Sq 19 lv lc (q0.map teRow).flatten) (hn : q0.length = n) (hql : n ≤ 100000) (hok : ∀ x ∈ q0, OctIn D x.dv x.e.c.d) (hsz : ∀ e ∈ q0.map Te.e, e.c.d.length ≤ 1000000) (hse : ∀ e ∈ q0.map Te.e, 0 ≤ e.sent ∧ e.sent ≤ 2000000) (hrm : room ≤ 9223372036854775807) (hov : Sq 12 ov oc orows.flatten) (hco : CxsR D orows ocs) (hol : ocs.length ≤ 100000) (hH0 : Hs H ([(F, some (.cells [lv, .i .u32 nx, .i .i64 cn] true))] ++ (qseg lv lc ++ (qseg ov oc ++ R)))) : Ev tabA spA (.fn (.func 69) [] []) [.p (some (F, 0)), ov, .i .i64 S, .i .i64 now, .i .i64 room] H (fun r H' => ∃ (q : List Te) (lc' : List AV) (ov' : AV) (oc' : List AV) (rows' : List (List AV)), r = .tup [ov', .i .i64 (takeL S now (q0.map Te.e) room).2.2.1, .b (!(takeL S now (q0.map Te.e) room).2.2.2)] ∧ q.map Te.e = (takeL S now (q0.map Te.e) room).1 ∧ q.map Te.z = q0.map Te.z ∧ (∀ x ∈ q, OctIn D x.dv x.e.c.d) ∧ Sq 19 lv lc' (q.map teRow).flatten ∧ q.length = n ∧ Sq 12 ov' oc' rows'.flatten ∧ CxsR D rows' (ocs ++ (takeL S now (q0.map Te.e) room).2.1.map Ea.ca) ∧ Hs H' ([(F, some (.cells [lv, .i .u32 nx, .i .i64 cn] true))] ++ (qseg lv lc' ++ (qseg ov' oc' ++ R)))) := by
 refine Ev_C (F := x69) rfl ?_
 refine C_seq  (C_region  (pv (.sl none 0 0 0) rfl (pv (.i .i64 0) rfl (pv (.b false) rfl (O_nil  (C_seq  (C_seq  (C_region  (pv (.i .i64 0) rfl (O_nil  (C_block  ?_)))))))))))
 refine C_while (fun m1 T2 H3 => ∃ q : List Te, ∃ lc : List AV, ∃ rm : Int, ∃ told : List Ea, ∃ ov2 : AV, ∃ oc2 : List AV, ∃ rows2 : List (List AV), ∃ i : Nat, m1 = n - i ∧ i ≤ n ∧ Sq 19 lv lc (q.map teRow).flatten ∧ q.length = n ∧ Upd (fun _ x => flS1 S now x.e) i q0 q ∧ takeL S now ((q0.map Te.e).take i) room = (((q0.map Te.e).take i).map (flS1 S now), told, rm, false) ∧ Sq 12 ov2 oc2 rows2.flatten ∧ CxsR D rows2 (ocs ++ told.map Ea.ca) ∧ rm ≤ room ∧ Hs H3 ([(F, some (.cells ([lv, (.i .u32 nx), (.i .i64 cn)]) true))] ++ ((qseg lv lc) ++ ((qseg ov2 oc2) ++ (R)))) ∧ T2.get 0 = (.p (some (F, 0))) ∧ T2.get 1 = ov2 ∧ T2.get 2 = (.i .i64 S) ∧ T2.get 3 = (.i .i64 now) ∧ T2.get 4 = (.i .i64 rm) ∧ T2.get 13 = (.i .i64 (((i : Nat)) : Int))) (fun m1 T2 H3 hI4 => ?_) n _ _ ⟨q0, lc, room, [], ov, oc, orows, 0, rfl, Nat.zero_le _, hlv, hn, Upd.zero, by rw [List.take_zero]; rfl, hov, by rw [List.map_nil, List.append_nil]; exact hco, Int.le_refl _, hH0, rfl, rfl, rfl, rfl, rfl, rfl⟩
 obtain ⟨q, lc, rm, told, ov2, oc2, rows2, i, hm5, hp6, hp7, hp8, hp9, hp10, hp11, hp12, hp13, hH20, hT14, hT15, hT16, hT17, hT18, hT19⟩ := hI4
 have hrl2 : rows2.length = ocs.length + told.length := by rw [hp12.1, List.length_append, List.length_map]
 have htl2 := takeL_outs (s := S) (now := now) (l := (q0.map Te.e).take i) (r := room)
 rw [hp10, List.length_take] at htl2
 have htl3 : told.length ≤ i := Nat.le_trans htl2 (Nat.min_le_left _ _)
 refine C_seq  (C_seq  (C_region  (pv (nI i) hT19 (pv (pT F 0) hT14 (O_p (pT F 0) (r_nilc rfl) (pf (pT F 0) rfl rfl (O_p lv (r_ld rfl hH20.get0 rfl) (O_p (nI n) (by exact (by exact r_lenOf rfl (hp7.lenOf (te_flatn hp8) (by decide)) hp7.isSl)) (O_p (.b (decide ((((i : Nat)) : Int) < (((n : Nat)) : Int)))) (r_lss rfl rfl) (O_nil  ?_))))))))))
 refine C_cond (x := (decide ((((i : Nat)) : Int) < (((n : Nat)) : Int)))) rfl (fun hc21 => ?_) (fun hc21 => ?_)
 ·
  try simp only [dz1, dz2, dz3, dz4, dz5, dz6, dz7, dz8, dz9] at hc21
  refine C_skip  (C_seq  (C_block  (C_seq  (C_seq  (C_region  ?_)))))
  have hil : i < n := by omega
  obtain ⟨x, hxi⟩ : ∃ x, q0[i]? = some x := ⟨_, List.getElem?_eq_getElem (by omega)⟩
  have hdx := hok x (List.mem_of_getElem? hxi)
  have hxq := hp9.get hxi
  have hszx := hsz x.e (List.mem_map_of_mem (List.mem_of_getElem? hxi))
  have hsex := hse x.e (List.mem_map_of_mem (List.mem_of_getElem? hxi))
  refine pv (pT F 0) hT14 (O_p (pT F 0) (r_nilc rfl) (pf (pT F 0) rfl rfl (O_p lv (r_ld rfl hH20.get0 rfl) (pv (nI i) hT19 ?_))))
  refine O_q (by exact Sq.cell hp7 (te_lens q) hH20.top1 rfl (i := i) rfl (r := teRow x) (te_get hxq) (by decide)) fun v23 hv22 => ?_
  obtain ⟨rb24, ro25, rfl, hrg26, hrt27, hrb28, hput29, hqs30⟩ := hv22
  refine pf (.p (some (rb24, (ro25 + 13)))) rfl rfl (O_p (.i .i64 x.e.st) (r_ldR (q := 13) rfl ⟨_, _, hrg26, hrt27⟩ rfl) (pv (.i .i64 S) hT16 (O_p (.b (!decide (x.e.st = S))) (r_neq rfl rfl) (O_nil  ?_))))
  refine C_cond (x := (!decide (x.e.st = S))) rfl (fun hc31 => ?_) (fun hc31 => ?_)
  ·
   try simp only [dz1, dz2, dz3, dz4, dz5, dz6, dz7, dz8, dz9] at hc31
   have hst : ¬ x.e.st = S := by simpa using hc31
   refine C_exit  (nx_exit  (bk_hit  (C_region  (pv (nI i) hT19 (O_p (.i .i64 ((((i : Nat)) : Int) + 1)) (by exact (r_addi rfl rfl (wrap_i64 (by omega) (by omega)))) (pv (.i .i64 ((((i : Nat)) : Int) + 1)) rfl (O_nil  ?_)))))))
   have hH32 := (((hH20.top2).top2).top2)
   exact ⟨n - (i + 1), by omega, q, lc, rm, told, ov2, oc2, rows2, (i + 1), rfl, by omega, hp7, hp8, hp9.skip hxi (by show flS1 S now x.e = x.e; unfold flS1; rw [if_neg hst]), tl_skip (te_e hxi) hst hp10, hp11, hp12, hp13, hH32, hT14, hT15, hT16, hT17, hT18, rfl⟩
  ·
   try simp only [dz1, dz2, dz3, dz4, dz5, dz6, dz7, dz8, dz9] at hc31
   have hst : x.e.st = S := by simpa using hc31
   refine C_skip  (C_seq  (C_seq  (C_region  (pv (pT F 0) hT14 (O_p (pT F 0) (r_nilc rfl) (pf (pT F 0) rfl rfl (O_p lv (r_ld rfl hH20.get0 rfl) (pv (nI i) hT19 ?_))))))))
   refine O_q (by exact Sq.cell hp7 (te_lens q) hH20.top1 rfl (i := i) rfl (r := teRow x) (te_get hxq) (by decide)) fun v34 hv33 => ?_
   obtain ⟨rb35, ro36, rfl, hrg37, hrt38, hrb39, hput40, hqs41⟩ := hv33
   refine pf (.p (some (rb35, (ro36 + 0)))) rfl rfl (pf (.p (some (rb35, (ro36 + 11)))) rfl rfl (O_p x.dv (r_ldR (q := 11) rfl ⟨_, _, hrg37, hrt38⟩ rfl) (O_p (.i .i64 (((x.e.c.d.length : Nat)) : Int)) (r_lenOf (v := x.dv) (n := x.e.c.d.length) rfl hdx.lenOf hdx.isSl) (pv (.i .i64 rm) hT18 (O_p (.b (decide (rm < (((x.e.c.d.length : Nat)) : Int)))) (r_gtr rfl rfl) (O_nil  ?_))))))
   refine C_cond (x := (decide (rm < (((x.e.c.d.length : Nat)) : Int)))) rfl (fun hc42 => ?_) (fun hc42 => ?_)
   ·
    try simp only [dz1, dz2, dz3, dz4, dz5, dz6, dz7, dz8, dz9] at hc42
    have hfit : rm < ((x.e.c.d.length : Nat) : Int) := by omega
    refine C_seq  (C_region  (pv ov2 hT15 (pv (.i .i64 rm) hT18 (pv ov2 rfl (pv (.i .i64 rm) rfl (pv (.b false) rfl (O_nil  (C_ret  (nx_ret  (bk_ret  (nx_ret  (nx_ret  (bk_ret  ?_)))))))))))))
    refine nx_ret  ?_
    have hH43 := (((hH20.top2).top2).top2)
    have hte : takeL S now (q0.map Te.e) room = (((q0.map Te.e).take i).map (flS1 S now) ++ (q0.map Te.e).drop i, told, rm, true) := tl_stop (te_e hxi) hst hp10 hfit
    exact ⟨.inr rfl, _, resL_cons (r_tmp (v := ov2) rfl) (resL_cons (r_tmp (v := (.i .i64 rm)) rfl) (resL_one (r_tmp (v := (.b false)) rfl))), q, lc, ov2, oc2, rows2, by rw [hte]; rfl, by rw [hte]; exact hp9.part, hp9.zs, hp9.ok hok (fun k x => by show (flS1 S now x.e).c.d = _; unfold flS1; split <;> rfl), hp7, hp8, hp11, by rw [hte]; exact hp12, hH43⟩
   ·
    try simp only [dz1, dz2, dz3, dz4, dz5, dz6, dz7, dz8, dz9] at hc42
    have hfit : ¬ rm < ((x.e.c.d.length : Nat) : Int) := by omega
    refine C_skip  (C_seq  (C_region  (pv (.i .i64 rm) hT18 (pv (pT F 0) hT14 (O_p (pT F 0) (r_nilc rfl) (pf (pT F 0) rfl rfl (O_p lv (r_ld rfl hH20.get0 rfl) (pv (nI i) hT19 ?_))))))))
    refine O_q (by exact Sq.cell hp7 (te_lens q) hH20.top1 rfl (i := i) rfl (r := teRow x) (te_get hxq) (by decide)) fun v45 hv44 => ?_
    obtain ⟨rb46, ro47, rfl, hrg48, hrt49, hrb50, hput51, hqs52⟩ := hv44
    refine pf (.p (some (rb46, (ro47 + 0)))) rfl rfl (pf (.p (some (rb46, (ro47 + 11)))) rfl rfl (O_p x.dv (r_ldR (q := 11) rfl ⟨_, _, hrg48, hrt49⟩ rfl) (O_p (.i .i64 (((x.e.c.d.length : Nat)) : Int)) (r_lenOf (v := x.dv) (n := x.e.c.d.length) rfl hdx.lenOf hdx.isSl) (O_p (.i .i64 (rm - (((x.e.c.d.length : Nat)) : Int))) (by exact (r_subi rfl rfl (wrap_i64 (by omega) (by omega)))) (pv (.i .i64 (rm - (((x.e.c.d.length : Nat)) : Int))) rfl (O_nil  (C_seq  (C_region  (pv ov2 hT15 (pv (pT F 0) hT14 (O_p (pT F 0) (r_nilc rfl) (pf (pT F 0) rfl rfl (O_p lv (r_ld rfl hH20.get0 rfl) ?_)))))))))))))
    refine pv (nI i) hT19 ?_
    refine O_q (by exact Sq.cell hp7 (te_lens q) hH20.top1 rfl (i := i) rfl (r := teRow x) (te_get hxq) (by decide)) fun v54 hv53 => ?_
    obtain ⟨rb55, ro56, rfl, hrg57, hrt58, hrb59, hput60, hqs61⟩ := hv53
    refine pf (.p (some (rb55, (ro56 + 0)))) rfl rfl (O_p (.agg [(.i .u8 x.e.c.k), (.i .u8 x.e.c.f), (.i .u32 x.e.a), (.i .u32 x.e.c.b), (.i .u16 x.e.c.o), (.i .u16 x.e.c.i), (.i .u32 x.e.c.p), x.e.c.x1, x.e.c.x2, x.e.c.x3, x.e.c.x4, x.dv]) (r_ldRA (q := 0) rfl ⟨_, _, hrg57, hrt58⟩ rfl) ?_)
    refine O_bslice (c := [(.i .u8 x.e.c.k), (.i .u8 x.e.c.f), (.i .u32 x.e.a), (.i .u32 x.e.c.b), (.i .u16 x.e.c.o), (.i .u16 x.e.c.i), (.i .u32 x.e.c.p), x.e.c.x1, x.e.c.x2, x.e.c.x3, x.e.c.x4, x.dv]) rfl fun n62 H63 hN64 => ?_
    have hH65 := hH20.new hN64
    refine O_qh (by exact r_appq (n := rows2.length) (k := 1) (new := [(.i .u8 x.e.c.k), (.i .u8 x.e.c.f), (.i .u32 x.e.a), (.i .u32 x.e.c.b), (.i .u16 x.e.c.o), (.i .u16 x.e.c.i), (.i .u32 x.e.c.p), x.e.c.x1, x.e.c.x2, x.e.c.x3, x.e.c.x4, x.dv]) hH65.top3 hp11 rfl rfl rfl (src_blk hH65.get0 (by rfl)) rfl (by decide) (by decide) (flat_len hp12.lens) (by first | omega | (simp only [List.length_take, List.length_drop, List.length_append, List.length_cons, List.length_nil, beN_len] <;> omega))) fun o66 H67 hA69 => ?_
    obtain ⟨c68, hA69, hH70⟩ := hA69
    refine pv o66 rfl (O_nil  (C_seq  (C_region  (pv (pT F 0) hT14 (O_p (pT F 0) (r_nilc rfl) (pf (pT F 0) rfl rfl (O_p lv (r_ld rfl hH70.get2 rfl) (pv (nI i) hT19 ?_))))))))
    refine O_q (by exact Sq.cell hp7 (te_lens q) hH70.top3 rfl (i := i) rfl (r := teRow x) (te_get hxq) (by decide)) fun v72 hv71 => ?_
    obtain ⟨rb73, ro74, rfl, hrg75, hrt76, hrb77, hput78, hqs79⟩ := hv71
    refine pf (.p (some (rb73, (ro74 + 13)))) rfl rfl ?_
    refine O_store (vs := [(.i .i64 1)]) (c' := (putAt lc (ro74 + 13) [(.i .i64 1)])) rfl (by rfl) hrg75 rfl (List.cons_ne_nil _ _) (by have := hrb77; show _ + 1 ≤ _; omega) rfl fun H80 hW81 => ?_
    have hH83 := Hs.cong3 (Hs.wr3 (Hs.cong3 hH70 (hqs79 _)) hW81) (hqs79 _).symm
    have hSq82 := hput78 13 [(.i .i64 1)] [(.i .u8 x.e.c.k), (.i .u8 x.e.c.f), (.i .u32 x.e.a), (.i .u32 x.e.c.b), (.i .u16 x.e.c.o), (.i .u16 x.e.c.i), (.i .u32 x.e.c.p), x.e.c.x1, x.e.c.x2, x.e.c.x3, x.e.c.x4, x.dv, (.i .i64 x.z.k), (.i .i64 1), (.i .i64 x.e.sent), (.i .i64 x.e.tm), (.i .i64 x.e.mi), (.i .i64 x.z.un), (.i .i64 x.z.tr)] (Nat.le_of_ble_eq_true rfl) rfl
    obtain ⟨qq84, he85⟩ : ∃ z : List Te, z = q.set i ⟨⟨x.e.c, x.e.a, 1, x.e.sent, x.e.tm, x.e.mi⟩, x.z, x.dv⟩ := ⟨_, rfl⟩
    have hs88 : Sq 19 lv (putAt lc (ro74 + 13) [(.i .i64 1)]) (qq84.map teRow).flatten := by rw [he85, List.map_set]; exact hSq82
    have hn86 : qq84.length = n := by rw [he85, List.length_set]; exact hp8
    have hx87 : qq84[i]? = some ⟨⟨x.e.c, x.e.a, 1, x.e.sent, x.e.tm, x.e.mi⟩, x.z, x.dv⟩ := by rw [he85]; exact List.getElem?_set_self (by omega)
    refine O_nil  (C_seq  (C_region  (pv (pT F 0) hT14 (O_p (pT F 0) (r_nilc rfl) (pf (pT F 0) rfl rfl (O_p lv (r_ld rfl hH83.get2 rfl) (pv (nI i) hT19 ?_)))))))
    refine O_q (by exact Sq.cell hs88 (te_lens qq84) hH83.top3 rfl (i := i) rfl (r := [(.i .u8 x.e.c.k), (.i .u8 x.e.c.f), (.i .u32 x.e.a), (.i .u32 x.e.c.b), (.i .u16 x.e.c.o), (.i .u16 x.e.c.i), (.i .u32 x.e.c.p), x.e.c.x1, x.e.c.x2, x.e.c.x3, x.e.c.x4, x.dv, (.i .i64 x.z.k), (.i .i64 1), (.i .i64 x.e.sent), (.i .i64 x.e.tm), (.i .i64 x.e.mi), (.i .i64 x.z.un), (.i .i64 x.z.tr)]) (te_get hx87) (by decide)) fun v90 hv89 => ?_
    obtain ⟨rb91, ro92, rfl, hrg93, hrt94, hrb95, hput96, hqs97⟩ := hv89
    refine pf (.p (some (rb91, (ro92 + 14)))) rfl rfl (O_p (.i .i64 x.e.sent) (r_ldR (q := 14) rfl ⟨_, _, hrg93, hrt94⟩ rfl) (O_p (.i .i64 (x.e.sent + 1)) (by exact (r_addi rfl rfl (wrap_i64 (by omega) (by omega)))) ?_))
    refine O_q (by exact Sq.cell hs88 (te_lens qq84) hH83.top3 rfl (i := i) rfl (r := [(.i .u8 x.e.c.k), (.i .u8 x.e.c.f), (.i .u32 x.e.a), (.i .u32 x.e.c.b), (.i .u16 x.e.c.o), (.i .u16 x.e.c.i), (.i .u32 x.e.c.p), x.e.c.x1, x.e.c.x2, x.e.c.x3, x.e.c.x4, x.dv, (.i .i64 x.z.k), (.i .i64 1), (.i .i64 x.e.sent), (.i .i64 x.e.tm), (.i .i64 x.e.mi), (.i .i64 x.z.un), (.i .i64 x.z.tr)]) (te_get hx87) (by decide)) fun v99 hv98 => ?_
    obtain ⟨rb100, ro101, rfl, hrg102, hrt103, hrb104, hput105, hqs106⟩ := hv98
    refine pf (.p (some (rb100, (ro101 + 14)))) rfl rfl ?_
    refine O_store (vs := [(.i .i64 (x.e.sent + 1))]) (c' := (putAt (putAt lc (ro74 + 13) [(.i .i64 1)]) (ro101 + 14) [(.i .i64 (x.e.sent + 1))])) rfl (by rfl) hrg102 rfl (List.cons_ne_nil _ _) (by have := hrb104; show _ + 1 ≤ _; omega) rfl fun H107 hW108 => ?_
    have hH110 := Hs.cong3 (Hs.wr3 (Hs.cong3 hH83 (hqs106 _)) hW108) (hqs106 _).symm
    have hSq109 := hput105 14 [(.i .i64 (x.e.sent + 1))] [(.i .u8 x.e.c.k), (.i .u8 x.e.c.f), (.i .u32 x.e.a), (.i .u32 x.e.c.b), (.i .u16 x.e.c.o), (.i .u16 x.e.c.i), (.i .u32 x.e.c.p), x.e.c.x1, x.e.c.x2, x.e.c.x3, x.e.c.x4, x.dv, (.i .i64 x.z.k), (.i .i64 1), (.i .i64 (x.e.sent + 1)), (.i .i64 x.e.tm), (.i .i64 x.e.mi), (.i .i64 x.z.un), (.i .i64 x.z.tr)] (Nat.le_of_ble_eq_true rfl) rfl
    obtain ⟨qq111, he112⟩ : ∃ z : List Te, z = q.set i ⟨⟨x.e.c, x.e.a, 1, (x.e.sent + 1), x.e.tm, x.e.mi⟩, x.z, x.dv⟩ := ⟨_, rfl⟩
    have hs115 : Sq 19 lv (putAt (putAt lc (ro74 + 13) [(.i .i64 1)]) (ro101 + 14) [(.i .i64 (x.e.sent + 1))]) (qq111.map teRow).flatten := by rw [he112, List.map_set]; have h9 := hSq109; rw [he85, List.map_set, List.set_set] at h9; exact h9
    have hn113 : qq111.length = n := by rw [he112, List.length_set]; exact hp8
    have hx114 : qq111[i]? = some ⟨⟨x.e.c, x.e.a, 1, (x.e.sent + 1), x.e.tm, x.e.mi⟩, x.z, x.dv⟩ := by rw [he112]; exact List.getElem?_set_self (by omega)
    refine O_nil  (C_seq  (C_region  (pv (pT F 0) hT14 (O_p (pT F 0) (r_nilc rfl) (pf (pT F 0) rfl rfl (O_p lv (r_ld rfl hH110.get2 rfl) (pv (nI i) hT19 (pv (.i .i64 now) hT17 ?_))))))))
    refine O_q (by exact Sq.cell hs115 (te_lens qq111) hH110.top3 rfl (i := i) rfl (r := [(.i .u8 x.e.c.k), (.i .u8 x.e.c.f), (.i .u32 x.e.a), (.i .u32 x.e.c.b), (.i .u16 x.e.c.o), (.i .u16 x.e.c.i), (.i .u32 x.e.c.p), x.e.c.x1, x.e.c.x2, x.e.c.x3, x.e.c.x4, x.dv, (.i .i64 x.z.k), (.i .i64 1), (.i .i64 (x.e.sent + 1)), (.i .i64 x.e.tm), (.i .i64 x.e.mi), (.i .i64 x.z.un), (.i .i64 x.z.tr)]) (te_get hx114) (by decide)) fun v117 hv116 => ?_
    obtain ⟨rb118, ro119, rfl, hrg120, hrt121, hrb122, hput123, hqs124⟩ := hv116
    refine pf (.p (some (rb118, (ro119 + 15)))) rfl rfl ?_
    refine O_store (vs := [(.i .i64 now)]) (c' := (putAt (putAt (putAt lc (ro74 + 13) [(.i .i64 1)]) (ro101 + 14) [(.i .i64 (x.e.sent + 1))]) (ro119 + 15) [(.i .i64 now)])) rfl (by rfl) hrg120 rfl (List.cons_ne_nil _ _) (by have := hrb122; show _ + 1 ≤ _; omega) rfl fun H125 hW126 => ?_
    have hH128 := Hs.cong3 (Hs.wr3 (Hs.cong3 hH110 (hqs124 _)) hW126) (hqs124 _).symm
    have hSq127 := hput123 15 [(.i .i64 now)] [(.i .u8 x.e.c.k), (.i .u8 x.e.c.f), (.i .u32 x.e.a), (.i .u32 x.e.c.b), (.i .u16 x.e.c.o), (.i .u16 x.e.c.i), (.i .u32 x.e.c.p), x.e.c.x1, x.e.c.x2, x.e.c.x3, x.e.c.x4, x.dv, (.i .i64 x.z.k), (.i .i64 1), (.i .i64 (x.e.sent + 1)), (.i .i64 now), (.i .i64 x.e.mi), (.i .i64 x.z.un), (.i .i64 x.z.tr)] (Nat.le_of_ble_eq_true rfl) rfl
    obtain ⟨qq129, he130⟩ : ∃ z : List Te, z = q.set i ⟨⟨x.e.c, x.e.a, 1, (x.e.sent + 1), now, x.e.mi⟩, x.z, x.dv⟩ := ⟨_, rfl⟩
    have hs133 : Sq 19 lv (putAt (putAt (putAt lc (ro74 + 13) [(.i .i64 1)]) (ro101 + 14) [(.i .i64 (x.e.sent + 1))]) (ro119 + 15) [(.i .i64 now)]) (qq129.map teRow).flatten := by rw [he130, List.map_set]; have h9 := hSq127; rw [he112, List.map_set, List.set_set] at h9; exact h9
    have hn131 : qq129.length = n := by rw [he130, List.length_set]; exact hp8
    have hx132 : qq129[i]? = some ⟨⟨x.e.c, x.e.a, 1, (x.e.sent + 1), now, x.e.mi⟩, x.z, x.dv⟩ := by rw [he130]; exact List.getElem?_set_self (by omega)
    refine O_nil  (C_region  (pv (pT F 0) hT14 (O_p (pT F 0) (r_nilc rfl) (pf (pT F 0) rfl rfl (O_p lv (r_ld rfl hH128.get2 rfl) (pv (nI i) hT19 ?_))))))
    refine O_q (by exact Sq.cell hs133 (te_lens qq129) hH128.top3 rfl (i := i) rfl (r := [(.i .u8 x.e.c.k), (.i .u8 x.e.c.f), (.i .u32 x.e.a), (.i .u32 x.e.c.b), (.i .u16 x.e.c.o), (.i .u16 x.e.c.i), (.i .u32 x.e.c.p), x.e.c.x1, x.e.c.x2, x.e.c.x3, x.e.c.x4, x.dv, (.i .i64 x.z.k), (.i .i64 1), (.i .i64 (x.e.sent + 1)), (.i .i64 now), (.i .i64 x.e.mi), (.i .i64 x.z.un), (.i .i64 x.z.tr)]) (te_get hx132) (by decide)) fun v135 hv134 => ?_
    obtain ⟨rb136, ro137, rfl, hrg138, hrt139, hrb140, hput141, hqs142⟩ := hv134
    refine pf (.p (some (rb136, (ro137 + 16)))) rfl rfl ?_
    refine O_store (vs := [(.i .i64 0)]) (c' := (putAt (putAt (putAt (putAt lc (ro74 + 13) [(.i .i64 1)]) (ro101 + 14) [(.i .i64 (x.e.sent + 1))]) (ro119 + 15) [(.i .i64 now)]) (ro137 + 16) [(.i .i64 0)])) rfl (by rfl) hrg138 rfl (List.cons_ne_nil _ _) (by have := hrb140; show _ + 1 ≤ _; omega) rfl fun H143 hW144 => ?_
    have hH146 := Hs.cong3 (Hs.wr3 (Hs.cong3 hH128 (hqs142 _)) hW144) (hqs142 _).symm
    have hSq145 := hput141 16 [(.i .i64 0)] [(.i .u8 x.e.c.k), (.i .u8 x.e.c.f), (.i .u32 x.e.a), (.i .u32 x.e.c.b), (.i .u16 x.e.c.o), (.i .u16 x.e.c.i), (.i .u32 x.e.c.p), x.e.c.x1, x.e.c.x2, x.e.c.x3, x.e.c.x4, x.dv, (.i .i64 x.z.k), (.i .i64 1), (.i .i64 (x.e.sent + 1)), (.i .i64 now), (.i .i64 0), (.i .i64 x.z.un), (.i .i64 x.z.tr)] (Nat.le_of_ble_eq_true rfl) rfl
    obtain ⟨qq147, he148⟩ : ∃ z : List Te, z = q.set i ⟨⟨x.e.c, x.e.a, 1, (x.e.sent + 1), now, 0⟩, x.z, x.dv⟩ := ⟨_, rfl⟩
    have hs151 : Sq 19 lv (putAt (putAt (putAt (putAt lc (ro74 + 13) [(.i .i64 1)]) (ro101 + 14) [(.i .i64 (x.e.sent + 1))]) (ro119 + 15) [(.i .i64 now)]) (ro137 + 16) [(.i .i64 0)]) (qq147.map teRow).flatten := by rw [he148, List.map_set]; have h9 := hSq145; rw [he130, List.map_set, List.set_set] at h9; exact h9
    have hn149 : qq147.length = n := by rw [he148, List.length_set]; exact hp8
    have hx150 : qq147[i]? = some ⟨⟨x.e.c, x.e.a, 1, (x.e.sent + 1), now, 0⟩, x.z, x.dv⟩ := by rw [he148]; exact List.getElem?_set_self (by omega)
    refine O_nil  (C_region  (pv (nI i) hT19 (O_p (.i .i64 ((((i : Nat)) : Int) + 1)) (by exact (r_addi rfl rfl (wrap_i64 (by omega) (by omega)))) (pv (.i .i64 ((((i : Nat)) : Int) + 1)) rfl (O_nil  ?_)))))
    have hH152 := (hH146.sub1)
    have hH153 := ((hH152.top2).top2)
    exact ⟨n - (i + 1), by omega, qq147, (putAt (putAt (putAt (putAt lc (ro74 + 13) [(.i .i64 1)]) (ro101 + 14) [(.i .i64 (x.e.sent + 1))]) (ro119 + 15) [(.i .i64 now)]) (ro137 + 16) [(.i .i64 0)]), (rm - ((x.e.c.d.length : Nat) : Int)), (told ++ [x.e]), o66, c68, (rows2 ++ [[(.i .u8 x.e.c.k), (.i .u8 x.e.c.f), (.i .u32 x.e.a), (.i .u32 x.e.c.b), (.i .u16 x.e.c.o), (.i .u16 x.e.c.i), (.i .u32 x.e.c.p), x.e.c.x1, x.e.c.x2, x.e.c.x3, x.e.c.x4, x.dv]]), (i + 1), rfl, by omega, hs151, hn149, by rw [he148]; exact hp9.set hxi (by show flS1 S now x.e = _; unfold flS1; rw [if_pos hst]; rfl), tl_fly (te_e hxi) hst hp10 hfit, by rw [← flat_snoc]; exact hA69, by rw [List.map_append, ← List.append_assoc]; exact hp12.snoc (x := (x.e.c, x.e.a)) hdx, by omega, hH153, hT14, rfl, hT16, hT17, rfl, rfl⟩
 ·
  try simp only [dz1, dz2, dz3, dz4, dz5, dz6, dz7, dz8, dz9] at hc21
  refine C_exit  (nx_exit  (nx_exit  (bk_hit  (C_seq  (C_region  (pv ov2 hT15 (pv (.i .i64 rm) hT18 (pv ov2 rfl (pv (.i .i64 rm) rfl (pv (.b true) rfl (O_nil  (C_ret  ?_))))))))))))
  have hH154 := (((hH20.top2).top2).top2)
  have hte : takeL S now (q0.map Te.e) room = ((q0.map Te.e).map (flS1 S now), told, rm, false) := by have h9 := hp10; rw [List.take_of_length_le (by rw [List.length_map]; omega)] at h9; exact h9
  exact ⟨.inr rfl, _, resL_cons (r_tmp (v := ov2) rfl) (resL_cons (r_tmp (v := (.i .i64 rm)) rfl) (resL_one (r_tmp (v := (.b true)) rfl))), q, lc, ov2, oc2, rows2, by rw [hte]; rfl, by rw [hte]; exact hp9.all (by omega), hp9.zs, hp9.ok hok (fun k x => by show (flS1 S now x.e).c.d = _; unfold flS1; split <;> rfl), hp7, hp8, hp11, by rw [hte]; exact hp12, hH154⟩
set_option linter.unusedVariables false
set_option linter.unusedSimpArgs false
theorem rtake_raw {H : AH} {R D : HL} {F n : Nat} {lv : AV} {lc : List AV} {nx cn : Int} {q0 : List Te} {now room : Int} (hlv : Sq 19 lv lc (q0.map teRow).flatten) (hn : q0.length = n) (hql : n ≤ 100000) (hok : ∀ x ∈ q0, OctIn D x.dv x.e.c.d) (hsz : ∀ e ∈ q0.map Te.e, e.c.d.length ≤ 1000000) (hse : ∀ e ∈ q0.map Te.e, 0 ≤ e.sent ∧ e.sent ≤ 1000000) (hrm : room ≤ 9223372036854775807) (hH0 : Hs H ([(F, some (.cells [lv, .i .u32 nx, .i .i64 cn] true))] ++ (qseg lv lc ++ R))) : Ev tabA spA (.fn (.func 49) [] []) [.p (some (F, 0)), .i .i64 now, .i .i64 room] H (fun r H' => ∃ (q : List Te) (lc' : List AV) (ov' : AV) (oc' : List AV) (rows' : List (List AV)), r = ov' ∧ q.map Te.e = (take2 now (q0.map Te.e) room).1 ∧ q.map Te.z = q0.map Te.z ∧ (∀ x ∈ q, OctIn D x.dv x.e.c.d) ∧ Sq 19 lv lc' (q.map teRow).flatten ∧ q.length = n ∧ Sq 12 ov' oc' rows'.flatten ∧ CxsR D rows' ((take2 now (q0.map Te.e) room).2.map Ea.ca) ∧ Hs H' ([(F, some (.cells [lv, .i .u32 nx, .i .i64 cn] true))] ++ (qseg lv lc' ++ (qseg ov' oc' ++ R)))) := by
 refine Ev_C (F := x49) rfl ?_
 refine C_seq  (C_region  (pv (.sl none 0 0 0) rfl (O_nil  (C_seq  (C_region  (pv (pT F 0) rfl (pv (.i .i64 now) rfl (pv (.i .i64 room) rfl ?_))))))))
 have hH1 := ((hH0.top1).top1)
 refine O_call (Ev.mono (rsend_raw (S := 2) (now := now) (room := room) (ov := .sl none 0 0 0) (oc := []) (orows := []) (ocs := []) hlv hn hql hok hsz (fun e he => ⟨(hse e he).1, by have := (hse e he).2; omega⟩) hrm Sq.nil CxsR.nil (by decide) (by exact hH1)) fun v2 H3 hq4 => ?_)
 obtain ⟨q1, lc1, ov1, oc1, rows1, rfl, he1, hz1, ho1, hs1, hn1, hv1, hc1, hH5⟩ := hq4
 rw [List.nil_append] at hc1
 have hrm1 : (takeL 2 now (q0.map Te.e) room).2.2.1 ≤ 9223372036854775807 := Int.le_trans takeL_room hrm
 have hol1 : ((takeL 2 now (q0.map Te.e) room).2.1.map Ea.ca).length ≤ 100000 := by rw [List.length_map]; have h9 := takeL_outs (s := 2) (now := now) (l := (q0.map Te.e)) (r := room); rw [List.length_map] at h9; omega
 have hsz1 : ∀ e ∈ q1.map Te.e, e.c.d.length ≤ 1000000 := by rw [he1]; exact takeL_all (P := fun e => e.c.d.length ≤ 1000000) (fun e h => h) (fun e h => h) hsz
 have hse1 : ∀ e ∈ q1.map Te.e, 0 ≤ e.sent ∧ e.sent ≤ 2000000 := by rw [he1]; exact takeL_all (P := fun e => 0 ≤ e.sent ∧ e.sent ≤ 1000000) (fun e h => ⟨h.1, by omega⟩) (fun e h => ⟨by show 0 ≤ e.sent + 1; omega, by show e.sent + 1 ≤ _; omega⟩) hse
 refine pv (.tup [ov1, (.i .i64 (takeL 2 now (q0.map Te.e) room).2.2.1), (.b (!(takeL 2 now (q0.map Te.e) room).2.2.2))]) rfl (O_p ov1 (r_ext rfl rfl) (O_p (.i .i64 (takeL 2 now (q0.map Te.e) room).2.2.1) (r_ext rfl rfl) (O_p (.b (!(takeL 2 now (q0.map Te.e) room).2.2.2)) (r_ext rfl rfl) (pv ov1 rfl (pv (.i .i64 (takeL 2 now (q0.map Te.e) room).2.2.1) rfl (pv (.b (!(takeL 2 now (q0.map Te.e) room).2.2.2)) rfl (O_nil  (C_seq  (C_seq  (C_region  (pv (.b (!(takeL 2 now (q0.map Te.e) room).2.2.2)) rfl (O_nil  ?_))))))))))))
 refine C_cond (x := (!(takeL 2 now (q0.map Te.e) room).2.2.2)) rfl (fun hc6 => ?_) (fun hc6 => ?_)
 ·
  have hfl : (takeL 2 now (q0.map Te.e) room).2.2.2 = false := by simpa using hc6
  refine C_region  (pv (pT F 0) rfl (pv ov1 rfl (pv (.i .i64 now) rfl (pv (.i .i64 (takeL 2 now (q0.map Te.e) room).2.2.1) rfl ?_))))
  have hH7 := (((hH5.top2).top2).top2)
  refine O_call (Ev.mono (rsend_raw (S := 0) (now := now) (room := (takeL 2 now (q0.map Te.e) room).2.2.1) hs1 hn1 hql ho1 hsz1 hse1 hrm1 hv1 hc1 hol1 hH7) fun v8 H9 hq10 => ?_)
  obtain ⟨q2, lc2, ov2, oc2, rows2, rfl, he2, hz2, ho2, hs2, hn2, hv2, hc2, hH11⟩ := hq10
  refine pv (.tup [ov2, (.i .i64 (takeL 0 now (q1.map Te.e) (takeL 2 now (q0.map Te.e) room).2.2.1).2.2.1), (.b (!(takeL 0 now (q1.map Te.e) (takeL 2 now (q0.map Te.e) room).2.2.1).2.2.2))]) rfl (O_p ov2 (r_ext rfl rfl) (O_p (.i .i64 (takeL 0 now (q1.map Te.e) (takeL 2 now (q0.map Te.e) room).2.2.1).2.2.1) (r_ext rfl rfl) (O_p (.b (!(takeL 0 now (q1.map Te.e) (takeL 2 now (q0.map Te.e) room).2.2.1).2.2.2)) (r_ext rfl rfl) (pv ov2 rfl (O_nil  (C_seq  (C_region  (pv ov2 rfl (pv ov2 rfl (O_nil  (C_ret  ?_)))))))))))
  have hH12 := (((hH11.top2).top2).top2)
  have ht2 : take2 now (q0.map Te.e) room = ((takeL 0 now (takeL 2 now (q0.map Te.e) room).1 (takeL 2 now (q0.map Te.e) room).2.2.1).1, (takeL 2 now (q0.map Te.e) room).2.1 ++ (takeL 0 now (takeL 2 now (q0.map Te.e) room).1 (takeL 2 now (q0.map Te.e) room).2.2.1).2.1) := by unfold take2; rw [if_neg (by rw [hfl]; exact Bool.false_ne_true)]
  rw [he1] at he2 hc2
  exact ⟨.inr rfl, _, resL_one (r_tmp (v := ov2) rfl), q2, lc2, ov2, oc2, rows2, rfl, by rw [ht2]; exact he2, hz2.trans hz1, ho2, hs2, hn2, hv2, by rw [ht2]; rw [List.map_append]; exact hc2, hH12⟩
 ·
  have hfl : (takeL 2 now (q0.map Te.e) room).2.2.2 = true := by simpa using hc6
  refine C_skip  (C_seq  (C_region  (pv ov1 rfl (pv ov1 rfl (O_nil  (C_ret  ?_))))))
  have hH13 := (((hH5.top2).top2).top2)
  have ht2 : take2 now (q0.map Te.e) room = ((takeL 2 now (q0.map Te.e) room).1, (takeL 2 now (q0.map Te.e) room).2.1) := by unfold take2; rw [if_pos hfl]
  exact ⟨.inr rfl, _, resL_one (r_tmp (v := ov1) rfl), q1, lc1, ov1, oc1, rows1, rfl, by rw [ht2]; exact he1, hz1, ho1, hs1, hn1, hv1, by rw [ht2]; exact hc1, hH13⟩
theorem rpush_bad {H : AH} {R B : HL} {F n : Nat} {lv v : AV} {lc : List AV} {nx cn un tr : Int} {q0 : List Te} {rows : List (List AV)} {cs : List (Cx × Int)} (hv : ∀ H', Hs H' B → Rw 12 H' v rows) (hcr : CxsR B rows cs) (hcl : cs.length ≤ 1000000) (hlv : Sq 19 lv lc (q0.map teRow).flatten) (hn : q0.length = n) (hql : n ≤ 100000) (hbad : cs.length = 0 ∨ ∃ c ∈ cs, bdC c = true) (hH0 : Hs H ([(F, some (.cells [lv, .i .u32 nx, .i .i64 cn] true))] ++ (qseg lv lc ++ (B ++ R)))) : Ev tabA spA (.fn (.func 47) [] []) [.p (some (F, 0)), v, .i .i64 un, .i .i64 tr] H (fun r H' => r = .i .i64 1 ∧ Hs H' ([(F, some (.cells [lv, .i .u32 nx, .i .i64 cn] true))] ++ (qseg lv lc ++ (B ++ R)))) := by
  refine Ev_C (F := x47) rfl ?_
  refine C_seq  (C_region  (pv (.i .i64 0) rfl (O_nil  (C_seq  (C_seq  (C_region  (pv v rfl (O_p (.i .i64 (((cs.length : Nat)) : Int)) (r_lenOf (v := v) (n := cs.length) rfl ((hv _ hH0.top2.fst).lenOf hcr.1) (hv _ hH0.top2.fst).isSl) (O_p (.b (decide ((((cs.length : Nat)) : Int) = 0))) (r_eql rfl rfl) (O_nil  ?_))))))))))
  refine C_cond (x := (decide ((((cs.length : Nat)) : Int) = 0))) rfl (fun hc1 => ?_) (fun hc1 => ?_)
  ·
    try simp only [dz1, dz2, dz3, dz4, dz5, dz6, dz7, dz8, dz9] at hc1
    refine C_seq  (C_region  (pv (.i .i64 1) rfl (O_nil  (C_ret  (nx_ret  ?_)))))
    have hH2 := (((hH0.top2).top2).top2)
    exact ⟨.inr rfl, _, resL_one (r_tmp (v := (.i .i64 1)) rfl), rfl, hH2⟩
  ·
    try simp only [dz1, dz2, dz3, dz4, dz5, dz6, dz7, dz8, dz9] at hc1
    refine C_skip  (C_seq  (C_seq  (C_region  (pv (.i .i64 0) rfl (O_nil  (C_block  ?_))))))
    have hH3 := (((hH0.top2).top2).top2)
    refine C_while (fun m4 T5 H6 => ∃ i : Nat, m4 = cs.length - i ∧ i ≤ cs.length ∧ (∀ c ∈ cs.take i, bdC c = false) ∧ Hs H6 ([(F, some (.cells ([lv, (.i .u32 nx), (.i .i64 cn)]) true))] ++ ((qseg lv lc) ++ (B ++ (R)))) ∧ T5.get 0 = (.p (some (F, 0))) ∧ T5.get 1 = v ∧ T5.get 2 = (.i .i64 un) ∧ T5.get 3 = (.i .i64 tr) ∧ T5.get 9 = (.i .i64 (((i : Nat)) : Int))) (fun m4 T5 H6 hI7 => ?_) cs.length _ _ ⟨0, rfl, Nat.zero_le _, (fun c hc => by rw [List.take_zero] at hc; cases hc), hH3, rfl, rfl, rfl, rfl, rfl⟩
    obtain ⟨i, hm8, hp9, hp10, hH16, hT11, hT12, hT13, hT14, hT15⟩ := hI7
    refine C_seq  (C_seq  (C_region  (pv (nI i) hT15 (pv v hT12 (O_p (.i .i64 (((cs.length : Nat)) : Int)) (r_lenOf (v := v) (n := cs.length) rfl ((hv _ hH16.top2.fst).lenOf hcr.1) (hv _ hH16.top2.fst).isSl) (O_p (.b (decide ((((i : Nat)) : Int) < (((cs.length : Nat)) : Int)))) (r_lss rfl rfl) (O_nil  ?_)))))))
    refine C_cond (x := (decide ((((i : Nat)) : Int) < (((cs.length : Nat)) : Int)))) rfl (fun hc17 => ?_) (fun hc17 => ?_)
    ·
      try simp only [dz1, dz2, dz3, dz4, dz5, dz6, dz7, dz8, dz9] at hc17
      refine C_skip  (C_seq  (C_block  (C_seq  ?_)))
      have hjl : i < cs.length := by omega
      obtain ⟨x, dv, hxi, hri, hoc⟩ := hcr.get hjl
      obtain ⟨da, dc, dg, de, dhg, dhc, dhm, dhb⟩ := hoc
      subst de
      unfold cxRow at hri
      by_cases hka : x.1.k = 0
      ·
        by_cases hkb : 0 < x.1.d.length
        ·
          have hgb : bdC x = false := by unfold bdC; rw [decide_eq_true hka, decide_eq_true hkb]; rfl
          refine C_region  (pv v hT12 (pv (nI i) hT15 ?_))
          refine O_q (by exact Rw.row (hv _ hH16.top2.fst) rfl (i := i) rfl (r := [(.i .u8 x.1.k), (.i .u8 x.1.f), (.i .u32 x.2), (.i .u32 x.1.b), (.i .u16 x.1.o), (.i .u16 x.1.i), (.i .u32 x.1.p), x.1.x1, x.1.x2, x.1.x3, x.1.x4, (.sl da x.1.d.length dc dg)]) hri) fun v19 hv18 => ?_
          obtain ⟨rb20, ro21, rfl, hr22⟩ := hv18
          refine pf (.p (some (rb20, (ro21 + 0)))) rfl rfl (O_p (.i .u8 x.1.k) (r_ldR (q := 0) rfl (hr22 _ (hv _ hH16.top2.fst)) rfl) (O_p (.b false) (by exact (by rw [r_neq rfl rfl, decide_eq_true hka]; rfl)) (pv (.b false) rfl (O_gk rfl (pv v hT12 (O_gk rfl (pv (nI i) hT15 (O_gk rfl ?_))))))))
          refine O_q (by exact Rw.row (hv _ hH16.top2.fst) rfl (i := i) rfl (r := [(.i .u8 x.1.k), (.i .u8 x.1.f), (.i .u32 x.2), (.i .u32 x.1.b), (.i .u16 x.1.o), (.i .u16 x.1.i), (.i .u32 x.1.p), x.1.x1, x.1.x2, x.1.x3, x.1.x4, (.sl da x.1.d.length dc dg)]) hri) fun v24 hv23 => ?_
          obtain ⟨rb25, ro26, rfl, hr27⟩ := hv23
          refine O_gk rfl (pf (.p (some (rb25, (ro26 + 11)))) rfl rfl (O_gk rfl (O_p (.sl da x.1.d.length dc dg) (r_ldR (q := 11) rfl (hr27 _ (hv _ hH16.top2.fst)) rfl) (O_gk rfl (O_p (.i .i64 (((x.1.d.length : Nat)) : Int)) (r_len rfl) (O_gk rfl (O_p (.b false) (by exact (by rw [r_eql rfl rfl, decide_eq_false (by omega)])) (O_p (.b false) (r_pick_f rfl rfl) (O_nil  ?_)))))))))
          refine C_cond (x := false) rfl (fun h => by cases h) (fun _ => ?_)
          refine C_skip  (C_region  (pv (nI i) hT15 (O_p (.i .i64 ((((i : Nat)) : Int) + 1)) (by exact (r_addi rfl rfl (wrap_i64 (by omega) (by omega)))) (pv (.i .i64 ((((i : Nat)) : Int) + 1)) rfl (O_nil  ?_)))))
          have hH28 := (((hH16.top2).top2).top2)
          exact ⟨cs.length - (i + 1), by omega, (i + 1), rfl, by omega, fun c hc => by rw [take_at hxi] at hc; rcases List.mem_append.1 hc with h9 | h9; exact hp10 c h9; rw [List.mem_singleton.1 h9]; exact hgb, hH28, hT11, hT12, hT13, hT14, rfl⟩
        ·
          refine C_region  (pv v hT12 (pv (nI i) hT15 ?_))
          refine O_q (by exact Rw.row (hv _ hH16.top2.fst) rfl (i := i) rfl (r := [(.i .u8 x.1.k), (.i .u8 x.1.f), (.i .u32 x.2), (.i .u32 x.1.b), (.i .u16 x.1.o), (.i .u16 x.1.i), (.i .u32 x.1.p), x.1.x1, x.1.x2, x.1.x3, x.1.x4, (.sl da x.1.d.length dc dg)]) hri) fun v30 hv29 => ?_
          obtain ⟨rb31, ro32, rfl, hr33⟩ := hv29
          refine pf (.p (some (rb31, (ro32 + 0)))) rfl rfl (O_p (.i .u8 x.1.k) (r_ldR (q := 0) rfl (hr33 _ (hv _ hH16.top2.fst)) rfl) (O_p (.b false) (by exact (by rw [r_neq rfl rfl, decide_eq_true hka]; rfl)) (pv (.b false) rfl (O_gk rfl (pv v hT12 (O_gk rfl (pv (nI i) hT15 (O_gk rfl ?_))))))))
          refine O_q (by exact Rw.row (hv _ hH16.top2.fst) rfl (i := i) rfl (r := [(.i .u8 x.1.k), (.i .u8 x.1.f), (.i .u32 x.2), (.i .u32 x.1.b), (.i .u16 x.1.o), (.i .u16 x.1.i), (.i .u32 x.1.p), x.1.x1, x.1.x2, x.1.x3, x.1.x4, (.sl da x.1.d.length dc dg)]) hri) fun v35 hv34 => ?_
          obtain ⟨rb36, ro37, rfl, hr38⟩ := hv34
          refine O_gk rfl (pf (.p (some (rb36, (ro37 + 11)))) rfl rfl (O_gk rfl (O_p (.sl da x.1.d.length dc dg) (r_ldR (q := 11) rfl (hr38 _ (hv _ hH16.top2.fst)) rfl) (O_gk rfl (O_p (.i .i64 (((x.1.d.length : Nat)) : Int)) (r_len rfl) (O_gk rfl (O_p (.b true) (by exact (by rw [r_eql rfl rfl, decide_eq_true (by omega)])) (O_p (.b true) (r_pick_f rfl rfl) (O_nil  ?_)))))))))
          refine C_cond (x := true) rfl (fun _ => ?_) (fun h => by cases h)
          refine C_seq  (C_region  (pv (.i .i64 1) rfl (O_nil  (C_ret  (bk_ret  (nx_ret  (nx_ret  (bk_ret  (nx_ret  ?_)))))))))
          have hH39 := (((hH16.top2).top2).top2)
          exact ⟨.inr rfl, _, resL_one (r_tmp (v := (.i .i64 1)) rfl), rfl, hH39⟩
      ·
        refine C_region  (pv v hT12 (pv (nI i) hT15 ?_))
        refine O_q (by exact Rw.row (hv _ hH16.top2.fst) rfl (i := i) rfl (r := [(.i .u8 x.1.k), (.i .u8 x.1.f), (.i .u32 x.2), (.i .u32 x.1.b), (.i .u16 x.1.o), (.i .u16 x.1.i), (.i .u32 x.1.p), x.1.x1, x.1.x2, x.1.x3, x.1.x4, (.sl da x.1.d.length dc dg)]) hri) fun v41 hv40 => ?_
        obtain ⟨rb42, ro43, rfl, hr44⟩ := hv40
        refine pf (.p (some (rb42, (ro43 + 0)))) rfl rfl (O_p (.i .u8 x.1.k) (r_ldR (q := 0) rfl (hr44 _ (hv _ hH16.top2.fst)) rfl) (O_p (.b true) (by exact (by rw [r_neq rfl rfl, decide_eq_false hka]; rfl)) (pv (.b true) rfl (O_gf rfl (O_gf rfl (O_gf rfl (O_gf rfl (O_gf rfl (O_gf rfl (O_gf rfl (O_p (.b true) (r_pick_t rfl rfl) (O_nil  ?_))))))))))))
        refine C_cond (x := true) rfl (fun _ => ?_) (fun h => by cases h)
        refine C_seq  (C_region  (pv (.i .i64 1) rfl (O_nil  (C_ret  (bk_ret  (nx_ret  (nx_ret  (bk_ret  (nx_ret  ?_)))))))))
        have hH45 := (((hH16.top2).top2).top2)
        exact ⟨.inr rfl, _, resL_one (r_tmp (v := (.i .i64 1)) rfl), rfl, hH45⟩
    ·
      try simp only [dz1, dz2, dz3, dz4, dz5, dz6, dz7, dz8, dz9] at hc17
      refine C_exit  (nx_exit  (nx_exit  (bk_hit  (C_seq  (C_seq  ?_)))))
      exfalso
      have h8 : cs.take i = cs := List.take_of_length_le (by omega)
      rcases hbad with h9 | ⟨c, hc, h9⟩
      · omega
      · have h7 := hp10 c (by rw [h8]; exact hc); rw [h7] at h9; cases h9
set_option maxHeartbeats 1000000 in
theorem rpush_raw {H : AH} {R B : HL} {F n : Nat} {lv v : AV} {lc : List AV} {nx cn un tr : Int} {q0 : List Te} {rows : List (List AV)} {cs : List (Cx × Int)} (hv : ∀ H', Hs H' B → Rw 12 H' v rows) (hcr : CxsR B rows cs) (hcl : cs.length ≤ 1000000) (hlv : Sq 19 lv lc (q0.map teRow).flatten) (hn : q0.length = n) (hql : n ≤ 100000) (hok : ∀ x ∈ q0, OctIn B x.dv x.e.c.d) (hgood : ∀ c ∈ cs, bdC c = false) (hne : 0 < cs.length) (hfit : n + cs.length ≤ 1024) (hnx : 0 ≤ nx ∧ nx < 4294967296) (hcn : 0 ≤ cn ∧ cn ≤ 1000000) (hH0 : Hs H ([(F, some (.cells [lv, .i .u32 nx, .i .i64 cn] true))] ++ (qseg lv lc ++ (B ++ R)))) : Ev tabA spA (.fn (.func 47) [] []) [.p (some (F, 0)), v, .i .i64 un, .i .i64 tr] H (fun r H' => ∃ (q : List Te) (lv' : AV) (lc' : List AV), r = .i .i64 0 ∧ q.map Te.e = q0.map Te.e ++ pushA cs nx ∧ q.map Te.z = q0.map Te.z ++ List.replicate cs.length ⟨cn, un, tr⟩ ∧ (∀ x ∈ q, OctIn B x.dv x.e.c.d) ∧ Sq 19 lv' lc' (q.map teRow).flatten ∧ q.length = n + cs.length ∧ Hs H' ([(F, some (.cells [lv', .i .u32 (w32 (nx + ((cs.length : Nat) : Int))), .i .i64 (cn + 1)] true))] ++ (qseg lv' lc' ++ (B ++ R)))) := by
 refine Ev_C (F := x47) rfl ?_
 refine C_seq  (C_region  (pv (.i .i64 0) rfl (O_nil  (C_seq  (C_seq  (C_region  (pv v rfl (O_p (.i .i64 (((cs.length : Nat)) : Int)) (r_lenOf (v := v) (n := cs.length) rfl ((hv _ hH0.top2.fst).lenOf hcr.1) (hv _ hH0.top2.fst).isSl) (O_p (.b false) (by exact (by rw [r_eql rfl rfl, decide_eq_false (by omega)])) (O_nil  ?_))))))))))
 refine C_cond (x := false) rfl (fun h => by cases h) (fun _ => ?_)
 refine C_skip  (C_seq  (C_seq  (C_region  (pv (.i .i64 0) rfl (O_nil  (C_block  ?_))))))
 have hH1 := (((hH0.top2).top2).top2)
 refine C_while (fun m2 T3 H4 => ∃ i : Nat, m2 = cs.length - i ∧ i ≤ cs.length ∧ Hs H4 ([(F, some (.cells ([lv, (.i .u32 nx), (.i .i64 cn)]) true))] ++ ((qseg lv lc) ++ (B ++ (R)))) ∧ T3.get 0 = (.p (some (F, 0))) ∧ T3.get 1 = v ∧ T3.get 2 = (.i .i64 un) ∧ T3.get 3 = (.i .i64 tr) ∧ T3.get 9 = (.i .i64 (((i : Nat)) : Int))) (fun m2 T3 H4 hI5 => ?_) cs.length _ _ ⟨0, rfl, Nat.zero_le _, hH1, rfl, rfl, rfl, rfl, rfl⟩
 obtain ⟨i, hm6, hp7, hH13, hT8, hT9, hT10, hT11, hT12⟩ := hI5
 refine C_seq  (C_seq  (C_region  (pv (nI i) hT12 (pv v hT9 (O_p (.i .i64 (((cs.length : Nat)) : Int)) (r_lenOf (v := v) (n := cs.length) rfl ((hv _ hH13.top2.fst).lenOf hcr.1) (hv _ hH13.top2.fst).isSl) (O_p (.b (decide ((((i : Nat)) : Int) < (((cs.length : Nat)) : Int)))) (r_lss rfl rfl) (O_nil  ?_)))))))
 refine C_cond (x := (decide ((((i : Nat)) : Int) < (((cs.length : Nat)) : Int)))) rfl (fun hc14 => ?_) (fun hc14 => ?_)
 ·
  try simp only [dz1, dz2, dz3, dz4, dz5, dz6, dz7, dz8, dz9] at hc14
  refine C_skip  (C_seq  (C_block  (C_seq  (C_region  ?_))))
  have hjl : i < cs.length := by omega
  obtain ⟨x, dv, hxi, hri, hoc⟩ := hcr.get hjl
  obtain ⟨da, dc, dg, de, dhg, dhc, dhm, dhb⟩ := hoc
  subst de
  unfold cxRow at hri
  obtain ⟨hka, hkb⟩ := bdC_no (hgood x (List.mem_of_getElem? hxi))
  refine pv v hT9 (pv (nI i) hT12 ?_)
  refine O_q (by exact Rw.row (hv _ hH13.top2.fst) rfl (i := i) rfl (r := [(.i .u8 x.1.k), (.i .u8 x.1.f), (.i .u32 x.2), (.i .u32 x.1.b), (.i .u16 x.1.o), (.i .u16 x.1.i), (.i .u32 x.1.p), x.1.x1, x.1.x2, x.1.x3, x.1.x4, (.sl da x.1.d.length dc dg)]) hri) fun v16 hv15 => ?_
  obtain ⟨rb17, ro18, rfl, hr19⟩ := hv15
  refine pf (.p (some (rb17, (ro18 + 0)))) rfl rfl (O_p (.i .u8 x.1.k) (r_ldR (q := 0) rfl (hr19 _ (hv _ hH13.top2.fst)) rfl) (O_p (.b false) (by exact (by rw [r_neq rfl rfl, decide_eq_true hka]; rfl)) (pv (.b false) rfl (O_gk rfl (pv v hT9 (O_gk rfl (pv (nI i) hT12 (O_gk rfl ?_))))))))
  refine O_q (by exact Rw.row (hv _ hH13.top2.fst) rfl (i := i) rfl (r := [(.i .u8 x.1.k), (.i .u8 x.1.f), (.i .u32 x.2), (.i .u32 x.1.b), (.i .u16 x.1.o), (.i .u16 x.1.i), (.i .u32 x.1.p), x.1.x1, x.1.x2, x.1.x3, x.1.x4, (.sl da x.1.d.length dc dg)]) hri) fun v21 hv20 => ?_
  obtain ⟨rb22, ro23, rfl, hr24⟩ := hv20
  refine O_gk rfl (pf (.p (some (rb22, (ro23 + 11)))) rfl rfl (O_gk rfl (O_p (.sl da x.1.d.length dc dg) (r_ldR (q := 11) rfl (hr24 _ (hv _ hH13.top2.fst)) rfl) (O_gk rfl (O_p (.i .i64 (((x.1.d.length : Nat)) : Int)) (r_len rfl) (O_gk rfl (O_p (.b false) (by exact (by rw [r_eql rfl rfl, decide_eq_false (by omega)])) (O_p (.b false) (r_pick_f rfl rfl) (O_nil  ?_)))))))))
  refine C_cond (x := false) rfl (fun h => by cases h) (fun _ => ?_)
  refine C_skip  (C_region  (pv (nI i) hT12 (O_p (.i .i64 ((((i : Nat)) : Int) + 1)) (by exact (r_addi rfl rfl (wrap_i64 (by omega) (by omega)))) (pv (.i .i64 ((((i : Nat)) : Int) + 1)) rfl (O_nil  ?_)))))
  have hH25 := (((hH13.top2).top2).top2)
  exact ⟨cs.length - (i + 1), by omega, (i + 1), rfl, by omega, hH25, hT8, hT9, hT10, hT11, rfl⟩
 ·
  try simp only [dz1, dz2, dz3, dz4, dz5, dz6, dz7, dz8, dz9] at hc14
  refine C_exit  (nx_exit  (nx_exit  (bk_hit  (C_seq  (C_seq  (C_region  (pv (pT F 0) hT8 (O_p (pT F 0) (r_nilc rfl) (pf (pT F 0) rfl rfl (O_p lv (r_ld rfl hH13.get0 rfl) (O_p (nI n) (by exact (by exact r_lenOf rfl (hlv.lenOf (te_flatn hn) (by decide)) hlv.isSl)) (pv v hT9 (O_p (.i .i64 (((cs.length : Nat)) : Int)) (r_lenOf (v := v) (n := cs.length) rfl ((hv _ hH13.top2.fst).lenOf hcr.1) (hv _ hH13.top2.fst).isSl) ?_)))))))))))))
  refine O_p (.i .i64 ((((n : Nat)) : Int) + (((cs.length : Nat)) : Int))) (by exact (r_addi rfl rfl (wrap_i64 (by omega) (by omega)))) (O_p (.b false) (by exact (by rw [r_gtr rfl rfl, decide_eq_false (by omega)])) (O_nil  ?_))
  refine C_cond (x := false) rfl (fun h => by cases h) (fun _ => ?_)
  refine C_skip  (C_seq  (C_seq  (C_region  (pv (.i .i64 0) rfl (O_nil  (C_block  ?_))))))
  have hH26 := (((hH13.top2).top2).top2)
  refine C_while (fun m27 T28 H29 => ∃ q1 : List Te, ∃ lw : AV, ∃ lwc : List AV, ∃ j : Nat, m27 = cs.length - j ∧ j ≤ cs.length ∧ Sq 19 lw lwc (q1.map teRow).flatten ∧ q1.map Te.e = q0.map Te.e ++ pushA (cs.take j) nx ∧ q1.map Te.z = q0.map Te.z ++ List.replicate j ⟨cn, un, tr⟩ ∧ (∀ x ∈ q1, OctIn B x.dv x.e.c.d) ∧ q1.length = n + j ∧ Hs H29 ([(F, some (.cells ([lw, (.i .u32 (w32 (nx + ((j : Nat) : Int)))), (.i .i64 cn)]) true))] ++ ((qseg lw lwc) ++ (B ++ (R)))) ∧ T28.get 0 = (.p (some (F, 0))) ∧ T28.get 1 = v ∧ T28.get 2 = (.i .i64 un) ∧ T28.get 3 = (.i .i64 tr) ∧ T28.get 10 = (.i .i64 (((j : Nat)) : Int))) (fun m27 T28 H29 hI30 => ?_) cs.length _ _ ⟨q0, lv, lc, 0, rfl, Nat.zero_le _, hlv, by rw [List.take_zero]; exact (List.append_nil _).symm, (List.append_nil _).symm, hok, hn, (by rw [w32_id hnx]; exact hH26), hT8, hT9, hT10, hT11, rfl⟩
  obtain ⟨q1, lw, lwc, j, hm31, hp32, hp33, hp34, hp35, hp36, hp37, hH43, hT38, hT39, hT40, hT41, hT42⟩ := hI30
  refine C_seq  (C_seq  (C_region  (pv (nI j) hT42 (pv v hT39 (O_p (.i .i64 (((cs.length : Nat)) : Int)) (r_lenOf (v := v) (n := cs.length) rfl ((hv _ hH43.top2.fst).lenOf hcr.1) (hv _ hH43.top2.fst).isSl) (O_p (.b (decide ((((j : Nat)) : Int) < (((cs.length : Nat)) : Int)))) (r_lss rfl rfl) (O_nil  ?_)))))))
  refine C_cond (x := (decide ((((j : Nat)) : Int) < (((cs.length : Nat)) : Int)))) rfl (fun hc44 => ?_) (fun hc44 => ?_)
  ·
   try simp only [dz1, dz2, dz3, dz4, dz5, dz6, dz7, dz8, dz9] at hc44
   refine C_skip  (C_seq  (C_block  (C_seq  (C_region  ?_))))
   have hjl : j < cs.length := by omega
   obtain ⟨x, dv, hxi, hri, hoc⟩ := hcr.get hjl
   obtain ⟨da, dc, dg, de, dhg, dhc, dhm, dhb⟩ := hoc
   subst de
   unfold cxRow at hri
   refine pv v hT39 (pv (nI j) hT42 ?_)
   refine O_q (by exact Rw.row (hv _ hH43.top2.fst) rfl (i := j) rfl (r := [(.i .u8 x.1.k), (.i .u8 x.1.f), (.i .u32 x.2), (.i .u32 x.1.b), (.i .u16 x.1.o), (.i .u16 x.1.i), (.i .u32 x.1.p), x.1.x1, x.1.x2, x.1.x3, x.1.x4, (.sl da x.1.d.length dc dg)]) hri) fun v46 hv45 => ?_
   obtain ⟨rb47, ro48, rfl, hr49⟩ := hv45
   refine O_p (.agg [(.i .u8 x.1.k), (.i .u8 x.1.f), (.i .u32 x.2), (.i .u32 x.1.b), (.i .u16 x.1.o), (.i .u16 x.1.i), (.i .u32 x.1.p), x.1.x1, x.1.x2, x.1.x3, x.1.x4, (.sl da x.1.d.length dc dg)]) (r_ldRA (q := 0) rfl (hr49 _ (hv _ hH43.top2.fst)) rfl) ?_
   refine O_alloc fun n50 H51 hN52 => ?_
   have hH53 := hH43.new hN52
   refine O_store (vs := [(.i .u8 x.1.k), (.i .u8 x.1.f), (.i .u32 x.2), (.i .u32 x.1.b), (.i .u16 x.1.o), (.i .u16 x.1.i), (.i .u32 x.1.p), x.1.x1, x.1.x2, x.1.x3, x.1.x4, (.sl da x.1.d.length dc dg)]) (c' := [(.i .u8 x.1.k), (.i .u8 x.1.f), (.i .u32 x.2), (.i .u32 x.1.b), (.i .u16 x.1.o), (.i .u16 x.1.i), (.i .u32 x.1.p), x.1.x1, x.1.x2, x.1.x3, x.1.x4, (.sl da x.1.d.length dc dg)]) rfl (by rfl) hH53.get0 rfl (List.cons_ne_nil _ _) (Nat.le_of_ble_eq_true rfl) (putAt_all rfl) fun H54 hW55 => ?_
   have hH56 := hH53.wr0 hW55
   refine O_nil  (C_seq  (C_region  (pv (pT F 0) hT38 (O_p (pT F 0) (r_nilc rfl) (pf (pT F 1) rfl rfl (O_p (.i .u32 (w32 (nx + ((j : Nat) : Int)))) (r_ld rfl hH56.get1 rfl) (pf (pT n50 2) rfl rfl ?_)))))))
   refine O_store (vs := [(.i .u32 (w32 (nx + ((j : Nat) : Int))))]) (c' := [(.i .u8 x.1.k), (.i .u8 x.1.f), (.i .u32 (w32 (nx + ((j : Nat) : Int)))), (.i .u32 x.1.b), (.i .u16 x.1.o), (.i .u16 x.1.i), (.i .u32 x.1.p), x.1.x1, x.1.x2, x.1.x3, x.1.x4, (.sl da x.1.d.length dc dg)]) rfl (by rfl) hH56.get0 rfl (List.cons_ne_nil _ _) (Nat.le_of_ble_eq_true rfl) rfl fun H57 hW58 => ?_
   have hH59 := hH56.wr0 hW58
   refine O_nil  (C_seq  (C_region  (pv (pT F 0) hT38 (O_p (pT F 0) (r_nilc rfl) (pf (pT F 1) rfl rfl (O_p (.i .u32 (w32 (nx + ((j : Nat) : Int)))) (r_ld rfl hH59.get1 rfl) (O_p (.i .u32 (IntKind.u32.wrap ((w32 (nx + ((j : Nat) : Int))) + 1))) (r_bin rfl rfl rfl) (O_p (pT F 0) (r_nilc rfl) (pf (pT F 1) rfl rfl ?_)))))))))
   refine O_store (vs := [(.i .u32 (IntKind.u32.wrap ((w32 (nx + ((j : Nat) : Int))) + 1)))]) (c' := [lw, (.i .u32 (IntKind.u32.wrap ((w32 (nx + ((j : Nat) : Int))) + 1))), (.i .i64 cn)]) rfl (by rfl) hH59.get1 rfl (List.cons_ne_nil _ _) (Nat.le_of_ble_eq_true rfl) rfl fun H60 hW61 => ?_
   have hH62 := hH59.wr1 hW61
   refine O_nil  ?_
   refine C_draw fun b63 H64 hbase65 hA66 => ?_
   have hH67 : Hs H64 (asideL b63 [13] ++ _) := hH62.aside hA66 [13] hbase65 rfl (by decide)
   have hH68 : Hs H64 ([(b63 + 13, none)] ++ _) := hH67
   refine D_l (v := (pT F 0)) rfl rfl rfl (r_mv hT38) (D_l (v := (pT F 0)) rfl rfl rfl (r_mv hT38) (D_l (v := (pT F 0)) rfl rfl rfl (r_nilc rfl) (D_l (v := (pT F 0)) rfl rfl rfl (r_fadd' rfl rfl) (D_l (v := (pT F 0)) rfl rfl rfl (r_mv hT38) (D_l (v := (pT F 0)) rfl rfl rfl (r_nilc rfl) (D_l (v := (pT F 2)) rfl rfl rfl (r_fadd' rfl rfl) (D_l (v := (.i .i64 un)) rfl rfl rfl (r_mv hT40) (D_l (v := (.i .i64 tr)) rfl rfl rfl (r_mv hT41) (D_r (v := lw) rfl rfl rfl (r_ld rfl hH68.get2 rfl) (D_r (v := (.agg [(.i .u8 x.1.k), (.i .u8 x.1.f), (.i .u32 (w32 (nx + ((j : Nat) : Int)))), (.i .u32 x.1.b), (.i .u16 x.1.o), (.i .u16 x.1.i), (.i .u32 x.1.p), x.1.x1, x.1.x2, x.1.x3, x.1.x4, (.sl da x.1.d.length dc dg)])) rfl rfl rfl (r_ldA rfl hH68.get1 rfl) (D_r (v := (.i .i64 cn)) rfl rfl rfl (r_ld rfl hH68.get2 rfl) (D_l (v := (.agg [(.i .u8 x.1.k), (.i .u8 x.1.f), (.i .u32 (w32 (nx + ((j : Nat) : Int)))), (.i .u32 x.1.b), (.i .u16 x.1.o), (.i .u16 x.1.i), (.i .u32 x.1.p), x.1.x1, x.1.x2, x.1.x3, x.1.x4, (.sl da x.1.d.length dc dg), (.i .i64 cn), (.i .i64 0), (.i .i64 0), (.i .i64 0), (.i .i64 0), (.i .i64 un), (.i .i64 tr)])) rfl rfl rfl (r_build rfl) ?_))))))))))))
   refine D_m (f := fun n => ((.sl (some (n, 0)) 1 1 0), .cells [(.i .u8 x.1.k), (.i .u8 x.1.f), (.i .u32 (w32 (nx + ((j : Nat) : Int)))), (.i .u32 x.1.b), (.i .u16 x.1.o), (.i .u16 x.1.i), (.i .u32 x.1.p), x.1.x1, x.1.x2, x.1.x3, x.1.x4, (.sl da x.1.d.length dc dg), (.i .i64 cn), (.i .i64 0), (.i .i64 0), (.i .i64 0), (.i .i64 0), (.i .i64 un), (.i .i64 tr)] true)) rfl (mk_bs1 rfl rfl rfl) fun H70 hW71 => ?_
   have hH73 := hH68.wr0 hW71
   generalize hn72 : b63 + 13 = n69 at hW71 hH73 ⊢
   refine And.intro (And.intro (Or.inl rfl) (And.intro (Or.inl rfl) (And.intro (Or.inr (look_run rfl rfl (r_ld rfl hH73.get2 rfl))) True.intro))) ?_
   refine D_qh rfl rfl (by exact r_appq (n := q1.length) (k := 1) (new := [(.i .u8 x.1.k), (.i .u8 x.1.f), (.i .u32 (w32 (nx + ((j : Nat) : Int)))), (.i .u32 x.1.b), (.i .u16 x.1.o), (.i .u16 x.1.i), (.i .u32 x.1.p), x.1.x1, x.1.x2, x.1.x3, x.1.x4, (.sl da x.1.d.length dc dg), (.i .i64 cn), (.i .i64 0), (.i .i64 0), (.i .i64 0), (.i .i64 0), (.i .i64 un), (.i .i64 tr)]) hH73.top3 hp33 rfl rfl rfl (src_blk hH73.get0 (by rfl)) rfl (by decide) (by decide) (te_flat q1) (by first | omega | (simp only [List.length_take, List.length_drop, List.length_append, List.length_cons, List.length_nil, beN_len] <;> omega))) fun o74 H75 hA77 => ?_
   obtain ⟨c76, hA77, hH78⟩ := hA77
   refine And.intro (And.intro (Or.inl rfl) True.intro) ?_
   obtain ⟨qa79, ql80, qc81, qg82, rfl⟩ := hA77.isSl
   refine D_l (v := (pT F 0)) rfl rfl rfl (r_nilc rfl) (D_l (v := (pT F 0)) rfl rfl rfl (r_fadd' rfl rfl) ?_)
   refine D_store (vs := [(.sl qa79 ql80 qc81 qg82)]) (c' := [(.sl qa79 ql80 qc81 qg82), (.i .u32 (IntKind.u32.wrap ((w32 (nx + ((j : Nat) : Int))) + 1))), (.i .i64 cn)]) rfl (by rfl) hH78.get3 rfl (List.cons_ne_nil _ _) (Nat.le_of_ble_eq_true rfl) rfl fun H83 hW84 => ?_
   have hH85 := hH78.wr3 hW84
   refine And.intro True.intro (D_nil  (C_region  (pv (nI j) hT42 (O_p (.i .i64 ((((j : Nat)) : Int) + 1)) (by exact (r_addi rfl rfl (wrap_i64 (by omega) (by omega)))) (pv (.i .i64 ((((j : Nat)) : Int) + 1)) rfl (O_nil  ?_))))))
   have hH86 := ((hH85.sub1).sub1)
   have hH87 := (((hH86.top2).top1).top2)
   have hps1 := push_at (nx := nx) hxi
   have hH88 := hH87
   rw [show IntKind.u32.wrap (((w32 (nx + ((j : Nat) : Int)))) + 1) = (w32 (nx + ((j + 1 : Nat) : Int))) from w32_succ nx j] at hH88
   exact ⟨cs.length - (j + 1), by omega, (q1 ++ [(⟨⟨x.1, (w32 (nx + ((j : Nat) : Int))), 0, 0, 0, 0⟩, ⟨cn, un, tr⟩, .sl da x.1.d.length dc dg⟩ : Te)]), (.sl qa79 ql80 qc81 qg82), c76, (j + 1), rfl, by omega, by rw [← te_app]; exact hA77, by rw [hps1, List.map_append, hp34, List.append_assoc]; rfl, by rw [List.map_append, hp35, List.append_assoc, List.replicate_succ']; rfl, fun z hz => by rcases List.mem_append.1 hz with h9 | h9; exact hp36 z h9; obtain rfl := List.mem_singleton.1 h9; exact ⟨_, _, _, rfl, dhg, dhc, dhm, dhb⟩, by rw [List.length_append]; show q1.length + 1 = _; omega, hH88, hT38, hT39, hT40, hT41, rfl⟩
  ·
   try simp only [dz1, dz2, dz3, dz4, dz5, dz6, dz7, dz8, dz9] at hc44
   refine C_exit  (nx_exit  (nx_exit  (bk_hit  (C_seq  (C_region  (pv (pT F 0) hT38 (O_p (pT F 0) (r_nilc rfl) (pf (pT F 2) rfl rfl (O_p (.i .i64 cn) (r_ld rfl hH43.get0 rfl) (O_p (.i .i64 (cn + 1)) (by exact (r_addi rfl rfl (wrap_i64 (by omega) (by omega)))) (O_p (pT F 0) (r_nilc rfl) (pf (pT F 2) rfl rfl ?_))))))))))))
   refine O_store (vs := [(.i .i64 (cn + 1))]) (c' := [lw, (.i .u32 (w32 (nx + ((j : Nat) : Int)))), (.i .i64 (cn + 1))]) rfl (by rfl) hH43.get0 rfl (List.cons_ne_nil _ _) (Nat.le_of_ble_eq_true rfl) rfl fun H89 hW90 => ?_
   have hH91 := hH43.wr0 hW90
   refine O_nil  (C_seq  (C_region  (pv (.i .i64 0) rfl (O_nil  (C_ret  ?_)))))
   have hH92 := (((hH91.top2).top2).top2)
   have hjn : j = cs.length := by omega
   have hH93 := hH92
   rw [hjn] at hH93
   exact ⟨.inr rfl, _, resL_one (r_tmp (v := (.i .i64 0)) rfl), q1, lw, lwc, rfl, by have h9 := hp34; rw [hjn, List.take_length] at h9; exact h9, by rw [← hjn]; exact hp35, hp36, hp33, by rw [← hjn]; exact hp37, hH93⟩
set_option linter.unusedVariables false
set_option linter.unusedSimpArgs false
theorem mkd_get {bl : List (Int × Int)} : ∀ {l : List Ea} {k j : Nat}, (mkd bl k l)[j]? = (l[j]?).map fun e => mk1 (cov bl (((k + j : Nat) : Int) + 1)) e
  | [], k, j => rfl
  | e :: l, k, 0 => rfl
  | e :: l, k, j + 1 => by
    show (mkd bl (k + 1) l)[j]? = _
    rw [mkd_get, show k + 1 + j = k + (j + 1) by omega]; rfl
theorem Upd.mkd {bl : List (Int × Int)} {i : Nat} {q0 q : List Te} (h : Upd (fun k x => mk1 (cov bl (((k : Nat) : Int) + 1)) x.e) i q0 q) (hi : q0.length ≤ i) : q.map Te.e = mkd bl 0 (q0.map Te.e) := List.ext_getElem? fun k => by
  rw [h.es k, mkd_get, List.getElem?_map]
  cases hk : q0[k]? with
  | none => rfl
  | some x =>
    have := (List.getElem?_eq_some_iff.1 hk).1
    simp only [Option.map_some]; rw [if_pos (by omega), Nat.zero_add]
theorem mk1_c {c : Bool} {e : Ea} : (mk1 c e).c = e.c := by
  unfold mk1
  split
  · rfl
  · split <;> rfl
theorem mk1_mi {c : Bool} {e : Ea} (h : 0 ≤ e.mi ∧ e.mi ≤ 1000000) : 0 ≤ (mk1 c e).mi ∧ (mk1 c e).mi ≤ 1000000 := by
  unfold mk1
  split
  · exact h
  · split
    · exact ⟨Int.le_refl _, by show (0 : Int) ≤ _; decide⟩
    · exact h
theorem msE_c {e : Ea} : (msE e).c = e.c := by
  unfold msE
  split
  · split <;> rfl
  · rfl
theorem cov_take {bl : List (Int × Int)} {h : Int} {k : Nat} {b : Int × Int} (hk : bl[k]? = some b) : cov (bl.take (k + 1)) h = (cov (bl.take k) h || decide (b.1 ≤ h ∧ h ≤ b.2)) := any_at hk
theorem hit_no {c : Bool} {e : Ea} (h : c = false) : ¬ hit c e := fun h9 => by rw [h] at h9; cases h9.1
theorem te_drop {q : List Te} {m : Nat} : (q.drop m).map Te.e = (q.map Te.e).drop m := List.map_drop ..
theorem rack_no {H : AH} {R : HL} {F n : Nat} {lv : AV} {lc : List AV} {nx cn : Int} {q0 : List Te} {cum now : Int} {m : Nat} {v : AV} (hlv : Sq 19 lv lc (q0.map teRow).flatten) (hn : q0.length = n) (hql : n ≤ 100000) (hcr : 0 ≤ cum ∧ cum < 4294967296) (hcum : w32 (cum - floorA nx n) = ((m : Nat) : Int)) (hno : ¬ AckOK (q0.map Te.e) m) (hH0 : Hs H ([(F, some (.cells [lv, .i .u32 nx, .i .i64 cn] true))] ++ (qseg lv lc ++ R))) : Ev tabA spA (.fn (.func 50) [] []) [.p (some (F, 0)), .i .u32 cum, v, .i .i64 now] H (fun r H' => r = .tup [.i .i64 0, .i .i64 0, .b false, .b false, .b false] ∧ Hs H' ([(F, some (.cells [lv, .i .u32 nx, .i .i64 cn] true))] ++ (qseg lv lc ++ R))) := by
  refine Ev_C (F := x50) rfl ?_
  refine C_seq  (C_region  (pv (.i .i64 0) rfl (pv (.i .i64 0) rfl (pv (.b false) rfl (pv (.b false) rfl (pv (.b false) rfl (O_nil  (C_seq  (C_region  (pv (pT F 0) rfl (pv (.i .u32 cum) rfl ?_)))))))))))
  have hH1 := ((hH0.top1).top1)
  refine O_call (Ev.mono (rmay_raw hlv hn hql hcr hcum hH1) fun v2 H3 hq4 => ?_)
  obtain ⟨⟨h8, _⟩ | ⟨_, rfl⟩, hH5⟩ := hq4
  · exact absurd h8 hno
  refine pv (.tup [(.i .i64 0), (.b false)]) rfl (O_p (.i .i64 0) (r_ext rfl rfl) (O_p (.b false) (r_ext rfl rfl) (pv (.i .i64 0) rfl (pv (.b false) rfl (O_nil  (C_seq  (C_seq  (C_region  (pv (.b false) rfl (O_p (.b true) (r_un rfl rfl) (O_nil  ?_)))))))))))
  refine C_cond (x := true) rfl (fun _ => ?_) (fun h => by cases h)
  refine C_seq  (C_region  (pv (.i .i64 0) rfl (pv (.i .i64 0) rfl (pv (.b false) rfl (pv (.b false) rfl (pv (.b false) rfl (O_nil  (C_ret  (nx_ret  ?_)))))))))
  have hH6 := ((hH5.top1).top1)
  exact ⟨.inr rfl, _, resL_cons (r_tmp (v := (.i .i64 0)) rfl) (resL_cons (r_tmp (v := (.i .i64 0)) rfl) (resL_cons (r_tmp (v := (.b false)) rfl) (resL_cons (r_tmp (v := (.b false)) rfl) (resL_one (r_tmp (v := (.b false)) rfl))))), rfl, hH6⟩
set_option maxHeartbeats 4000000 in
theorem rack_raw {H : AH} {R B D : HL} {F n : Nat} {lv v : AV} {lc : List AV} {nx cn cum now : Int} {q0 : List Te} {m : Nat} {rows : List (List AV)} {bl : List (Int × Int)} (hlv : Sq 19 lv lc (q0.map teRow).flatten) (hn : q0.length = n) (hql : n ≤ 100000) (hok : ∀ x ∈ q0, OctIn D x.dv x.e.c.d) (hsz : ∀ e ∈ (q0.map Te.e), e.c.d.length ≤ 1000000) (hv : ∀ H', Hs H' B → Rw 2 H' v rows) (hbr : BksR rows bl) (hbl : bl.length ≤ 100000) (hcr : 0 ≤ cum ∧ cum < 4294967296) (hcum : w32 (cum - floorA nx n) = ((m : Nat) : Int)) (hyes : AckOK (q0.map Te.e) m) (hm : m ≤ n) (hnow : 0 ≤ now ∧ now ≤ 4611686018427387904) (htm : ∀ e ∈ (q0.map Te.e), 0 ≤ e.tm ∧ e.tm ≤ 4611686018427387904) (hmi : ∀ e ∈ (q0.map Te.e), 0 ≤ e.mi ∧ e.mi ≤ 1000000) (hH0 : Hs H ([(F, some (.cells [lv, .i .u32 nx, .i .i64 cn] true))] ++ (qseg lv lc ++ (B ++ R)))) : Ev tabA spA (.fn (.func 50) [] []) [.p (some (F, 0)), .i .u32 cum, v, .i .i64 now] H (fun r H' => ∃ (q : List Te) (lv' : AV) (lc' : List AV), r = .tup [.i .i64 ((ackB bl (q0.map Te.e) m : Nat) : Int), .i .i64 (drS now ((q0.map Te.e).take m) (-1)), .b (ackL bl (q0.map Te.e) m), .b (decide ((0 : Int) < ((m : Nat) : Int))), .b true] ∧ q.map Te.e = ackE bl (q0.map Te.e) m ∧ q.map Te.z = (q0.map Te.z).drop m ∧ (∀ x ∈ q, OctIn D x.dv x.e.c.d) ∧ Sq 19 lv' lc' (q.map teRow).flatten ∧ q.length = n - m ∧ Hs H' ([(F, some (.cells [lv', .i .u32 nx, .i .i64 cn] true))] ++ (qseg lv' lc' ++ (B ++ R)))) := by
  refine Ev_C (F := x50) rfl ?_
  refine C_seq  (C_region  (pv (.i .i64 0) rfl (pv (.i .i64 0) rfl (pv (.b false) rfl (pv (.b false) rfl (pv (.b false) rfl (O_nil  (C_seq  (C_region  (pv (pT F 0) rfl (pv (.i .u32 cum) rfl ?_)))))))))))
  have hH1 := ((hH0.top1).top1)
  refine O_call (Ev.mono (rmay_raw hlv hn hql hcr hcum hH1) fun v2 H3 hq4 => ?_)
  obtain ⟨⟨_, rfl⟩ | ⟨h8, _⟩, hH5⟩ := hq4
  rotate_left
  · exact absurd hyes h8
  refine pv (.tup [(nI m), (.b true)]) rfl (O_p (nI m) (r_ext rfl rfl) (O_p (.b true) (r_ext rfl rfl) (pv (nI m) rfl (pv (.b true) rfl (O_nil  (C_seq  (C_seq  (C_region  (pv (.b true) rfl (O_p (.b false) (r_un rfl rfl) (O_nil  ?_)))))))))))
  refine C_cond (x := false) rfl (fun h => by cases h) (fun _ => ?_)
  refine C_skip  (C_seq  (C_region  (pv (.i .i64 0) rfl (O_nil  (C_seq  (C_region  (pv (.i .i64 (-1)) rfl (O_nil  (C_seq  (C_seq  (C_region  (pv (.i .i64 0) rfl (O_nil  ?_)))))))))))))
  refine C_block  ?_
  have hH6 := (((hH5.top2).top2).top2)
  refine C_while (fun m7 T8 H9 => ∃ i : Nat, m7 = m - i ∧ i ≤ m ∧ Hs H9 ([(F, some (.cells ([lv, (.i .u32 nx), (.i .i64 cn)]) true))] ++ ((qseg lv lc) ++ (B ++ (R)))) ∧ T8.get 0 = (.p (some (F, 0))) ∧ T8.get 2 = v ∧ T8.get 3 = (.i .i64 now) ∧ T8.get 13 = (.i .i64 (((m : Nat)) : Int)) ∧ T8.get 15 = (.i .i64 ((((drB ((q0.map Te.e).take i)) : Nat)) : Int)) ∧ T8.get 16 = (.i .i64 (drS now ((q0.map Te.e).take i) (-1))) ∧ T8.get 17 = (.i .i64 (((i : Nat)) : Int))) (fun m7 T8 H9 hI10 => ?_) m _ _ ⟨0, rfl, Nat.zero_le _, hH6, rfl, rfl, rfl, rfl, rfl, rfl, rfl⟩
  obtain ⟨i, hm11, hp12, hH20, hT13, hT14, hT15, hT16, hT17, hT18, hT19⟩ := hI10
  have hdb := drB_le (l := (q0.map Te.e).take i) (fun e he => hsz e (List.mem_of_mem_take he))
  have htk : ((q0.map Te.e).take i).length ≤ i := by rw [List.length_take]; omega
  refine C_seq  (C_seq  (C_region  (pv (nI i) hT19 (pv (nI m) hT16 (O_p (.b (decide ((((i : Nat)) : Int) < (((m : Nat)) : Int)))) (r_lss rfl rfl) (O_nil  ?_))))))
  refine C_cond (x := (decide ((((i : Nat)) : Int) < (((m : Nat)) : Int)))) rfl (fun hc21 => ?_) (fun hc21 => ?_)
  ·
    try simp only [dz1, dz2, dz3, dz4, dz5, dz6, dz7, dz8, dz9] at hc21
    refine C_skip  (C_seq  (C_block  (C_seq  (C_region  ?_))))
    have hil : i < m := by omega
    obtain ⟨x, hxi⟩ : ∃ x, q0[i]? = some x := ⟨_, List.getElem?_eq_getElem (by omega)⟩
    have hdx := hok x (List.mem_of_getElem? hxi)
    have hszx := hsz x.e (List.mem_map_of_mem (List.mem_of_getElem? hxi))
    have htmx := htm x.e (List.mem_map_of_mem (List.mem_of_getElem? hxi))
    refine pv (pT F 0) hT13 (O_p (pT F 0) (r_nilc rfl) (pf (pT F 0) rfl rfl (O_p lv (r_ld rfl hH20.get0 rfl) (pv (nI i) hT19 ?_))))
    refine O_q (by exact Sq.cell hlv (te_lens q0) hH20.top1 rfl (i := i) rfl (r := teRow x) (te_get hxi) (by decide)) fun v23 hv22 => ?_
    obtain ⟨rb24, ro25, rfl, hrg26, hrt27, hrb28, hput29, hqs30⟩ := hv22
    refine O_p (.agg [(.i .u8 x.e.c.k), (.i .u8 x.e.c.f), (.i .u32 x.e.a), (.i .u32 x.e.c.b), (.i .u16 x.e.c.o), (.i .u16 x.e.c.i), (.i .u32 x.e.c.p), x.e.c.x1, x.e.c.x2, x.e.c.x3, x.e.c.x4, x.dv, (.i .i64 x.z.k), (.i .i64 x.e.st), (.i .i64 x.e.sent), (.i .i64 x.e.tm), (.i .i64 x.e.mi), (.i .i64 x.z.un), (.i .i64 x.z.tr)]) (r_ldRA (q := 0) rfl ⟨_, _, hrg26, hrt27⟩ rfl) ?_
    refine O_alloc fun n31 H32 hN33 => ?_
    have hH34 := hH20.new hN33
    refine O_store (vs := [(.i .u8 x.e.c.k), (.i .u8 x.e.c.f), (.i .u32 x.e.a), (.i .u32 x.e.c.b), (.i .u16 x.e.c.o), (.i .u16 x.e.c.i), (.i .u32 x.e.c.p), x.e.c.x1, x.e.c.x2, x.e.c.x3, x.e.c.x4, x.dv, (.i .i64 x.z.k), (.i .i64 x.e.st), (.i .i64 x.e.sent), (.i .i64 x.e.tm), (.i .i64 x.e.mi), (.i .i64 x.z.un), (.i .i64 x.z.tr)]) (c' := [(.i .u8 x.e.c.k), (.i .u8 x.e.c.f), (.i .u32 x.e.a), (.i .u32 x.e.c.b), (.i .u16 x.e.c.o), (.i .u16 x.e.c.i), (.i .u32 x.e.c.p), x.e.c.x1, x.e.c.x2, x.e.c.x3, x.e.c.x4, x.dv, (.i .i64 x.z.k), (.i .i64 x.e.st), (.i .i64 x.e.sent), (.i .i64 x.e.tm), (.i .i64 x.e.mi), (.i .i64 x.z.un), (.i .i64 x.z.tr)]) rfl (by rfl) hH34.get0 rfl (List.cons_ne_nil _ _) (Nat.le_of_ble_eq_true rfl) (putAt_all rfl) fun H35 hW36 => ?_
    have hH37 := hH34.wr0 hW36
    refine O_nil  (C_seq  (C_region  (pf (pT n31 13) rfl rfl (O_p (.i .i64 x.e.st) (r_ld rfl hH37.get0 rfl) (O_p (.b (!decide (x.e.st = 3))) (r_neq rfl rfl) (pv (.b (!decide (x.e.st = 3))) rfl (O_gx (e := (!decide (x.e.st = 3))) (v := (pT n31 13)) (wt rfl) (fun he => (r_fadd' rfl rfl)) (O_gx (e := (!decide (x.e.st = 3))) (v := (.i .i64 x.e.st)) (wt rfl) (fun he => (r_ld (cond_pos he) hH37.get0 rfl)) (O_gx (e := (!decide (x.e.st = 3))) (v := (.b (!decide (x.e.st = 4)))) (wt rfl) (fun he => (r_neq (cond_pos he) rfl)) (O_p (.b ((!decide (x.e.st = 3)) && (!decide (x.e.st = 4)))) (r_pick_and rfl rfl rfl rfl) (O_nil  ?_)))))))))))
    refine C_cond (x := ((!decide (x.e.st = 3)) && (!decide (x.e.st = 4)))) rfl (fun hc38 => ?_) (fun hc38 => ?_)
    ·
      try simp only [dz1, dz2, dz3, dz4, dz5, dz6, dz7, dz8, dz9] at hc38
      have hs34 : ¬ (x.e.st = 3 ∨ x.e.st = 4) := by omega
      refine C_seq  (C_region  (pv (.i .i64 ((((drB ((q0.map Te.e).take i)) : Nat)) : Int)) hT17 (pf (pT n31 0) rfl rfl (pf (pT n31 11) rfl rfl (O_p x.dv (r_ld rfl hH37.get0 rfl) (O_p (.i .i64 (((x.e.c.d.length : Nat)) : Int)) (r_lenOf (v := x.dv) (n := x.e.c.d.length) rfl hdx.lenOf hdx.isSl) (O_p (.i .i64 (((((drB ((q0.map Te.e).take i)) : Nat)) : Int) + (((x.e.c.d.length : Nat)) : Int))) (by exact (r_addi rfl rfl (wrap_i64 (by omega) (by omega)))) (pv (.i .i64 (((((drB ((q0.map Te.e).take i)) : Nat)) : Int) + (((x.e.c.d.length : Nat)) : Int))) rfl (O_nil  (C_seq  (C_region  (pf (pT n31 14) rfl rfl (O_p (.i .i64 x.e.sent) (r_ld rfl hH37.get0 rfl) ?_)))))))))))))
      refine O_p (.b (decide (x.e.sent = 1))) (r_eql rfl rfl) (O_nil  ?_)
      refine C_cond (x := (decide (x.e.sent = 1))) rfl (fun hc39 => ?_) (fun hc39 => ?_)
      ·
        try simp only [dz1, dz2, dz3, dz4, dz5, dz6, dz7, dz8, dz9] at hc39
        have hs1 : x.e.sent = 1 := hc39
        refine C_region  (pv (.i .i64 now) hT15 (pf (pT n31 15) rfl rfl (O_p (.i .i64 x.e.tm) (r_ld rfl hH37.get0 rfl) (O_p (.i .i64 (now - x.e.tm)) (by exact (r_subi rfl rfl (wrap_i64 (by omega) (by omega)))) (pv (.i .i64 (now - x.e.tm)) rfl (O_nil  (C_region  (pv (nI i) hT19 (O_p (.i .i64 ((((i : Nat)) : Int) + 1)) (by exact (r_addi rfl rfl (wrap_i64 (by omega) (by omega)))) (pv (.i .i64 ((((i : Nat)) : Int) + 1)) rfl (O_nil  ?_)))))))))))
        have hH40 := (hH37.sub0)
        have hH41 := (((hH40.top2).top2).top2)
        exact ⟨m - (i + 1), by omega, (i + 1), rfl, by omega, hH41, hT13, hT14, hT15, hT16, (by rw [drB_take (te_e hxi) hs34]; exact rfl), (by rw [drS_one (te_e hxi) hs34 hs1]; exact rfl), rfl⟩
      ·
        try simp only [dz1, dz2, dz3, dz4, dz5, dz6, dz7, dz8, dz9] at hc39
        have hs1 : ¬ x.e.sent = 1 := hc39
        refine C_skip  (C_region  (pv (nI i) hT19 (O_p (.i .i64 ((((i : Nat)) : Int) + 1)) (by exact (r_addi rfl rfl (wrap_i64 (by omega) (by omega)))) (pv (.i .i64 ((((i : Nat)) : Int) + 1)) rfl (O_nil  ?_)))))
        have hH42 := (hH37.sub0)
        have hH43 := (((hH42.top2).top2).top2)
        exact ⟨m - (i + 1), by omega, (i + 1), rfl, by omega, hH43, hT13, hT14, hT15, hT16, (by rw [drB_take (te_e hxi) hs34]; exact rfl), (by rw [drS_more (te_e hxi) hs34 hs1]; exact hT18), rfl⟩
    ·
      try simp only [dz1, dz2, dz3, dz4, dz5, dz6, dz7, dz8, dz9] at hc38
      have hs34 : (x.e.st = 3 ∨ x.e.st = 4) := by omega
      refine C_skip  (C_region  (pv (nI i) hT19 (O_p (.i .i64 ((((i : Nat)) : Int) + 1)) (by exact (r_addi rfl rfl (wrap_i64 (by omega) (by omega)))) (pv (.i .i64 ((((i : Nat)) : Int) + 1)) rfl (O_nil  ?_)))))
      have hH44 := (hH37.sub0)
      have hH45 := (((hH44.top2).top2).top2)
      exact ⟨m - (i + 1), by omega, (i + 1), rfl, by omega, hH45, hT13, hT14, hT15, hT16, (by rw [drB_skip (te_e hxi) hs34]; exact hT17), (by rw [drS_skip (te_e hxi) hs34]; exact hT18), rfl⟩
  ·
    try simp only [dz1, dz2, dz3, dz4, dz5, dz6, dz7, dz8, dz9] at hc21
    refine C_exit  (nx_exit  (nx_exit  (bk_hit  (C_seq  (C_region  (pv (pT F 0) hT13 ?_))))))
    refine O_bslice (c := []) rfl fun n46 H47 hN48 => ?_
    have hH49 := hH20.new hN48
    refine pv (pT F 0) hT13 (O_p (pT F 0) (r_nilc rfl) (pf (pT F 0) rfl rfl (O_p lv (r_ld rfl hH49.get1 rfl) (pv (nI m) hT16 ?_))))
    refine O_q (by exact Rw.lo (hlv.rd hH49.top2 (te_lens q0) (by decide)) rfl (i := m) rfl (by rw [List.length_map]; omega)) fun v51 hv50 => ?_
    refine O_qh (by exact r_appq (n := 0) (k := (n - m)) (new := ((q0.map teRow).drop m).flatten) hH49.top0 (Sq.full (b := n46) (n := 0) (g := 0) (sz := 19) (l := []) (.inl rfl) rfl) rfl rfl ((hv50 _ (hlv.rd hH49.top2 (te_lens q0) (by decide))).lenOf (by rw [List.length_drop, List.length_map, hn])) (by have h9 := (hv50 _ (hlv.rd hH49.top2 (te_lens q0) (by decide))).src; rw [List.length_drop, List.length_map, hn] at h9; exact h9) (by rw [← List.map_drop, te_flat, List.length_drop, hn]) (by decide) (by decide) rfl (by first | omega | (simp only [List.length_take, List.length_drop, List.length_append, List.length_cons, List.length_nil, beN_len] <;> omega))) fun o52 H53 hA55 => ?_
    obtain ⟨c54, hA55, hH56⟩ := hA55
    obtain ⟨qa57, ql58, qc59, qg60, rfl⟩ := hA55.isSl
    refine O_p (pT F 0) (r_nilc rfl) (pf (pT F 0) rfl rfl ?_)
    refine O_store (vs := [(.sl qa57 ql58 qc59 qg60)]) (c' := [(.sl qa57 ql58 qc59 qg60), (.i .u32 nx), (.i .i64 cn)]) rfl (by rfl) hH56.get1 rfl (List.cons_ne_nil _ _) (Nat.le_of_ble_eq_true rfl) rfl fun H61 hW62 => ?_
    have hH63 := hH56.wr1 hW62
    refine O_nil  (C_seq  (C_region  (pv (.i .i64 (-1)) rfl (O_nil  (C_seq  (C_seq  (C_region  (pv (.i .i64 0) rfl (O_nil  (C_block  ?_))))))))))
    have him : i = m := by omega
    have hH64 := (hH63.sub2)
    have hH65 := (((hH64.top2).top1).top2)
    have hs66 : Sq 19 (.sl qa57 ql58 qc59 qg60) c54 (((q0.drop m)).map teRow).flatten := by rw [List.map_drop]; exact hA55
    have hn2 : ((q0.drop m)).length = n - m := by rw [List.length_drop, hn]
    refine C_while (fun m67 T68 H69 => ∃ q : List Te, ∃ lw : List AV, ∃ tp : Int, ∃ i : Nat, m67 = (n - m) - i ∧ i ≤ n - m ∧ Sq 19 (.sl qa57 ql58 qc59 qg60) lw (q.map teRow).flatten ∧ q.length = n - m ∧ Upd (fun k x => mk1 (cov bl (((k : Nat) : Int) + 1)) x.e) i (q0.drop m) q ∧ ((tp = -1 ∧ (mkt bl 0 (((q0.map Te.e).drop m).take i) 0) = 0) ∨ tp = (((mkt bl 0 (((q0.map Te.e).drop m).take i) 0) : Nat) : Int)) ∧ Hs H69 ([(F, some (.cells ([(.sl qa57 ql58 qc59 qg60), (.i .u32 nx), (.i .i64 cn)]) true))] ++ ((qseg (.sl qa57 ql58 qc59 qg60) lw) ++ (B ++ (R)))) ∧ T68.get 0 = (.p (some (F, 0))) ∧ T68.get 2 = v ∧ T68.get 3 = (.i .i64 now) ∧ T68.get 13 = (.i .i64 (((m : Nat)) : Int)) ∧ T68.get 15 = (.i .i64 ((((drB ((q0.map Te.e).take m) + mkb bl 0 (((q0.map Te.e).drop m).take i)) : Nat)) : Int)) ∧ T68.get 16 = (.i .i64 (drS now ((q0.map Te.e).take m) (-1))) ∧ T68.get 19 = (.i .i64 tp) ∧ T68.get 20 = (.i .i64 (((i : Nat)) : Int))) (fun m67 T68 H69 hI70 => ?_) (n - m) _ _ ⟨(q0.drop m), c54, (-1), 0, rfl, Nat.zero_le _, hs66, hn2, Upd.zero, .inl ⟨rfl, by rw [List.take_zero]; rfl⟩, hH65, hT13, hT14, hT15, hT16, (Eq.trans hT17 (by rw [List.take_zero, show mkb bl 0 [] = 0 from rfl, Nat.add_zero, him])), (Eq.trans hT18 (by rw [him])), rfl, rfl⟩
    obtain ⟨q, lw, tp, i, hm71, hp72, hp73, hp74, hp75, hp76, hH85, hT77, hT78, hT79, hT80, hT81, hT82, hT83, hT84⟩ := hI70
    have hmb := mkb_le (bl := bl) (l := ((q0.map Te.e).drop m).take i) (k := 0) (fun e he => hsz e (List.mem_of_mem_drop (List.mem_of_mem_take he)))
    have htk : (((q0.map Te.e).drop m).take i).length ≤ i := by rw [List.length_take]; omega
    have hdb := drB_le (l := (q0.map Te.e).take m) (fun e he => hsz e (List.mem_of_mem_take he))
    have htk2 : ((q0.map Te.e).take m).length ≤ m := by rw [List.length_take]; omega
    refine C_seq  (C_seq  (C_region  (pv (nI i) hT84 (pv (pT F 0) hT77 (O_p (pT F 0) (r_nilc rfl) (pf (pT F 0) rfl rfl (O_p (.sl qa57 ql58 qc59 qg60) (r_ld rfl hH85.get0 rfl) (O_p (.i .i64 ((((n - m) : Nat)) : Int)) (by exact (by exact r_lenOf rfl (hp73.lenOf (te_flatn hp74) (by decide)) hp73.isSl)) (O_p (.b (decide ((((i : Nat)) : Int) < ((((n - m) : Nat)) : Int)))) (r_lss rfl rfl) (O_nil  ?_))))))))))
    refine C_cond (x := (decide ((((i : Nat)) : Int) < ((((n - m) : Nat)) : Int)))) rfl (fun hc86 => ?_) (fun hc86 => ?_)
    ·
      try simp only [dz1, dz2, dz3, dz4, dz5, dz6, dz7, dz8, dz9] at hc86
      refine C_skip  (C_seq  (C_block  (C_seq  (C_region  (pv (.b false) rfl (O_nil  (C_seq  (C_seq  (C_region  (pv (.i .i64 0) rfl (O_nil  (C_block  ?_))))))))))))
      have hH87 := (((hH85.top2).top2).top2)
      have hil : i < n - m := by omega
      obtain ⟨x, hxi⟩ : ∃ x, (q0.drop m)[i]? = some x := ⟨_, List.getElem?_eq_getElem (by omega)⟩
      have hxq := hp75.get hxi
      have hdx := hok x (List.mem_of_mem_drop (List.mem_of_getElem? hxi))
      have hxe : ((q0.map Te.e).drop m)[i]? = some x.e := by rw [← te_drop]; exact te_e hxi
      have hszx := hsz x.e (List.mem_of_mem_drop (List.mem_of_getElem? hxe))
      refine C_while (fun m88 T89 H90 => ∃ bi : Bool, ∃ k : Nat, m88 = bl.length - k ∧ k ≤ bl.length ∧ bi = (cov (bl.take k) (((i : Nat) : Int) + 1)) ∧ Hs H90 ([(F, some (.cells ([(.sl qa57 ql58 qc59 qg60), (.i .u32 nx), (.i .i64 cn)]) true))] ++ ((qseg (.sl qa57 ql58 qc59 qg60) lw) ++ (B ++ (R)))) ∧ T89.get 0 = (.p (some (F, 0))) ∧ T89.get 2 = v ∧ T89.get 3 = (.i .i64 now) ∧ T89.get 13 = (.i .i64 (((m : Nat)) : Int)) ∧ T89.get 15 = (.i .i64 ((((drB ((q0.map Te.e).take m) + mkb bl 0 (((q0.map Te.e).drop m).take i)) : Nat)) : Int)) ∧ T89.get 16 = (.i .i64 (drS now ((q0.map Te.e).take m) (-1))) ∧ T89.get 19 = (.i .i64 tp) ∧ T89.get 20 = (.i .i64 (((i : Nat)) : Int)) ∧ T89.get 21 = (.b bi) ∧ T89.get 22 = (.i .i64 (((k : Nat)) : Int))) (fun m88 T89 H90 hI91 => ?_) bl.length _ _ ⟨false, 0, rfl, Nat.zero_le _, by rw [List.take_zero]; rfl, hH87, hT77, hT78, hT79, hT80, hT81, hT82, hT83, hT84, rfl, rfl⟩
      obtain ⟨bi, k, hm92, hp93, hp94, hH105, hT95, hT96, hT97, hT98, hT99, hT100, hT101, hT102, hT103, hT104⟩ := hI91
      refine C_seq  (C_seq  (C_region  (pv (nI k) hT104 (pv v hT96 (O_p (.i .i64 (((bl.length : Nat)) : Int)) (by exact (r_lenOf (v := v) (n := bl.length) rfl ((hv _ hH105.top2.fst).lenOf (by rw [hbr.1, List.length_map])) (hv _ hH105.top2.fst).isSl)) (O_p (.b (decide ((((k : Nat)) : Int) < (((bl.length : Nat)) : Int)))) (r_lss rfl rfl) (O_nil  ?_)))))))
      refine C_cond (x := (decide ((((k : Nat)) : Int) < (((bl.length : Nat)) : Int)))) rfl (fun hc106 => ?_) (fun hc106 => ?_)
      ·
        try simp only [dz1, dz2, dz3, dz4, dz5, dz6, dz7, dz8, dz9] at hc106
        refine C_skip  (C_seq  (C_block  ?_))
        have hkl : k < bl.length := by omega
        obtain ⟨b, hbk⟩ : ∃ b, bl[k]? = some b := ⟨_, List.getElem?_eq_getElem hkl⟩
        have hbb := hbr.2 b (List.mem_of_getElem? hbk)
        by_cases hbi : bi = true
        ·
          have hbi2 : bi = true := by simpa using hbi
          refine C_region  (O_p (.b true) (r_mv (Eq.trans hT103 (congrArg AV.b hbi2))) (pv (.b true) rfl (O_gf rfl (O_gf rfl (O_gf rfl (O_gf rfl (O_gf rfl (O_gf rfl (O_gf rfl (O_gf rfl (O_gf rfl (O_gf rfl ?_))))))))))))
          refine O_gu rfl ?_
          refine O_gu rfl ?_
          refine O_gu rfl ?_
          refine O_gu rfl ?_
          refine O_gu rfl ?_
          refine O_gu rfl ?_
          refine O_gu rfl ?_
          refine O_gu rfl ?_
          refine O_gu rfl ?_
          refine O_gf rfl (O_p (.b true) (r_pick_t rfl rfl) (pv (.b true) rfl (O_nil  (C_region  (pv (nI k) hT104 (O_p (.i .i64 ((((k : Nat)) : Int) + 1)) (by exact (r_addi rfl rfl (wrap_i64 (by omega) (by omega)))) (pv (.i .i64 ((((k : Nat)) : Int) + 1)) rfl (O_nil  ?_))))))))
          have hH107 := (((hH105.top2).top2).top2)
          exact ⟨bl.length - (k + 1), by omega, true, (k + 1), rfl, by omega, by rw [cov_take hbk, ← hp94]; rw [hbi2]; rfl, hH107, hT95, hT96, hT97, hT98, hT99, hT100, hT101, hT102, rfl, rfl⟩
        ·
          have hbi2 : bi = false := by simpa using hbi
          by_cases hc1 : b.1 ≤ ((i : Nat) : Int) + 1
          ·
            by_cases hc2 : ((i : Nat) : Int) + 1 ≤ b.2
            ·
              refine C_region  (O_p (.b false) (r_mv (Eq.trans hT103 (congrArg AV.b hbi2))) (pv (.b false) rfl (O_gk rfl (pv v hT96 (O_gk rfl (pv (nI k) hT104 (O_gk rfl ?_)))))))
              refine O_q (by exact Rw.row (hv _ hH105.top2.fst) rfl (i := k) rfl (r := [(.i .u16 b.1), (.i .u16 b.2)]) (hbr.row hbk)) fun v109 hv108 => ?_
              obtain ⟨rb110, ro111, rfl, hr112⟩ := hv108
              refine O_gk rfl (pf (.p (some (rb110, (ro111 + 0)))) rfl rfl (O_gk rfl (O_p (.i .u16 b.1) (r_ldR (q := 0) rfl (hr112 _ (hv _ hH105.top2.fst)) rfl) (O_gk rfl (O_p (.i .i64 b.1) (by exact (r_cint' rfl (wrap_i64 (by omega) (by omega)))) (O_gk rfl (pv (nI i) hT102 (O_gk rfl (O_p (.i .i64 ((((i : Nat)) : Int) + 1)) (by exact (r_addi rfl rfl (wrap_i64 (by omega) (by omega)))) (O_gk rfl (O_p (.b true) (by exact (by rw [r_leq rfl rfl, decide_eq_true hc1])) (O_gk rfl (pv (.b true) rfl ?_)))))))))))))
              refine O_gk rfl (pv (nI i) hT102 (O_gk rfl (O_p (.i .i64 ((((i : Nat)) : Int) + 1)) (by exact (r_addi rfl rfl (wrap_i64 (by omega) (by omega)))) (O_gk rfl (pv v hT96 (O_gk rfl (pv (nI k) hT104 (O_gk rfl ?_))))))))
              refine O_q (by exact Rw.row (hv _ hH105.top2.fst) rfl (i := k) rfl (r := [(.i .u16 b.1), (.i .u16 b.2)]) (hbr.row hbk)) fun v114 hv113 => ?_
              obtain ⟨rb115, ro116, rfl, hr117⟩ := hv113
              refine O_gk rfl (pf (.p (some (rb115, (ro116 + 1)))) rfl rfl (O_gk rfl (O_p (.i .u16 b.2) (r_ldR (q := 1) rfl (hr117 _ (hv _ hH105.top2.fst)) rfl) (O_gk rfl (O_p (.i .i64 b.2) (by exact (r_cint' rfl (wrap_i64 (by omega) (by omega)))) (O_gk rfl (O_p (.b true) (by exact (by rw [r_leq rfl rfl, decide_eq_true hc2])) (O_gk rfl (O_p (.b true) (r_pick_t rfl rfl) (O_p (.b true) (r_pick_f rfl rfl) (pv (.b true) rfl (O_nil  (C_region  ?_)))))))))))))
              refine pv (nI k) hT104 (O_p (.i .i64 ((((k : Nat)) : Int) + 1)) (by exact (r_addi rfl rfl (wrap_i64 (by omega) (by omega)))) (pv (.i .i64 ((((k : Nat)) : Int) + 1)) rfl (O_nil  ?_)))
              have hH118 := (((hH105.top2).top2).top2)
              exact ⟨bl.length - (k + 1), by omega, true, (k + 1), rfl, by omega, by rw [cov_take hbk, ← hp94]; rw [hbi2, decide_eq_true (And.intro hc1 hc2)]; rfl, hH118, hT95, hT96, hT97, hT98, hT99, hT100, hT101, hT102, rfl, rfl⟩
            ·
              refine C_region  (O_p (.b false) (r_mv (Eq.trans hT103 (congrArg AV.b hbi2))) (pv (.b false) rfl (O_gk rfl (pv v hT96 (O_gk rfl (pv (nI k) hT104 (O_gk rfl ?_)))))))
              refine O_q (by exact Rw.row (hv _ hH105.top2.fst) rfl (i := k) rfl (r := [(.i .u16 b.1), (.i .u16 b.2)]) (hbr.row hbk)) fun v120 hv119 => ?_
              obtain ⟨rb121, ro122, rfl, hr123⟩ := hv119
              refine O_gk rfl (pf (.p (some (rb121, (ro122 + 0)))) rfl rfl (O_gk rfl (O_p (.i .u16 b.1) (r_ldR (q := 0) rfl (hr123 _ (hv _ hH105.top2.fst)) rfl) (O_gk rfl (O_p (.i .i64 b.1) (by exact (r_cint' rfl (wrap_i64 (by omega) (by omega)))) (O_gk rfl (pv (nI i) hT102 (O_gk rfl (O_p (.i .i64 ((((i : Nat)) : Int) + 1)) (by exact (r_addi rfl rfl (wrap_i64 (by omega) (by omega)))) (O_gk rfl (O_p (.b true) (by exact (by rw [r_leq rfl rfl, decide_eq_true hc1])) (O_gk rfl (pv (.b true) rfl ?_)))))))))))))
              refine O_gk rfl (pv (nI i) hT102 (O_gk rfl (O_p (.i .i64 ((((i : Nat)) : Int) + 1)) (by exact (r_addi rfl rfl (wrap_i64 (by omega) (by omega)))) (O_gk rfl (pv v hT96 (O_gk rfl (pv (nI k) hT104 (O_gk rfl ?_))))))))
              refine O_q (by exact Rw.row (hv _ hH105.top2.fst) rfl (i := k) rfl (r := [(.i .u16 b.1), (.i .u16 b.2)]) (hbr.row hbk)) fun v125 hv124 => ?_
              obtain ⟨rb126, ro127, rfl, hr128⟩ := hv124
              refine O_gk rfl (pf (.p (some (rb126, (ro127 + 1)))) rfl rfl (O_gk rfl (O_p (.i .u16 b.2) (r_ldR (q := 1) rfl (hr128 _ (hv _ hH105.top2.fst)) rfl) (O_gk rfl (O_p (.i .i64 b.2) (by exact (r_cint' rfl (wrap_i64 (by omega) (by omega)))) (O_gk rfl (O_p (.b false) (by exact (by rw [r_leq rfl rfl, decide_eq_false hc2])) (O_gk rfl (O_p (.b false) (r_pick_t rfl rfl) (O_p (.b false) (r_pick_f rfl rfl) (pv (.b false) rfl (O_nil  (C_region  ?_)))))))))))))
              refine pv (nI k) hT104 (O_p (.i .i64 ((((k : Nat)) : Int) + 1)) (by exact (r_addi rfl rfl (wrap_i64 (by omega) (by omega)))) (pv (.i .i64 ((((k : Nat)) : Int) + 1)) rfl (O_nil  ?_)))
              have hH129 := (((hH105.top2).top2).top2)
              exact ⟨bl.length - (k + 1), by omega, false, (k + 1), rfl, by omega, by rw [cov_take hbk, ← hp94]; rw [hbi2, decide_eq_false (fun h9 => hc2 h9.2)]; rfl, hH129, hT95, hT96, hT97, hT98, hT99, hT100, hT101, hT102, rfl, rfl⟩
          ·
            refine C_region  (O_p (.b false) (r_mv (Eq.trans hT103 (congrArg AV.b hbi2))) (pv (.b false) rfl (O_gk rfl (pv v hT96 (O_gk rfl (pv (nI k) hT104 (O_gk rfl ?_)))))))
            refine O_q (by exact Rw.row (hv _ hH105.top2.fst) rfl (i := k) rfl (r := [(.i .u16 b.1), (.i .u16 b.2)]) (hbr.row hbk)) fun v131 hv130 => ?_
            obtain ⟨rb132, ro133, rfl, hr134⟩ := hv130
            refine O_gk rfl (pf (.p (some (rb132, (ro133 + 0)))) rfl rfl (O_gk rfl (O_p (.i .u16 b.1) (r_ldR (q := 0) rfl (hr134 _ (hv _ hH105.top2.fst)) rfl) (O_gk rfl (O_p (.i .i64 b.1) (by exact (r_cint' rfl (wrap_i64 (by omega) (by omega)))) (O_gk rfl (pv (nI i) hT102 (O_gk rfl (O_p (.i .i64 ((((i : Nat)) : Int) + 1)) (by exact (r_addi rfl rfl (wrap_i64 (by omega) (by omega)))) (O_gk rfl (O_p (.b false) (by exact (by rw [r_leq rfl rfl, decide_eq_false hc1])) (O_gk rfl (pv (.b false) rfl ?_)))))))))))))
            refine O_gf rfl (O_gf rfl (O_gf rfl (O_gf rfl (O_gf rfl (O_gf rfl (O_gf rfl (O_gf rfl (O_gf rfl (O_gk rfl (O_p (.b false) (r_pick_f rfl rfl) (O_p (.b false) (r_pick_f rfl rfl) (pv (.b false) rfl (O_nil  ?_)))))))))))))
            refine C_region  (pv (nI k) hT104 (O_p (.i .i64 ((((k : Nat)) : Int) + 1)) (by exact (r_addi rfl rfl (wrap_i64 (by omega) (by omega)))) (pv (.i .i64 ((((k : Nat)) : Int) + 1)) rfl (O_nil  ?_))))
            have hH135 := (((hH105.top2).top2).top2)
            exact ⟨bl.length - (k + 1), by omega, false, (k + 1), rfl, by omega, by rw [cov_take hbk, ← hp94]; rw [hbi2, decide_eq_false (fun h9 => hc1 h9.1)]; rfl, hH135, hT95, hT96, hT97, hT98, hT99, hT100, hT101, hT102, rfl, rfl⟩
      ·
        try simp only [dz1, dz2, dz3, dz4, dz5, dz6, dz7, dz8, dz9] at hc106
        refine C_exit  (nx_exit  (nx_exit  (bk_hit  (C_seq  ?_))))
        have hkn : k = bl.length := by omega
        have hbi := hp94
        rw [hkn, List.take_length] at hbi
        by_cases hbt : bi = true
        ·
          have hcv : cov bl (((i : Nat) : Int) + 1) = true := by rw [← hbi]; simpa using hbt
          by_cases hs1 : x.e.st = 1
          ·
            have hht : hit (cov bl (((i : Nat) : Int) + 1)) x.e := ⟨hcv, .inl hs1⟩
            refine C_region  (pv (pT F 0) hT95 (O_p (pT F 0) (r_nilc rfl) (pf (pT F 0) rfl rfl (O_p (.sl qa57 ql58 qc59 qg60) (r_ld rfl hH105.get0 rfl) (pv (nI i) hT102 ?_)))))
            refine O_q (by exact Sq.cell hp73 (te_lens q) hH105.top1 rfl (i := i) rfl (r := teRow x) (te_get hxq) (by decide)) fun v137 hv136 => ?_
            obtain ⟨rb138, ro139, rfl, hrg140, hrt141, hrb142, hput143, hqs144⟩ := hv136
            refine pf (.p (some (rb138, (ro139 + 13)))) rfl rfl (O_p (.i .i64 x.e.st) (r_ldR (q := 13) rfl ⟨_, _, hrg140, hrt141⟩ rfl) (pv (.i .i64 x.e.st) rfl (O_nil  (C_seq  (C_seq  (C_region  (O_p (.b true) (r_mv (Eq.trans hT103 (congrArg AV.b (hbi.trans hcv)))) (pv (.b true) rfl (O_gk rfl (pv (.i .i64 x.e.st) rfl (O_gk rfl (O_p (.b true) (by exact (by rw [r_eql rfl rfl, decide_eq_true hs1])) (O_gk rfl ?_)))))))))))))
            refine pv (.b true) rfl (O_gf rfl (O_gf rfl (O_gk rfl (O_p (.b true) (r_pick_t rfl rfl) (O_p (.b true) (r_pick_t rfl rfl) (O_nil  ?_))))))
            refine C_cond (x := true) rfl (fun _ => ?_) (fun h => by cases h)
            refine C_seq  (C_region  (pv (pT F 0) hT95 (O_p (pT F 0) (r_nilc rfl) (pf (pT F 0) rfl rfl (O_p (.sl qa57 ql58 qc59 qg60) (r_ld rfl hH105.get0 rfl) (pv (nI i) hT102 ?_))))))
            refine O_q (by exact Sq.cell hp73 (te_lens q) hH105.top1 rfl (i := i) rfl (r := teRow x) (te_get hxq) (by decide)) fun v146 hv145 => ?_
            obtain ⟨rb147, ro148, rfl, hrg149, hrt150, hrb151, hput152, hqs153⟩ := hv145
            refine pf (.p (some (rb147, (ro148 + 13)))) rfl rfl ?_
            refine O_store (vs := [(.i .i64 3)]) (c' := (putAt lw (ro148 + 13) [(.i .i64 3)])) rfl (by rfl) hrg149 rfl (List.cons_ne_nil _ _) (by have := hrb151; show _ + 1 ≤ _; omega) rfl fun H154 hW155 => ?_
            have hH157 := Hs.cong1 (Hs.wr1 (Hs.cong1 hH105 (hqs153 _)) hW155) (hqs153 _).symm
            have hSq156 := hput152 13 [(.i .i64 3)] [(.i .u8 x.e.c.k), (.i .u8 x.e.c.f), (.i .u32 x.e.a), (.i .u32 x.e.c.b), (.i .u16 x.e.c.o), (.i .u16 x.e.c.i), (.i .u32 x.e.c.p), x.e.c.x1, x.e.c.x2, x.e.c.x3, x.e.c.x4, x.dv, (.i .i64 x.z.k), (.i .i64 3), (.i .i64 x.e.sent), (.i .i64 x.e.tm), (.i .i64 x.e.mi), (.i .i64 x.z.un), (.i .i64 x.z.tr)] (Nat.le_of_ble_eq_true rfl) rfl
            obtain ⟨qq158, he159⟩ : ∃ z : List Te, z = q.set i ⟨⟨x.e.c, x.e.a, 3, x.e.sent, x.e.tm, x.e.mi⟩, x.z, x.dv⟩ := ⟨_, rfl⟩
            have hs162 : Sq 19 (.sl qa57 ql58 qc59 qg60) (putAt lw (ro148 + 13) [(.i .i64 3)]) (qq158.map teRow).flatten := by rw [he159, List.map_set]; exact hSq156
            have hn160 : qq158.length = (n - m) := by rw [he159, List.length_set]; exact hp74
            have hx161 : qq158[i]? = some ⟨⟨x.e.c, x.e.a, 3, x.e.sent, x.e.tm, x.e.mi⟩, x.z, x.dv⟩ := by rw [he159]; exact List.getElem?_set_self (by omega)
            refine O_nil  (C_seq  (C_region  (pv (.i .i64 ((((drB ((q0.map Te.e).take m) + mkb bl 0 (((q0.map Te.e).drop m).take i)) : Nat)) : Int)) hT99 (pv (pT F 0) hT95 (O_p (pT F 0) (r_nilc rfl) (pf (pT F 0) rfl rfl (O_p (.sl qa57 ql58 qc59 qg60) (r_ld rfl hH157.get0 rfl) (pv (nI i) hT102 ?_))))))))
            refine O_q (by exact Sq.cell hs162 (te_lens qq158) hH157.top1 rfl (i := i) rfl (r := [(.i .u8 x.e.c.k), (.i .u8 x.e.c.f), (.i .u32 x.e.a), (.i .u32 x.e.c.b), (.i .u16 x.e.c.o), (.i .u16 x.e.c.i), (.i .u32 x.e.c.p), x.e.c.x1, x.e.c.x2, x.e.c.x3, x.e.c.x4, x.dv, (.i .i64 x.z.k), (.i .i64 3), (.i .i64 x.e.sent), (.i .i64 x.e.tm), (.i .i64 x.e.mi), (.i .i64 x.z.un), (.i .i64 x.z.tr)]) (te_get hx161) (by decide)) fun v164 hv163 => ?_
            obtain ⟨rb165, ro166, rfl, hrg167, hrt168, hrb169, hput170, hqs171⟩ := hv163
            refine pf (.p (some (rb165, (ro166 + 0)))) rfl rfl (pf (.p (some (rb165, (ro166 + 11)))) rfl rfl (O_p x.dv (r_ldR (q := 11) rfl ⟨_, _, hrg167, hrt168⟩ rfl) (O_p (.i .i64 (((x.e.c.d.length : Nat)) : Int)) (r_lenOf (v := x.dv) (n := x.e.c.d.length) rfl hdx.lenOf hdx.isSl) (O_p (.i .i64 (((((drB ((q0.map Te.e).take m) + mkb bl 0 (((q0.map Te.e).drop m).take i)) : Nat)) : Int) + (((x.e.c.d.length : Nat)) : Int))) (by exact (r_addi rfl rfl (wrap_i64 (by omega) (by omega)))) (pv (.i .i64 (((((drB ((q0.map Te.e).take m) + mkb bl 0 (((q0.map Te.e).drop m).take i)) : Nat)) : Int) + (((x.e.c.d.length : Nat)) : Int))) rfl (O_nil  (C_region  (pv (nI i) hT102 (pv (nI i) rfl (O_nil  (C_seq  (C_region  (O_p (.b true) (r_mv (Eq.trans hT103 (congrArg AV.b (hbi.trans hcv)))) ?_)))))))))))))
            refine O_p (.b false) (r_un rfl rfl) (pv (.b false) rfl (O_gf rfl (O_gf rfl (O_p (.b false) (r_pick_f rfl rfl) (O_nil  ?_)))))
            refine C_cond (x := false) rfl (fun h => by cases h) (fun _ => ?_)
            refine C_skip  (C_region  (pv (nI i) hT102 (O_p (.i .i64 ((((i : Nat)) : Int) + 1)) (by exact (r_addi rfl rfl (wrap_i64 (by omega) (by omega)))) (pv (.i .i64 ((((i : Nat)) : Int) + 1)) rfl (O_nil  ?_)))))
            have hH172 := (((hH157.top2).top2).top2)
            exact ⟨(n - m) - (i + 1), by omega, qq158, (putAt lw (ro148 + 13) [(.i .i64 3)]), (((i : Nat)) : Int), (i + 1), rfl, by omega, hs162, hn160, by rw [he159]; exact hp75.set hxi (mk1_hit hht), .inr (by rw [mkt_at hxe, if_pos hht]), hH172, hT95, hT96, hT97, hT98, (by rw [mkb_at hxe, if_pos hht, ← Nat.add_assoc]; exact rfl), hT100, rfl, rfl⟩
          ·
            by_cases hs2 : x.e.st = 2
            ·
              have hht : hit (cov bl (((i : Nat) : Int) + 1)) x.e := ⟨hcv, .inr hs2⟩
              refine C_region  (pv (pT F 0) hT95 (O_p (pT F 0) (r_nilc rfl) (pf (pT F 0) rfl rfl (O_p (.sl qa57 ql58 qc59 qg60) (r_ld rfl hH105.get0 rfl) (pv (nI i) hT102 ?_)))))
              refine O_q (by exact Sq.cell hp73 (te_lens q) hH105.top1 rfl (i := i) rfl (r := teRow x) (te_get hxq) (by decide)) fun v174 hv173 => ?_
              obtain ⟨rb175, ro176, rfl, hrg177, hrt178, hrb179, hput180, hqs181⟩ := hv173
              refine pf (.p (some (rb175, (ro176 + 13)))) rfl rfl (O_p (.i .i64 x.e.st) (r_ldR (q := 13) rfl ⟨_, _, hrg177, hrt178⟩ rfl) (pv (.i .i64 x.e.st) rfl (O_nil  (C_seq  (C_seq  (C_region  (O_p (.b true) (r_mv (Eq.trans hT103 (congrArg AV.b (hbi.trans hcv)))) (pv (.b true) rfl (O_gk rfl (pv (.i .i64 x.e.st) rfl (O_gk rfl (O_p (.b false) (by exact (by rw [r_eql rfl rfl, decide_eq_false hs1])) (O_gk rfl ?_)))))))))))))
              refine pv (.b false) rfl (O_gk rfl (pv (.i .i64 x.e.st) rfl (O_gk rfl (O_p (.b true) (by exact (by rw [r_eql rfl rfl, decide_eq_true hs2])) (O_gk rfl (O_p (.b true) (r_pick_f rfl rfl) (O_p (.b true) (r_pick_t rfl rfl) (O_nil  ?_))))))))
              refine C_cond (x := true) rfl (fun _ => ?_) (fun h => by cases h)
              refine C_seq  (C_region  (pv (pT F 0) hT95 (O_p (pT F 0) (r_nilc rfl) (pf (pT F 0) rfl rfl (O_p (.sl qa57 ql58 qc59 qg60) (r_ld rfl hH105.get0 rfl) (pv (nI i) hT102 ?_))))))
              refine O_q (by exact Sq.cell hp73 (te_lens q) hH105.top1 rfl (i := i) rfl (r := teRow x) (te_get hxq) (by decide)) fun v183 hv182 => ?_
              obtain ⟨rb184, ro185, rfl, hrg186, hrt187, hrb188, hput189, hqs190⟩ := hv182
              refine pf (.p (some (rb184, (ro185 + 13)))) rfl rfl ?_
              refine O_store (vs := [(.i .i64 3)]) (c' := (putAt lw (ro185 + 13) [(.i .i64 3)])) rfl (by rfl) hrg186 rfl (List.cons_ne_nil _ _) (by have := hrb188; show _ + 1 ≤ _; omega) rfl fun H191 hW192 => ?_
              have hH194 := Hs.cong1 (Hs.wr1 (Hs.cong1 hH105 (hqs190 _)) hW192) (hqs190 _).symm
              have hSq193 := hput189 13 [(.i .i64 3)] [(.i .u8 x.e.c.k), (.i .u8 x.e.c.f), (.i .u32 x.e.a), (.i .u32 x.e.c.b), (.i .u16 x.e.c.o), (.i .u16 x.e.c.i), (.i .u32 x.e.c.p), x.e.c.x1, x.e.c.x2, x.e.c.x3, x.e.c.x4, x.dv, (.i .i64 x.z.k), (.i .i64 3), (.i .i64 x.e.sent), (.i .i64 x.e.tm), (.i .i64 x.e.mi), (.i .i64 x.z.un), (.i .i64 x.z.tr)] (Nat.le_of_ble_eq_true rfl) rfl
              obtain ⟨qq195, he196⟩ : ∃ z : List Te, z = q.set i ⟨⟨x.e.c, x.e.a, 3, x.e.sent, x.e.tm, x.e.mi⟩, x.z, x.dv⟩ := ⟨_, rfl⟩
              have hs199 : Sq 19 (.sl qa57 ql58 qc59 qg60) (putAt lw (ro185 + 13) [(.i .i64 3)]) (qq195.map teRow).flatten := by rw [he196, List.map_set]; exact hSq193
              have hn197 : qq195.length = (n - m) := by rw [he196, List.length_set]; exact hp74
              have hx198 : qq195[i]? = some ⟨⟨x.e.c, x.e.a, 3, x.e.sent, x.e.tm, x.e.mi⟩, x.z, x.dv⟩ := by rw [he196]; exact List.getElem?_set_self (by omega)
              refine O_nil  (C_seq  (C_region  (pv (.i .i64 ((((drB ((q0.map Te.e).take m) + mkb bl 0 (((q0.map Te.e).drop m).take i)) : Nat)) : Int)) hT99 (pv (pT F 0) hT95 (O_p (pT F 0) (r_nilc rfl) (pf (pT F 0) rfl rfl (O_p (.sl qa57 ql58 qc59 qg60) (r_ld rfl hH194.get0 rfl) (pv (nI i) hT102 ?_))))))))
              refine O_q (by exact Sq.cell hs199 (te_lens qq195) hH194.top1 rfl (i := i) rfl (r := [(.i .u8 x.e.c.k), (.i .u8 x.e.c.f), (.i .u32 x.e.a), (.i .u32 x.e.c.b), (.i .u16 x.e.c.o), (.i .u16 x.e.c.i), (.i .u32 x.e.c.p), x.e.c.x1, x.e.c.x2, x.e.c.x3, x.e.c.x4, x.dv, (.i .i64 x.z.k), (.i .i64 3), (.i .i64 x.e.sent), (.i .i64 x.e.tm), (.i .i64 x.e.mi), (.i .i64 x.z.un), (.i .i64 x.z.tr)]) (te_get hx198) (by decide)) fun v201 hv200 => ?_
              obtain ⟨rb202, ro203, rfl, hrg204, hrt205, hrb206, hput207, hqs208⟩ := hv200
              refine pf (.p (some (rb202, (ro203 + 0)))) rfl rfl (pf (.p (some (rb202, (ro203 + 11)))) rfl rfl (O_p x.dv (r_ldR (q := 11) rfl ⟨_, _, hrg204, hrt205⟩ rfl) (O_p (.i .i64 (((x.e.c.d.length : Nat)) : Int)) (r_lenOf (v := x.dv) (n := x.e.c.d.length) rfl hdx.lenOf hdx.isSl) (O_p (.i .i64 (((((drB ((q0.map Te.e).take m) + mkb bl 0 (((q0.map Te.e).drop m).take i)) : Nat)) : Int) + (((x.e.c.d.length : Nat)) : Int))) (by exact (r_addi rfl rfl (wrap_i64 (by omega) (by omega)))) (pv (.i .i64 (((((drB ((q0.map Te.e).take m) + mkb bl 0 (((q0.map Te.e).drop m).take i)) : Nat)) : Int) + (((x.e.c.d.length : Nat)) : Int))) rfl (O_nil  (C_region  (pv (nI i) hT102 (pv (nI i) rfl (O_nil  (C_seq  (C_region  (O_p (.b true) (r_mv (Eq.trans hT103 (congrArg AV.b (hbi.trans hcv)))) ?_)))))))))))))
              refine O_p (.b false) (r_un rfl rfl) (pv (.b false) rfl (O_gf rfl (O_gf rfl (O_p (.b false) (r_pick_f rfl rfl) (O_nil  ?_)))))
              refine C_cond (x := false) rfl (fun h => by cases h) (fun _ => ?_)
              refine C_skip  (C_region  (pv (nI i) hT102 (O_p (.i .i64 ((((i : Nat)) : Int) + 1)) (by exact (r_addi rfl rfl (wrap_i64 (by omega) (by omega)))) (pv (.i .i64 ((((i : Nat)) : Int) + 1)) rfl (O_nil  ?_)))))
              have hH209 := (((hH194.top2).top2).top2)
              exact ⟨(n - m) - (i + 1), by omega, qq195, (putAt lw (ro185 + 13) [(.i .i64 3)]), (((i : Nat)) : Int), (i + 1), rfl, by omega, hs199, hn197, by rw [he196]; exact hp75.set hxi (mk1_hit hht), .inr (by rw [mkt_at hxe, if_pos hht]), hH209, hT95, hT96, hT97, hT98, (by rw [mkb_at hxe, if_pos hht, ← Nat.add_assoc]; exact rfl), hT100, rfl, rfl⟩
            ·
              have hnh : ¬ hit (cov bl (((i : Nat) : Int) + 1)) x.e := fun h9 => by rcases h9.2 with h9 | h9; exact hs1 h9; exact hs2 h9
              have hn3 : ¬ (cov bl (((i : Nat) : Int) + 1) = false ∧ x.e.st = 3) := fun h9 => by rw [hcv] at h9; cases h9.1
              refine C_region  (pv (pT F 0) hT95 (O_p (pT F 0) (r_nilc rfl) (pf (pT F 0) rfl rfl (O_p (.sl qa57 ql58 qc59 qg60) (r_ld rfl hH105.get0 rfl) (pv (nI i) hT102 ?_)))))
              refine O_q (by exact Sq.cell hp73 (te_lens q) hH105.top1 rfl (i := i) rfl (r := teRow x) (te_get hxq) (by decide)) fun v211 hv210 => ?_
              obtain ⟨rb212, ro213, rfl, hrg214, hrt215, hrb216, hput217, hqs218⟩ := hv210
              refine pf (.p (some (rb212, (ro213 + 13)))) rfl rfl (O_p (.i .i64 x.e.st) (r_ldR (q := 13) rfl ⟨_, _, hrg214, hrt215⟩ rfl) (pv (.i .i64 x.e.st) rfl (O_nil  (C_seq  (C_seq  (C_region  (O_p (.b true) (r_mv (Eq.trans hT103 (congrArg AV.b (hbi.trans hcv)))) (pv (.b true) rfl (O_gk rfl (pv (.i .i64 x.e.st) rfl (O_gk rfl (O_p (.b false) (by exact (by rw [r_eql rfl rfl, decide_eq_false hs1])) (O_gk rfl ?_)))))))))))))
              refine pv (.b false) rfl (O_gk rfl (pv (.i .i64 x.e.st) rfl (O_gk rfl (O_p (.b false) (by exact (by rw [r_eql rfl rfl, decide_eq_false hs2])) (O_gk rfl (O_p (.b false) (r_pick_f rfl rfl) (O_p (.b false) (r_pick_t rfl rfl) (O_nil  ?_))))))))
              refine C_cond (x := false) rfl (fun h => by cases h) (fun _ => ?_)
              refine C_skip  (C_seq  (C_region  (O_p (.b true) (r_mv (Eq.trans hT103 (congrArg AV.b (hbi.trans hcv)))) (O_p (.b false) (r_un rfl rfl) (pv (.b false) rfl (O_gf rfl (O_gf rfl (O_p (.b false) (r_pick_f rfl rfl) (O_nil  ?_)))))))))
              refine C_cond (x := false) rfl (fun h => by cases h) (fun _ => ?_)
              refine C_skip  (C_region  (pv (nI i) hT102 (O_p (.i .i64 ((((i : Nat)) : Int) + 1)) (by exact (r_addi rfl rfl (wrap_i64 (by omega) (by omega)))) (pv (.i .i64 ((((i : Nat)) : Int) + 1)) rfl (O_nil  ?_)))))
              have hH219 := (((hH105.top2).top2).top2)
              exact ⟨(n - m) - (i + 1), by omega, q, lw, tp, (i + 1), rfl, by omega, hp73, hp74, hp75.skip hxi (mk1_no hnh hn3), by rw [mkt_at hxe, if_neg hnh]; exact hp76, hH219, hT95, hT96, hT97, hT98, (by rw [mkb_at hxe, if_neg hnh, Nat.add_zero]; exact hT99), hT100, hT101, rfl⟩
        ·
          have hcv : cov bl (((i : Nat) : Int) + 1) = false := by rw [← hbi]; simpa using hbt
          by_cases hs3 : x.e.st = 3
          ·
            refine C_region  (pv (pT F 0) hT95 (O_p (pT F 0) (r_nilc rfl) (pf (pT F 0) rfl rfl (O_p (.sl qa57 ql58 qc59 qg60) (r_ld rfl hH105.get0 rfl) (pv (nI i) hT102 ?_)))))
            refine O_q (by exact Sq.cell hp73 (te_lens q) hH105.top1 rfl (i := i) rfl (r := teRow x) (te_get hxq) (by decide)) fun v221 hv220 => ?_
            obtain ⟨rb222, ro223, rfl, hrg224, hrt225, hrb226, hput227, hqs228⟩ := hv220
            refine pf (.p (some (rb222, (ro223 + 13)))) rfl rfl (O_p (.i .i64 x.e.st) (r_ldR (q := 13) rfl ⟨_, _, hrg224, hrt225⟩ rfl) (pv (.i .i64 x.e.st) rfl (O_nil  (C_seq  (C_seq  (C_region  (O_p (.b false) (r_mv (Eq.trans hT103 (congrArg AV.b (hbi.trans hcv)))) (pv (.b false) rfl (O_gf rfl (O_gf rfl (O_gf rfl ?_)))))))))))
            refine O_gu rfl ?_
            refine O_gu rfl ?_
            refine O_gf rfl (O_p (.b false) (r_pick_f rfl rfl) (O_nil  ?_))
            refine C_cond (x := false) rfl (fun h => by cases h) (fun _ => ?_)
            refine C_skip  (C_seq  (C_region  (O_p (.b false) (r_mv (Eq.trans hT103 (congrArg AV.b (hbi.trans hcv)))) (O_p (.b true) (r_un rfl rfl) (pv (.b true) rfl (O_gk rfl (pv (.i .i64 x.e.st) rfl (O_gk rfl (O_p (.b true) (by exact (by rw [r_eql rfl rfl, decide_eq_true hs3])) (O_p (.b true) (r_pick_t rfl rfl) (O_nil  ?_)))))))))))
            refine C_cond (x := true) rfl (fun _ => ?_) (fun h => by cases h)
            refine C_seq  (C_region  (pv (pT F 0) hT95 (O_p (pT F 0) (r_nilc rfl) (pf (pT F 0) rfl rfl (O_p (.sl qa57 ql58 qc59 qg60) (r_ld rfl hH105.get0 rfl) (pv (nI i) hT102 ?_))))))
            refine O_q (by exact Sq.cell hp73 (te_lens q) hH105.top1 rfl (i := i) rfl (r := teRow x) (te_get hxq) (by decide)) fun v230 hv229 => ?_
            obtain ⟨rb231, ro232, rfl, hrg233, hrt234, hrb235, hput236, hqs237⟩ := hv229
            refine pf (.p (some (rb231, (ro232 + 13)))) rfl rfl ?_
            refine O_store (vs := [(.i .i64 1)]) (c' := (putAt lw (ro232 + 13) [(.i .i64 1)])) rfl (by rfl) hrg233 rfl (List.cons_ne_nil _ _) (by have := hrb235; show _ + 1 ≤ _; omega) rfl fun H238 hW239 => ?_
            have hH241 := Hs.cong1 (Hs.wr1 (Hs.cong1 hH105 (hqs237 _)) hW239) (hqs237 _).symm
            have hSq240 := hput236 13 [(.i .i64 1)] [(.i .u8 x.e.c.k), (.i .u8 x.e.c.f), (.i .u32 x.e.a), (.i .u32 x.e.c.b), (.i .u16 x.e.c.o), (.i .u16 x.e.c.i), (.i .u32 x.e.c.p), x.e.c.x1, x.e.c.x2, x.e.c.x3, x.e.c.x4, x.dv, (.i .i64 x.z.k), (.i .i64 1), (.i .i64 x.e.sent), (.i .i64 x.e.tm), (.i .i64 x.e.mi), (.i .i64 x.z.un), (.i .i64 x.z.tr)] (Nat.le_of_ble_eq_true rfl) rfl
            obtain ⟨qq242, he243⟩ : ∃ z : List Te, z = q.set i ⟨⟨x.e.c, x.e.a, 1, x.e.sent, x.e.tm, x.e.mi⟩, x.z, x.dv⟩ := ⟨_, rfl⟩
            have hs246 : Sq 19 (.sl qa57 ql58 qc59 qg60) (putAt lw (ro232 + 13) [(.i .i64 1)]) (qq242.map teRow).flatten := by rw [he243, List.map_set]; exact hSq240
            have hn244 : qq242.length = (n - m) := by rw [he243, List.length_set]; exact hp74
            have hx245 : qq242[i]? = some ⟨⟨x.e.c, x.e.a, 1, x.e.sent, x.e.tm, x.e.mi⟩, x.z, x.dv⟩ := by rw [he243]; exact List.getElem?_set_self (by omega)
            refine O_nil  (C_region  (pv (pT F 0) hT95 (O_p (pT F 0) (r_nilc rfl) (pf (pT F 0) rfl rfl (O_p (.sl qa57 ql58 qc59 qg60) (r_ld rfl hH241.get0 rfl) (pv (nI i) hT102 ?_))))))
            refine O_q (by exact Sq.cell hs246 (te_lens qq242) hH241.top1 rfl (i := i) rfl (r := [(.i .u8 x.e.c.k), (.i .u8 x.e.c.f), (.i .u32 x.e.a), (.i .u32 x.e.c.b), (.i .u16 x.e.c.o), (.i .u16 x.e.c.i), (.i .u32 x.e.c.p), x.e.c.x1, x.e.c.x2, x.e.c.x3, x.e.c.x4, x.dv, (.i .i64 x.z.k), (.i .i64 1), (.i .i64 x.e.sent), (.i .i64 x.e.tm), (.i .i64 x.e.mi), (.i .i64 x.z.un), (.i .i64 x.z.tr)]) (te_get hx245) (by decide)) fun v248 hv247 => ?_
            obtain ⟨rb249, ro250, rfl, hrg251, hrt252, hrb253, hput254, hqs255⟩ := hv247
            refine pf (.p (some (rb249, (ro250 + 16)))) rfl rfl ?_
            refine O_store (vs := [(.i .i64 0)]) (c' := (putAt (putAt lw (ro232 + 13) [(.i .i64 1)]) (ro250 + 16) [(.i .i64 0)])) rfl (by rfl) hrg251 rfl (List.cons_ne_nil _ _) (by have := hrb253; show _ + 1 ≤ _; omega) rfl fun H256 hW257 => ?_
            have hH259 := Hs.cong1 (Hs.wr1 (Hs.cong1 hH241 (hqs255 _)) hW257) (hqs255 _).symm
            have hSq258 := hput254 16 [(.i .i64 0)] [(.i .u8 x.e.c.k), (.i .u8 x.e.c.f), (.i .u32 x.e.a), (.i .u32 x.e.c.b), (.i .u16 x.e.c.o), (.i .u16 x.e.c.i), (.i .u32 x.e.c.p), x.e.c.x1, x.e.c.x2, x.e.c.x3, x.e.c.x4, x.dv, (.i .i64 x.z.k), (.i .i64 1), (.i .i64 x.e.sent), (.i .i64 x.e.tm), (.i .i64 0), (.i .i64 x.z.un), (.i .i64 x.z.tr)] (Nat.le_of_ble_eq_true rfl) rfl
            obtain ⟨qq260, he261⟩ : ∃ z : List Te, z = q.set i ⟨⟨x.e.c, x.e.a, 1, x.e.sent, x.e.tm, 0⟩, x.z, x.dv⟩ := ⟨_, rfl⟩
            have hs264 : Sq 19 (.sl qa57 ql58 qc59 qg60) (putAt (putAt lw (ro232 + 13) [(.i .i64 1)]) (ro250 + 16) [(.i .i64 0)]) (qq260.map teRow).flatten := by rw [he261, List.map_set]; have h9 := hSq258; rw [he243, List.map_set, List.set_set] at h9; exact h9
            have hn262 : qq260.length = (n - m) := by rw [he261, List.length_set]; exact hp74
            have hx263 : qq260[i]? = some ⟨⟨x.e.c, x.e.a, 1, x.e.sent, x.e.tm, 0⟩, x.z, x.dv⟩ := by rw [he261]; exact List.getElem?_set_self (by omega)
            refine O_nil  (C_region  (pv (nI i) hT102 (O_p (.i .i64 ((((i : Nat)) : Int) + 1)) (by exact (r_addi rfl rfl (wrap_i64 (by omega) (by omega)))) (pv (.i .i64 ((((i : Nat)) : Int) + 1)) rfl (O_nil  ?_)))))
            have hH265 := (((hH259.top2).top2).top2)
            exact ⟨(n - m) - (i + 1), by omega, qq260, (putAt (putAt lw (ro232 + 13) [(.i .i64 1)]) (ro250 + 16) [(.i .i64 0)]), tp, (i + 1), rfl, by omega, hs264, hn262, by rw [he261]; exact hp75.set hxi (mk1_re hcv hs3), by rw [mkt_at hxe, if_neg (hit_no hcv)]; exact hp76, hH265, hT95, hT96, hT97, hT98, (by rw [mkb_at hxe, if_neg (hit_no hcv), Nat.add_zero]; exact hT99), hT100, hT101, rfl⟩
          ·
            have hnh : ¬ hit (cov bl (((i : Nat) : Int) + 1)) x.e := hit_no hcv
            have hn3 : ¬ (cov bl (((i : Nat) : Int) + 1) = false ∧ x.e.st = 3) := fun h9 => hs3 h9.2
            refine C_region  (pv (pT F 0) hT95 (O_p (pT F 0) (r_nilc rfl) (pf (pT F 0) rfl rfl (O_p (.sl qa57 ql58 qc59 qg60) (r_ld rfl hH105.get0 rfl) (pv (nI i) hT102 ?_)))))
            refine O_q (by exact Sq.cell hp73 (te_lens q) hH105.top1 rfl (i := i) rfl (r := teRow x) (te_get hxq) (by decide)) fun v267 hv266 => ?_
            obtain ⟨rb268, ro269, rfl, hrg270, hrt271, hrb272, hput273, hqs274⟩ := hv266
            refine pf (.p (some (rb268, (ro269 + 13)))) rfl rfl (O_p (.i .i64 x.e.st) (r_ldR (q := 13) rfl ⟨_, _, hrg270, hrt271⟩ rfl) (pv (.i .i64 x.e.st) rfl (O_nil  (C_seq  (C_seq  (C_region  (O_p (.b false) (r_mv (Eq.trans hT103 (congrArg AV.b (hbi.trans hcv)))) (pv (.b false) rfl (O_gf rfl (O_gf rfl (O_gf rfl ?_)))))))))))
            refine O_gu rfl ?_
            refine O_gu rfl ?_
            refine O_gf rfl (O_p (.b false) (r_pick_f rfl rfl) (O_nil  ?_))
            refine C_cond (x := false) rfl (fun h => by cases h) (fun _ => ?_)
            refine C_skip  (C_seq  (C_region  (O_p (.b false) (r_mv (Eq.trans hT103 (congrArg AV.b (hbi.trans hcv)))) (O_p (.b true) (r_un rfl rfl) (pv (.b true) rfl (O_gk rfl (pv (.i .i64 x.e.st) rfl (O_gk rfl (O_p (.b false) (by exact (by rw [r_eql rfl rfl, decide_eq_false hs3])) (O_p (.b false) (r_pick_t rfl rfl) (O_nil  ?_)))))))))))
            refine C_cond (x := false) rfl (fun h => by cases h) (fun _ => ?_)
            refine C_skip  (C_region  (pv (nI i) hT102 (O_p (.i .i64 ((((i : Nat)) : Int) + 1)) (by exact (r_addi rfl rfl (wrap_i64 (by omega) (by omega)))) (pv (.i .i64 ((((i : Nat)) : Int) + 1)) rfl (O_nil  ?_)))))
            have hH275 := (((hH105.top2).top2).top2)
            exact ⟨(n - m) - (i + 1), by omega, q, lw, tp, (i + 1), rfl, by omega, hp73, hp74, hp75.skip hxi (mk1_no hnh hn3), by rw [mkt_at hxe, if_neg hnh]; exact hp76, hH275, hT95, hT96, hT97, hT98, (by rw [mkb_at hxe, if_neg hnh, Nat.add_zero]; exact hT99), hT100, hT101, rfl⟩
    ·
      try simp only [dz1, dz2, dz3, dz4, dz5, dz6, dz7, dz8, dz9] at hc86
      refine C_exit  (nx_exit  (nx_exit  (bk_hit  (C_seq  (C_region  (pv (.b false) rfl (O_nil  (C_seq  (C_seq  (C_region  (pv (.i .i64 0) rfl (O_nil  (C_block  ?_)))))))))))))
      have hH276 := (((hH85.top2).top2).top2)
      have hta : ((q0.map Te.e).drop m).take i = ((q0.map Te.e).drop m) := List.take_of_length_le (by rw [List.length_drop, List.length_map]; omega)
      obtain ⟨tt, htt⟩ : ∃ z, z = (mkt bl 0 ((q0.map Te.e).drop m) 0) := ⟨_, rfl⟩
      have htp := hp76
      rw [hta, ← htt] at htp
      have htl : tt ≤ n - m := by have h9 := mkt_lt (bl := bl) (l := ((q0.map Te.e).drop m)) (k := 0) (t := 0); rw [← htt, List.length_drop, List.length_map, hn] at h9; omega
      have hqe : q.map Te.e = (mkd bl 0 ((q0.map Te.e).drop m)) := by rw [← te_drop]; exact hp75.mkd (by omega)
      have hmi2 : ∀ e ∈ q.map Te.e, 0 ≤ e.mi ∧ e.mi ≤ 1000000 := by rw [hqe]; exact fun e he => by obtain ⟨j, hj⟩ := List.getElem?_of_mem he; rw [mkd_get] at hj; cases hz : ((q0.map Te.e).drop m)[j]? with | none => rw [hz] at hj; cases hj | some y => rw [hz] at hj; simp only [Option.map_some, Option.some.injEq] at hj; rw [← hj]; exact mk1_mi (hmi y (List.mem_of_mem_drop (List.mem_of_getElem? hz)))
      refine C_while (fun m277 T278 H279 => ∃ q3 : List Te, ∃ lw3 : List AV, ∃ bo : Bool, ∃ j : Nat, m277 = tt - j ∧ j ≤ tt ∧ Sq 19 (.sl qa57 ql58 qc59 qg60) lw3 (q3.map teRow).flatten ∧ q3.length = n - m ∧ Upd (fun _ x => msE x.e) j q q3 ∧ bo = ((q.map Te.e).take j).any msL ∧ Hs H279 ([(F, some (.cells ([(.sl qa57 ql58 qc59 qg60), (.i .u32 nx), (.i .i64 cn)]) true))] ++ ((qseg (.sl qa57 ql58 qc59 qg60) lw3) ++ (B ++ (R)))) ∧ T278.get 0 = (.p (some (F, 0))) ∧ T278.get 13 = (.i .i64 (((m : Nat)) : Int)) ∧ T278.get 15 = (.i .i64 ((((drB ((q0.map Te.e).take m) + mkb bl 0 ((q0.map Te.e).drop m)) : Nat)) : Int)) ∧ T278.get 16 = (.i .i64 (drS now ((q0.map Te.e).take m) (-1))) ∧ T278.get 19 = (.i .i64 tp) ∧ T278.get 24 = (.b bo) ∧ T278.get 25 = (.i .i64 (((j : Nat)) : Int))) (fun m277 T278 H279 hI280 => ?_) tt _ _ ⟨q, lw, false, 0, rfl, Nat.zero_le _, hp73, hp74, Upd.zero, by rw [List.take_zero]; rfl, hH276, hT77, hT80, (Eq.trans hT81 (by rw [hta])), hT82, hT83, rfl, rfl⟩
      obtain ⟨q3, lw3, bo, j, hm281, hp282, hp283, hp284, hp285, hp286, hH294, hT287, hT288, hT289, hT290, hT291, hT292, hT293⟩ := hI280
      refine C_seq  (C_seq  (C_region  (pv (nI j) hT293 (pv (.i .i64 tp) hT291 (O_p (.b (decide ((((j : Nat)) : Int) < tp))) (r_lss rfl rfl) (O_nil  ?_))))))
      refine C_cond (x := (decide ((((j : Nat)) : Int) < tp))) rfl (fun hc295 => ?_) (fun hc295 => ?_)
      ·
        try simp only [dz1, dz2, dz3, dz4, dz5, dz6, dz7, dz8, dz9] at hc295
        refine C_skip  (C_seq  (C_block  (C_seq  (C_seq  (C_region  ?_)))))
        have hjt : j < tt := by omega
        obtain ⟨x, hxi⟩ : ∃ x, q[j]? = some x := ⟨_, List.getElem?_eq_getElem (by omega)⟩
        have hxq := hp285.get hxi
        have hmix := hmi2 x.e (List.mem_map_of_mem (List.mem_of_getElem? hxi))
        refine pv (pT F 0) hT287 (O_p (pT F 0) (r_nilc rfl) (pf (pT F 0) rfl rfl (O_p (.sl qa57 ql58 qc59 qg60) (r_ld rfl hH294.get0 rfl) (pv (nI j) hT293 ?_))))
        refine O_q (by exact Sq.cell hp283 (te_lens q3) hH294.top1 rfl (i := j) rfl (r := teRow x) (te_get hxq) (by decide)) fun v297 hv296 => ?_
        obtain ⟨rb298, ro299, rfl, hrg300, hrt301, hrb302, hput303, hqs304⟩ := hv296
        refine pf (.p (some (rb298, (ro299 + 13)))) rfl rfl (O_p (.i .i64 x.e.st) (r_ldR (q := 13) rfl ⟨_, _, hrg300, hrt301⟩ rfl) (O_p (.b (!decide (x.e.st = 1))) (r_neq rfl rfl) (O_nil  ?_)))
        refine C_cond (x := (!decide (x.e.st = 1))) rfl (fun hc305 => ?_) (fun hc305 => ?_)
        ·
          try simp only [dz1, dz2, dz3, dz4, dz5, dz6, dz7, dz8, dz9] at hc305
          have hst : ¬ x.e.st = 1 := by simpa using hc305
          refine C_exit  (nx_exit  (bk_hit  (C_region  (pv (nI j) hT293 (O_p (.i .i64 ((((j : Nat)) : Int) + 1)) (by exact (r_addi rfl rfl (wrap_i64 (by omega) (by omega)))) (pv (.i .i64 ((((j : Nat)) : Int) + 1)) rfl (O_nil  ?_)))))))
          have hH306 := (((hH294.top2).top2).top2)
          exact ⟨tt - (j + 1), by omega, q3, lw3, bo, (j + 1), rfl, by omega, hp283, hp284, hp285.skip hxi (msE_no hst).1, by rw [msl_at (te_e hxi), (msE_no hst).2, ← hp286]; exact (Bool.or_false _).symm, hH306, hT287, hT288, hT289, hT290, hT291, hT292, rfl⟩
        ·
          try simp only [dz1, dz2, dz3, dz4, dz5, dz6, dz7, dz8, dz9] at hc305
          have hst : x.e.st = 1 := by simpa using hc305
          refine C_skip  (C_seq  (C_region  (pv (pT F 0) hT287 (O_p (pT F 0) (r_nilc rfl) (pf (pT F 0) rfl rfl (O_p (.sl qa57 ql58 qc59 qg60) (r_ld rfl hH294.get0 rfl) (pv (nI j) hT293 ?_)))))))
          refine O_q (by exact Sq.cell hp283 (te_lens q3) hH294.top1 rfl (i := j) rfl (r := teRow x) (te_get hxq) (by decide)) fun v308 hv307 => ?_
          obtain ⟨rb309, ro310, rfl, hrg311, hrt312, hrb313, hput314, hqs315⟩ := hv307
          refine pf (.p (some (rb309, (ro310 + 16)))) rfl rfl (O_p (.i .i64 x.e.mi) (r_ldR (q := 16) rfl ⟨_, _, hrg311, hrt312⟩ rfl) (O_p (.i .i64 (x.e.mi + 1)) (by exact (r_addi rfl rfl (wrap_i64 (by omega) (by omega)))) ?_))
          refine O_q (by exact Sq.cell hp283 (te_lens q3) hH294.top1 rfl (i := j) rfl (r := teRow x) (te_get hxq) (by decide)) fun v317 hv316 => ?_
          obtain ⟨rb318, ro319, rfl, hrg320, hrt321, hrb322, hput323, hqs324⟩ := hv316
          refine pf (.p (some (rb318, (ro319 + 16)))) rfl rfl ?_
          refine O_store (vs := [(.i .i64 (x.e.mi + 1))]) (c' := (putAt lw3 (ro319 + 16) [(.i .i64 (x.e.mi + 1))])) rfl (by rfl) hrg320 rfl (List.cons_ne_nil _ _) (by have := hrb322; show _ + 1 ≤ _; omega) rfl fun H325 hW326 => ?_
          have hH328 := Hs.cong1 (Hs.wr1 (Hs.cong1 hH294 (hqs324 _)) hW326) (hqs324 _).symm
          have hSq327 := hput323 16 [(.i .i64 (x.e.mi + 1))] [(.i .u8 x.e.c.k), (.i .u8 x.e.c.f), (.i .u32 x.e.a), (.i .u32 x.e.c.b), (.i .u16 x.e.c.o), (.i .u16 x.e.c.i), (.i .u32 x.e.c.p), x.e.c.x1, x.e.c.x2, x.e.c.x3, x.e.c.x4, x.dv, (.i .i64 x.z.k), (.i .i64 x.e.st), (.i .i64 x.e.sent), (.i .i64 x.e.tm), (.i .i64 (x.e.mi + 1)), (.i .i64 x.z.un), (.i .i64 x.z.tr)] (Nat.le_of_ble_eq_true rfl) rfl
          obtain ⟨qq329, he330⟩ : ∃ z : List Te, z = q3.set j ⟨⟨x.e.c, x.e.a, x.e.st, x.e.sent, x.e.tm, (x.e.mi + 1)⟩, x.z, x.dv⟩ := ⟨_, rfl⟩
          have hs333 : Sq 19 (.sl qa57 ql58 qc59 qg60) (putAt lw3 (ro319 + 16) [(.i .i64 (x.e.mi + 1))]) (qq329.map teRow).flatten := by rw [he330, List.map_set]; exact hSq327
          have hn331 : qq329.length = (n - m) := by rw [he330, List.length_set]; exact hp284
          have hx332 : qq329[j]? = some ⟨⟨x.e.c, x.e.a, x.e.st, x.e.sent, x.e.tm, (x.e.mi + 1)⟩, x.z, x.dv⟩ := by rw [he330]; exact List.getElem?_set_self (by omega)
          refine O_nil  (C_seq  (C_region  (pv (pT F 0) hT287 (O_p (pT F 0) (r_nilc rfl) (pf (pT F 0) rfl rfl (O_p (.sl qa57 ql58 qc59 qg60) (r_ld rfl hH328.get0 rfl) (pv (nI j) hT293 ?_)))))))
          refine O_q (by exact Sq.cell hs333 (te_lens qq329) hH328.top1 rfl (i := j) rfl (r := [(.i .u8 x.e.c.k), (.i .u8 x.e.c.f), (.i .u32 x.e.a), (.i .u32 x.e.c.b), (.i .u16 x.e.c.o), (.i .u16 x.e.c.i), (.i .u32 x.e.c.p), x.e.c.x1, x.e.c.x2, x.e.c.x3, x.e.c.x4, x.dv, (.i .i64 x.z.k), (.i .i64 x.e.st), (.i .i64 x.e.sent), (.i .i64 x.e.tm), (.i .i64 (x.e.mi + 1)), (.i .i64 x.z.un), (.i .i64 x.z.tr)]) (te_get hx332) (by decide)) fun v335 hv334 => ?_
          obtain ⟨rb336, ro337, rfl, hrg338, hrt339, hrb340, hput341, hqs342⟩ := hv334
          refine pf (.p (some (rb336, (ro337 + 16)))) rfl rfl (O_p (.i .i64 (x.e.mi + 1)) (r_ldR (q := 16) rfl ⟨_, _, hrg338, hrt339⟩ rfl) (O_p (.b (decide (3 ≤ (x.e.mi + 1)))) (r_geq rfl rfl) (O_nil  ?_)))
          refine C_cond (x := (decide (3 ≤ (x.e.mi + 1)))) rfl (fun hc343 => ?_) (fun hc343 => ?_)
          ·
            try simp only [dz1, dz2, dz3, dz4, dz5, dz6, dz7, dz8, dz9] at hc343
            have hmi3 : 3 ≤ x.e.mi + 1 := by omega
            refine C_seq  (C_region  (pv (pT F 0) hT287 (O_p (pT F 0) (r_nilc rfl) (pf (pT F 0) rfl rfl (O_p (.sl qa57 ql58 qc59 qg60) (r_ld rfl hH328.get0 rfl) (pv (nI j) hT293 ?_))))))
            refine O_q (by exact Sq.cell hs333 (te_lens qq329) hH328.top1 rfl (i := j) rfl (r := [(.i .u8 x.e.c.k), (.i .u8 x.e.c.f), (.i .u32 x.e.a), (.i .u32 x.e.c.b), (.i .u16 x.e.c.o), (.i .u16 x.e.c.i), (.i .u32 x.e.c.p), x.e.c.x1, x.e.c.x2, x.e.c.x3, x.e.c.x4, x.dv, (.i .i64 x.z.k), (.i .i64 x.e.st), (.i .i64 x.e.sent), (.i .i64 x.e.tm), (.i .i64 (x.e.mi + 1)), (.i .i64 x.z.un), (.i .i64 x.z.tr)]) (te_get hx332) (by decide)) fun v345 hv344 => ?_
            obtain ⟨rb346, ro347, rfl, hrg348, hrt349, hrb350, hput351, hqs352⟩ := hv344
            refine pf (.p (some (rb346, (ro347 + 13)))) rfl rfl ?_
            refine O_store (vs := [(.i .i64 2)]) (c' := (putAt (putAt lw3 (ro319 + 16) [(.i .i64 (x.e.mi + 1))]) (ro347 + 13) [(.i .i64 2)])) rfl (by rfl) hrg348 rfl (List.cons_ne_nil _ _) (by have := hrb350; show _ + 1 ≤ _; omega) rfl fun H353 hW354 => ?_
            have hH356 := Hs.cong1 (Hs.wr1 (Hs.cong1 hH328 (hqs352 _)) hW354) (hqs352 _).symm
            have hSq355 := hput351 13 [(.i .i64 2)] [(.i .u8 x.e.c.k), (.i .u8 x.e.c.f), (.i .u32 x.e.a), (.i .u32 x.e.c.b), (.i .u16 x.e.c.o), (.i .u16 x.e.c.i), (.i .u32 x.e.c.p), x.e.c.x1, x.e.c.x2, x.e.c.x3, x.e.c.x4, x.dv, (.i .i64 x.z.k), (.i .i64 2), (.i .i64 x.e.sent), (.i .i64 x.e.tm), (.i .i64 (x.e.mi + 1)), (.i .i64 x.z.un), (.i .i64 x.z.tr)] (Nat.le_of_ble_eq_true rfl) rfl
            obtain ⟨qq357, he358⟩ : ∃ z : List Te, z = q3.set j ⟨⟨x.e.c, x.e.a, 2, x.e.sent, x.e.tm, (x.e.mi + 1)⟩, x.z, x.dv⟩ := ⟨_, rfl⟩
            have hs361 : Sq 19 (.sl qa57 ql58 qc59 qg60) (putAt (putAt lw3 (ro319 + 16) [(.i .i64 (x.e.mi + 1))]) (ro347 + 13) [(.i .i64 2)]) (qq357.map teRow).flatten := by rw [he358, List.map_set]; have h9 := hSq355; rw [he330, List.map_set, List.set_set] at h9; exact h9
            have hn359 : qq357.length = (n - m) := by rw [he358, List.length_set]; exact hp284
            have hx360 : qq357[j]? = some ⟨⟨x.e.c, x.e.a, 2, x.e.sent, x.e.tm, (x.e.mi + 1)⟩, x.z, x.dv⟩ := by rw [he358]; exact List.getElem?_set_self (by omega)
            refine O_nil  (C_region  (pv (.b true) rfl (O_nil  (C_region  (pv (nI j) hT293 (O_p (.i .i64 ((((j : Nat)) : Int) + 1)) (by exact (r_addi rfl rfl (wrap_i64 (by omega) (by omega)))) (pv (.i .i64 ((((j : Nat)) : Int) + 1)) rfl (O_nil  ?_))))))))
            have hH362 := (((hH356.top2).top2).top2)
            exact ⟨tt - (j + 1), by omega, qq357, (putAt (putAt lw3 (ro319 + 16) [(.i .i64 (x.e.mi + 1))]) (ro347 + 13) [(.i .i64 2)]), true, (j + 1), rfl, by omega, hs361, hn359, by rw [he358]; exact hp285.set hxi (msE_lo hst hmi3).1, by rw [msl_at (te_e hxi), (msE_lo hst hmi3).2, ← hp286]; exact (Bool.or_true _).symm, hH362, hT287, hT288, hT289, hT290, hT291, rfl, rfl⟩
          ·
            try simp only [dz1, dz2, dz3, dz4, dz5, dz6, dz7, dz8, dz9] at hc343
            have hmi3 : ¬ 3 ≤ x.e.mi + 1 := by omega
            refine C_skip  (C_region  (pv (nI j) hT293 (O_p (.i .i64 ((((j : Nat)) : Int) + 1)) (by exact (r_addi rfl rfl (wrap_i64 (by omega) (by omega)))) (pv (.i .i64 ((((j : Nat)) : Int) + 1)) rfl (O_nil  ?_)))))
            have hH363 := (((hH328.top2).top2).top2)
            exact ⟨tt - (j + 1), by omega, qq329, (putAt lw3 (ro319 + 16) [(.i .i64 (x.e.mi + 1))]), bo, (j + 1), rfl, by omega, hs333, hn331, by rw [he330]; exact hp285.set hxi ((msE_up hst hmi3).1.trans (by rw [hst])), by rw [msl_at (te_e hxi), (msE_up hst hmi3).2, ← hp286]; exact (Bool.or_false _).symm, hH363, hT287, hT288, hT289, hT290, hT291, hT292, rfl⟩
      ·
        try simp only [dz1, dz2, dz3, dz4, dz5, dz6, dz7, dz8, dz9] at hc295
        refine C_exit  (nx_exit  (nx_exit  (bk_hit  (C_seq  (C_region  (pv (.i .i64 ((((drB ((q0.map Te.e).take m) + mkb bl 0 ((q0.map Te.e).drop m)) : Nat)) : Int)) hT289 (pv (.i .i64 (drS now ((q0.map Te.e).take m) (-1))) hT290 (pv (.b bo) hT292 (pv (nI m) hT288 (O_p (.b (decide (0 < (((m : Nat)) : Int)))) (r_gtr rfl rfl) (pv (.i .i64 ((((drB ((q0.map Te.e).take m) + mkb bl 0 ((q0.map Te.e).drop m)) : Nat)) : Int)) rfl (pv (.i .i64 (drS now ((q0.map Te.e).take m) (-1))) rfl (pv (.b bo) rfl ?_)))))))))))))
        refine pv (.b (decide (0 < (((m : Nat)) : Int)))) rfl (pv (.b true) rfl (O_nil  (C_ret  ?_)))
        have hH364 := (((hH294.top2).top2).top2)
        have hjt : j = tt := by omega
        have hqf : q3.map Te.e = ackE bl (q0.map Te.e) m := by have h9 := hp285.part; rw [h9, hqe, hjt, htt]; rfl
        have hzz : q3.map Te.z = (q0.map Te.z).drop m := by rw [hp285.zs, hp75.zs, List.map_drop]
        have hbo : bo = ackL bl (q0.map Te.e) m := by have h9 := hp286; rw [h9, hqe, hjt, htt]; rfl
        have hok3 := hp285.ok (hp75.ok (fun x hx => hok x (List.mem_of_mem_drop hx)) (fun k x => by rw [mk1_c])) (fun k x => by rw [msE_c])
        exact ⟨.inr rfl, _, resL_cons (r_tmp (v := (.i .i64 ((((drB ((q0.map Te.e).take m) + mkb bl 0 ((q0.map Te.e).drop m)) : Nat)) : Int))) rfl) (resL_cons (r_tmp (v := (.i .i64 (drS now ((q0.map Te.e).take m) (-1)))) rfl) (resL_cons (r_tmp (v := (.b bo)) rfl) (resL_cons (r_tmp (v := (.b (decide (0 < (((m : Nat)) : Int))))) rfl) (resL_one (r_tmp (v := (.b true)) rfl))))), q3, (.sl qa57 ql58 qc59 qg60), lw3, by rw [hbo]; rfl, hqf, hzz, hok3, hp283, hp284, hH364⟩
end Go.Proofs.Ytipcacpaadgagaa.E
