/- Rules for runs with data: temporaries count by what they tell; loops go by invariants. It bears no condition. -/
import Derived.Test.YtjheedfobmlalaaE25
namespace Go.Proofs.Ytjheedfobmlalaa.E
set_option linter.unusedVariables false
set_option linter.unusedSimpArgs false

def TE (T T' : Tm) : Prop := ∀ a, T.get a = T'.get a
theorem TE.refl (T : Tm) : TE T T := fun _ => rfl
theorem TE.trans {a b c : Tm} (h : TE a b) (k : TE b c) : TE a c := fun x => (h x).trans (k x)
theorem TE.ev {T T' : Tm} (h : TE T T') (x : XO) : x.ev T = x.ev T' := by cases x with | t n => exact h n | c v => rfl
theorem TE.cons {T T' : Tm} (h : TE T T') (d : Nat) (v : AV) : TE (T.set d v) ((d, v) :: T') := fun a => by
  rw [Tm.get_set]; simp only [Tm.get]; split
  · rfl
  · exact h a
theorem fillP_te {T T' : Tm} (h : TE T T') : ∀ (ps : List (Nat × Nat × XO)) (c : List AV), fillP T c ps = fillP T' c ps
  | [], c => rfl
  | (off, size, x) :: r, c => by
    simp only [fillP, h.ev x]
    split
    · split
      · exact fillP_te h r _
      · rfl
    · rfl
theorem mnmx_te {T T' : Tm} (h : TE T T') (mx : Bool) : ∀ (r : List XO) (a : Option AV),
    r.foldl (fun a y => match a with | some v => pmnmx mx v (y.ev T) | none => none) a = r.foldl (fun a y => match a with | some v => pmnmx mx v (y.ev T') | none => none) a
  | [], a => rfl
  | y :: r, a => by simp only [List.foldl_cons, h.ev y]; exact mnmx_te h mx r _
theorem look_te {T T' : Tm} (h : TE T T') (H : AH) (o : XOp) : o.look T H = o.look T' H := by
  have he : ∀ x : XO, XO.ev T x = XO.ev T' x := h.ev
  cases o with
  | mnmx mx xs =>
    cases xs with
    | nil => rfl
    | cons x r => simp only [XOp.look, he x]; exact mnmx_te h mx r _
  | _ => simp only [XOp.look, he, fillP_te h]
theorem make_te {T T' : Tm} (h : TE T T') (o : XOp) : o.make T = o.make T' := by
  have he : ∀ x : XO, XO.ev T x = XO.ev T' x := h.ev
  cases o <;> simp only [XOp.make, he, fillP_te h]
theorem turn_te {T T' : Tm} (h : TE T T') (H : AH) (o : XOp) : o.turn T H = o.turn T' H := by
  have he : ∀ x : XO, XO.ev T x = XO.ev T' x := h.ev
  cases o <;> simp only [XOp.turn, he]
theorem run_te {T T' : Tm} (h : TE T T') (call : CallF) (H : AH) (o : XOp) : o.run call T H = o.run call T' H := by
  have he : ∀ x : XO, XO.ev T x = XO.ev T' x := h.ev
  unfold XOp.run
  split <;> simp only [he, look_te h, make_te h, turn_te h]
theorem wanted_te {T T' : Tm} (h : TE T T') (o : XOper) : o.wanted T = o.wanted T' := by
  unfold XOper.wanted; cases o.guard with
  | none => rfl
  | some p => simp only [h p.1]
theorem xres_te {T T' : Tm} (h : TE T T') (H : AH) (r : XRes) : r.get T H = r.get T' H := by
  cases r <;> simp only [XRes.get, h _]
theorem resL_te {T T' : Tm} (h : TE T T') (H : AH) : ∀ rs : List XRes, resL T H rs = resL T' H rs
  | [] => rfl
  | r :: rs => by simp only [resL, xres_te h, resL_te h H rs]

section
variable (tab : Nat → Option XFun) (sp : Nat → List AV → AH → Option (AV × AH))
def O (l : List XOper) (T : Tm) (H : AH) (R : Tm → AH → Prop) : Prop := ∀ Tx, TE Tx T → ∃ k T' H' T2, runOps (exec tab sp k) l Tx H = some (T', H') ∧ TE T' T2 ∧ R T2 H'
def C (c : XC) (T : Tm) (H : AH) (Q : XExit → Tm → AH → Prop) : Prop := ∀ Tx, TE Tx T → ∃ k e T' H' T2, execC (exec tab sp k) k c Tx H = some (e, T', H') ∧ TE T' T2 ∧ Q e T2 H'
end

section
variable {tab : Nat → Option XFun} {sp : Nat → List AV → AH → Option (AV × AH)} {T : Tm} {H : AH} {Q : XExit → Tm → AH → Prop} {R : Tm → AH → Prop}

theorem C.mono {c : XC} {Q' : XExit → Tm → AH → Prop} (h : C tab sp c T H Q) (hr : ∀ e T' H', Q e T' H' → Q' e T' H') : C tab sp c T H Q' := fun Tx hx => by
  obtain ⟨k, e, T', H', T2, h, t, r⟩ := h Tx hx; exact ⟨k, e, T', H', T2, h, t, hr _ _ _ r⟩
theorem O.mono {l : List XOper} {R' : Tm → AH → Prop} (h : O tab sp l T H R) (hr : ∀ T' H', R T' H' → R' T' H') : O tab sp l T H R' := fun Tx hx => by
  obtain ⟨k, T', H', T2, h, t, r⟩ := h Tx hx; exact ⟨k, T', H', T2, h, t, hr _ _ r⟩
theorem C.te {c : XC} {T2 : Tm} (h : C tab sp c T2 H Q) (ht : TE T T2) : C tab sp c T H Q := fun Tx hx => h Tx (hx.trans ht)

theorem C_skip (h : Q .norm T H) : C tab sp .skip T H Q := fun Tx hx => ⟨0, _, _, _, T, rfl, hx, h⟩
theorem C_ret (h : Q .ret T H) : C tab sp .ret T H Q := fun Tx hx => ⟨0, _, _, _, T, rfl, hx, h⟩
theorem C_exit {id : Nat} (h : Q (.exit id) T H) : C tab sp (.exit id) T H Q := fun Tx hx => ⟨0, _, _, _, T, rfl, hx, h⟩
theorem C_region {l : List XOper} (h : O tab sp l T H (Q .norm)) : C tab sp (.region l) T H Q := fun Tx hx => by
  obtain ⟨k, T', H', T2, h, t, q⟩ := h Tx hx
  exact ⟨k, .norm, T', H', T2, by simp only [execC, h]; rfl, t, q⟩
theorem C_seq {a b : XC} (h : C tab sp a T H (nx (fun T H => C tab sp b T H Q) Q)) : C tab sp (.seq a b) T H Q := fun Tx hx => by
  obtain ⟨k, e, T', H', T2, h, t, q⟩ := h Tx hx
  cases e with
  | norm =>
    obtain ⟨n, e2, T3, H3, T4, h2, t2, q2⟩ := q T' t
    refine ⟨max k n, e2, T3, H3, T4, ?_, t2, q2⟩
    simp only [execC]
    rw [up (Nat.le_max_left k n) h]
    exact up (Nat.le_max_right k n) h2
  | ret => exact ⟨k, _, _, _, T2, by simp only [execC]; rw [h], t, q⟩
  | exit id => exact ⟨k, _, _, _, T2, by simp only [execC]; rw [h], t, q⟩
theorem C_cond {o : XO} {a b : XC} {x : Bool} (hx : o.ev T = .b x) (ht : x = true → C tab sp a T H Q) (hf : x = false → C tab sp b T H Q) : C tab sp (.cond o a b) T H Q := fun Tx te => by
  cases x with
  | true =>
    obtain ⟨k, e, T', H', T2, h, q⟩ := ht rfl Tx te
    refine ⟨k, e, T', H', T2, ?_, q⟩
    simp only [execC]; rw [te.ev o, hx]; exact h
  | false =>
    obtain ⟨k, e, T', H', T2, h, q⟩ := hf rfl Tx te
    refine ⟨k, e, T', H', T2, ?_, q⟩
    simp only [execC]; rw [te.ev o, hx]; exact h
theorem C_block {id : Nat} {b : XC} (h : C tab sp b T H (bk id Q)) : C tab sp (.block id b) T H Q := fun Tx te => by
  obtain ⟨k, e, T', H', T2, h, t, q⟩ := h Tx te
  cases e with
  | norm => exact ⟨k, _, _, _, T2, by simp only [execC]; rw [h], t, q⟩
  | ret => exact ⟨k, _, _, _, T2, by simp only [execC]; rw [h], t, q⟩
  | exit j =>
    simp only [bk] at q
    by_cases hj : j = id
    · rw [if_pos hj] at q
      exact ⟨k, _, _, _, T2, by simp only [execC]; rw [h]; simp only [if_pos hj], t, q⟩
    · rw [if_neg hj] at q
      exact ⟨k, _, _, _, T2, by simp only [execC]; rw [h]; simp only [if_neg hj], t, q⟩
theorem C_loop {b : XC} (h : C tab sp b T H (nx (fun T H => C tab sp (.loop b) T H Q) Q)) : C tab sp (.loop b) T H Q := fun Tx te => by
  obtain ⟨k, e, T', H', T2, h, t, q⟩ := h Tx te
  cases e with
  | norm =>
    obtain ⟨n, e2, T3, H3, T4, h2, t2, q2⟩ := q T' t
    refine ⟨max k n + 1, e2, T3, H3, T4, ?_, t2, q2⟩
    have h1 := up (by omega : k ≤ max k n + 1) h
    simp only [execC, iter, h1]
    simp only [execC] at h2
    exact iter_mono (fun T H r e => up (by omega : n ≤ max k n + 1) e) (by omega : n ≤ max k n) h2
  | ret =>
    have h1 := up (by omega : k ≤ k + 1) h
    exact ⟨k + 1, _, _, _, T2, by simp only [execC, iter, h1], t, q⟩
  | exit id =>
    have h1 := up (by omega : k ≤ k + 1) h
    exact ⟨k + 1, _, _, _, T2, by simp only [execC, iter, h1], t, q⟩
/-- A loop, by what holds ahead of each round: 'm' falls. -/
theorem C_while {b : XC} (I : Nat → Tm → AH → Prop) (step : ∀ m T H, I m T H → C tab sp b T H (nx (fun T' H' => ∃ m', m' < m ∧ I m' T' H') Q)) : ∀ m T H, I m T H → C tab sp (.loop b) T H Q := fun m => by
  induction m using Nat.strongRecOn with
  | _ m ih =>
    intro T H h
    refine C_loop ((step m T H h).mono fun e T' H' q => ?_)
    cases e with
    | norm => obtain ⟨m', hm, h'⟩ := q; exact ih m' hm T' H' h'
    | ret => exact q
    | exit id => exact q

theorem O_nil (h : R T H) : O tab sp [] T H R := fun Tx te => ⟨0, Tx, H, T, rfl, te, h⟩
/-- An operation that calls nothing. -/
theorem O_s {d : Nat} {op : XOp} {ix : Nat} {bef : List Nat} {l : List XOper} {v : AV} {H' : AH} (h : op.run noCall T H = some (v, H')) (k : O tab sp l ((d, v) :: T) H' R) : O tab sp (⟨some d, op, none, ix, bef⟩ :: l) T H R := fun Tx te => by
  obtain ⟨n, T1, H1, T2, k, r⟩ := k (Tx.set d v) (te.cons d v)
  refine ⟨n, T1, H1, T2, ?_, r⟩
  simp only [runOps, XOper.wanted, if_true]
  rw [run_te te, run_mono (noCall_le _) h]
  exact k
theorem O_n {op : XOp} {ix : Nat} {bef : List Nat} {l : List XOper} {v : AV} {H' : AH} (h : op.run noCall T H = some (v, H')) (k : O tab sp l T H' R) : O tab sp (⟨none, op, none, ix, bef⟩ :: l) T H R := fun Tx te => by
  obtain ⟨n, T1, H1, T2, k, r⟩ := k Tx te
  refine ⟨n, T1, H1, T2, ?_, r⟩
  simp only [runOps, XOper.wanted, if_true]
  rw [run_te te, run_mono (noCall_le _) h]
  exact k
theorem O_gf {g : Nat} {w : Bool} {d : Nat} {op : XOp} {ix : Nat} {bef : List Nat} {l : List XOper} (hg : T.get g = .b (!w)) (k : O tab sp l ((d, und) :: T) H R) : O tab sp (⟨some d, op, some (g, w), ix, bef⟩ :: l) T H R := fun Tx te => by
  obtain ⟨n, T1, H1, T2, k, r⟩ := k (Tx.set d und) (te.cons d und)
  refine ⟨n, T1, H1, T2, ?_, r⟩
  have e : ((!w) == w) = false := by cases w <;> rfl
  simp only [runOps, XOper.wanted, te g, hg, e, Bool.false_eq_true, if_false]
  exact k
theorem O_call {d : Nat} {f : XO} {args : List XO} {ix : Nat} {bef : List Nat} {l : List XOper} (h : Ev tab sp (f.ev T) (args.map (·.ev T)) H (fun v H' => O tab sp l ((d, v) :: T) H' R)) : O tab sp (⟨some d, .call f args, none, ix, bef⟩ :: l) T H R := fun Tx te => by
  obtain ⟨k, v, H', h, o⟩ := h
  obtain ⟨n, T1, H1, T2, h2, r⟩ := o (Tx.set d v) (te.cons d v)
  refine ⟨max k n, T1, H1, T2, ?_, r⟩
  simp only [runOps, XOper.wanted, if_true]
  rw [run_te te]
  simp only [XOp.run]
  rw [exec_mono (Nat.le_max_left k n) _ _ _ _ h]
  exact runOps_mono (exec_mono (Nat.le_max_right k n)) l h2
theorem Ev_C {g : Nat} {F : XFun} {args : List AV} {S : AV → AH → Prop} (hF : tab g = some F) {first cap : List AV}
    (h : C tab sp F.body (argsT 0 (first ++ args ++ cap)) H (fun e T' H' => (e = .norm ∨ e = .ret) ∧ ∃ vs, resL T' H' F.results = some vs ∧ S (resV vs) H')) : Ev tab sp (.fn (.func g) first cap) args H S := by
  obtain ⟨k, e, T', H', T2, h, t, he, vs, hv, r⟩ := h _ (TE.refl _)
  refine ⟨k + 1, resV vs, H', ?_, r⟩
  simp only [exec, hF]
  rw [← resL_te t] at hv
  rcases he with rfl | rfl <;> (rw [h]; simp [hv])
end

/-! ### What operations tell, from what is known -/
section
variable {T : Tm} {H : AH} {c : CallF}
theorem r_ld {n : Nat} {x : XO} {b o : Nat} {cs : List AV} {mu : Bool} {v : AV} (hx : x.ev T = .p (some (b, o))) (hb : H.get b = some (.cells cs mu)) (hc : cs[o]? = some v) : (XOp.load false n x).run c T H = some (v, H) := by
  simp only [XOp.run, XOp.look, hx, hb, Bool.false_eq_true, if_false, hc, Option.map_some]
theorem r_st {n : Nat} {a x : XO} {b o : Nat} {cs vs : List AV} (ha : a.ev T = .p (some (b, o))) (hx : (x.ev T).cellsOf = some vs) (hb : H.get b = some (.cells cs true)) (hn : vs.length = n) (h0 : vs ≠ []) (hl : o + vs.length ≤ cs.length) :
    (XOp.store n a x).run c T H = some (und, H.set b (.cells (putAt cs o vs) true)) := by
  simp only [XOp.run, XOp.turn, ha, hx, if_pos hn, AH.write, if_neg h0, hb, if_pos hl, Option.map_some]
theorem r_isl {size : Nat} {x i : XO} {b o len cap g : Nat} {k : IntKind} {n : Int} (hx : x.ev T = .sl (some (b, o)) len cap g) (hi : i.ev T = .i k n) (h0 : 0 ≤ n) (h1 : n < (len : Int)) :
    (XOp.isl size x i).run c T H = some (.p (some (b, o + n.toNat * size)), H) := by
  simp only [XOp.run, XOp.look, hx, hi, if_pos (And.intro h0 h1), Option.map_some]
theorem r_idxs {x i : XO} {s : ByteArray} {k : IntKind} {n : Int} {y : UInt8} (hx : x.ev T = .s s) (hi : i.ev T = .i k n) (h0 : 0 ≤ n) (h1 : s[n.toNat]? = some y) :
    (XOp.idxs x i).run c T H = some (.i .u8 y.toNat, H) := by
  simp only [XOp.run, XOp.look, hx, hi, if_pos h0, h1, Option.map_some]
theorem r_slsl {size : Nat} {x : XO} {lo hi mx : Option XO} {a : Option (Nat × Nat)} {len cap g l h m : Nat} (hx : x.ev T = .sl a len cap g) (hg : g = 0 ∨ g = size) (hs : sbounds len cap (lo.map (·.ev T)) (hi.map (·.ev T)) (mx.map (·.ev T)) = some (l, h, m)) :
    (XOp.slsl size x lo hi mx).run c T H = some (.sl (if m = l ∧ (if mx.isSome then 0 else g) = 0 then a else a.map fun (b, o) => (b, o + l * size)) (h - l) (m - l) (if mx.isSome then 0 else g), H) := by
  simp only [XOp.run, XOp.look, hx, if_pos hg, hs, Option.map_some]
theorem sb_lo {k : IntKind} {i : Int} {len cap : Nat} (h0 : 0 ≤ i) (h1 : i ≤ (len : Int)) : sbounds len cap (some (.i k i)) none none = some (i.toNat, len, cap) := by
  unfold sbounds; simp only [sbound, if_pos (And.intro h0 h1)]
theorem sb_hi {k : IntKind} {i : Int} {len cap : Nat} (h0 : 0 ≤ i) (h1 : i ≤ (cap : Int)) : sbounds len cap none (some (.i k i)) none = some (0, i.toNat, cap) := by
  unfold sbounds; simp only [sbound, if_pos (And.intro h0 h1)]
theorem sb_both {k k' : IntKind} {i j : Int} {len cap : Nat} (h0 : 0 ≤ i) (h1 : i ≤ j) (h2 : j ≤ (cap : Int)) : sbounds len cap (some (.i k i)) (some (.i k' j)) none = some (i.toNat, j.toNat, cap) := by
  have h3 : 0 ≤ j ∧ j ≤ (cap : Int) := ⟨by omega, h2⟩
  have h4 : 0 ≤ i ∧ i ≤ ((j.toNat : Nat) : Int) := ⟨h0, by omega⟩
  unfold sbounds; simp only [sbound, if_pos h3, if_pos h4]

theorem takeAt_ok {cs : List AV} {o n : Nat} (h : o + n ≤ cs.length) : takeAt cs o n = some ((cs.drop o).take n) := if_pos h

/-- Frames: what lay outside some names lies as it lay. -/
structure Fr (S : Nat → Prop) (H H' : AH) : Prop where
  next : H.next ≤ H'.next
  keep : ∀ n, n < H.next → ¬ S n → H'.get n = H.get n
theorem Fr.refl (S : Nat → Prop) (H : AH) : Fr S H H := ⟨Nat.le_refl _, fun _ _ _ => rfl⟩
theorem Fr.trans {S : Nat → Prop} {a b c : AH} (h : Fr S a b) (k : Fr S b c) : Fr S a c := ⟨Nat.le_trans h.next k.next, fun n hn hs => by rw [k.keep n (Nat.lt_of_lt_of_le hn h.next) hs, h.keep n hn hs]⟩
theorem Fr.mono {S S' : Nat → Prop} {a b : AH} (h : Fr S a b) (hs : ∀ n, n < a.next → S n → S' n) : Fr S' a b := ⟨h.next, fun n hn hn' => h.keep n hn fun s => hn' (hs n hn s)⟩
theorem Fr.alloc (S : Nat → Prop) (H : AH) (b : Blk) : Fr S H (H.alloc b) := ⟨by rw [AH.next_alloc]; omega, fun n hn _ => by rw [AH.get_alloc, if_neg (by omega)]⟩
theorem Fr.set {S : Nat → Prop} {H : AH} {n : Nat} {b : Blk} (hn : S n ∨ H.next ≤ n) : Fr S H (H.set n b) := ⟨Nat.le_refl _, fun m hm hs => by rw [AH.get_set, if_neg (by rintro rfl; rcases hn with h | h; exact hs h; omega)]⟩
theorem Fr.drop {S : Nat → Prop} {H : AH} {n : Nat} (hn : S n ∨ H.next ≤ n) : Fr S H (H.drop n) := ⟨Nat.le_refl _, fun m hm hs => by rw [AH.get_drop, if_neg (by rintro rfl; rcases hn with h | h; exact hs h; omega)]⟩
theorem AH.alloc_new (H : AH) (b : Blk) : (H.alloc b).get H.next = some b := by rw [AH.get_alloc, if_pos rfl]
theorem AH.set_same (H : AH) (n : Nat) (b : Blk) : (H.set n b).get n = some b := by rw [AH.get_set, if_pos rfl]
theorem AH.set_other (H : AH) {n m : Nat} (b : Blk) (h : n ≠ m) : (H.set n b).get m = H.get m := by rw [AH.get_set, if_neg h]
theorem AH.drop_other (H : AH) {n m : Nat} (h : n ≠ m) : (H.drop n).get m = H.get m := by rw [AH.get_drop, if_neg h]

/-- A slice that the code has made itself, cells 'l' (each element 'sz' of them), full to its capacity. -/
inductive Own (sz : Nat) (H : AH) : AV → List AV → Prop where
  | nil : Own sz H (.sl none 0 0 0) []
  | mk {b n g : Nat} {l : List AV} (hb : H.get b = some (.cells l true)) (hlt : b < H.next) (hg : g = 0 ∨ g = sz) (hl : l.length = n * sz) : Own sz H (.sl (some (b, 0)) n n g) l
/-- The name of a slice's block. -/
def AV.nameOf : AV → Nat → Prop
  | .sl (some q) _ _ _, n => n = q.1
  | _, _ => False
theorem nameOf_sl {q o len cap g n : Nat} : (AV.sl (some (q, o)) len cap g).nameOf n ↔ n = q := Iff.rfl
theorem putAt_nil (c : List AV) (o : Nat) : putAt c o [] = c := by cases c <;> rfl
/-! ### Octets -/
def bcells (l : List UInt8) : List AV := l.map fun x => .i .u8 x.toNat
theorem bcells_len (l : List UInt8) : (bcells l).length = l.length := List.length_map _
theorem bcells_get (l : List UInt8) (i : Nat) : (bcells l)[i]? = (l[i]?).map fun x => .i .u8 x.toNat := List.getElem?_map ..
theorem bcells_take (l : List UInt8) (n : Nat) : (bcells l).take n = bcells (l.take n) := (List.map_take ..).symm
theorem bcells_drop (l : List UInt8) (n : Nat) : (bcells l).drop n = bcells (l.drop n) := (List.map_drop ..).symm
theorem bytesOf_bcells : ∀ l : List UInt8, bytesOf (bcells l) = some l
  | [] => rfl
  | x :: l => by
    show (bytesOf (bcells l)).map _ = _
    rw [bytesOf_bcells l]
    simp

/-- A slice of octets that is read: 'l' are its octets. -/
inductive Bs (H : AH) : AV → List UInt8 → Prop where
  | nil : Bs H (.sl none 0 0 0) []
  | none {a : Option (Nat × Nat)} {cap g : Nat} : Bs H (.sl a 0 cap g) []
  | mk {b o cap g : Nat} {cs : List AV} {mu : Bool} {l : List UInt8} (hb : H.get b = some (.cells cs mu)) (hc : takeAt cs o l.length = some (bcells l)) : Bs H (.sl (some (b, o)) l.length cap g) l
theorem Bs.len {v : AV} {l : List UInt8} (h : Bs H v l) : lenOfA v = some l.length := by cases h <;> rfl
theorem Bs.keep {v : AV} {l : List UInt8} {S : Nat → Prop} {H' : AH} (h : Bs H v l) (hf : Fr S H H') (hn : ∀ b, v.nameOf b → b < H.next ∧ ¬ S b) : Bs H' v l := by
  cases h with
  | nil => exact .nil
  | none => exact .none
  | mk hb hc => exact .mk (by rw [hf.keep _ (hn _ (nameOf_sl.2 rfl)).1 (hn _ (nameOf_sl.2 rfl)).2]; exact hb) hc
theorem Bs.src {v : AV} {l : List UInt8} (h : Bs H v l) : XOp.src H 1 l.length v = some (bcells l) := by
  cases h with
  | nil => rfl
  | @none a cap g =>
    cases a with
    | none => rfl
    | some p => rfl
  | mk hb hc =>
    simp only [XOp.src, Nat.mul_one, hb, hc]
    split
    · rename_i h0
      rw [List.eq_nil_of_length_eq_zero h0]; rfl
    · rfl
theorem takeAt_get {cs l : List AV} {o n i : Nat} (h : takeAt cs o n = some l) (hi : i < n) : cs[o + i]? = l[i]? := by
  unfold takeAt at h
  split at h
  · simp only [Option.some.injEq] at h; subst h
    rw [List.getElem?_take_of_lt hi, List.getElem?_drop]
  · cases h
theorem takeAt_len {cs l : List AV} {o n : Nat} (h : takeAt cs o n = some l) : l.length = n ∧ o + n ≤ cs.length := by
  unfold takeAt at h
  split at h
  · simp only [Option.some.injEq] at h; subst h
    exact ⟨by simp; omega, by omega⟩
  · cases h
theorem takeAt_sub {cs l : List AV} {o n i m : Nat} (h : takeAt cs o n = some l) (hi : i + m ≤ n) : takeAt cs (o + i) m = some ((l.drop i).take m) := by
  obtain ⟨h1, h2⟩ := takeAt_len h
  rw [takeAt_ok (by omega)]
  unfold takeAt at h
  rw [if_pos h2] at h
  simp only [Option.some.injEq] at h; subst h
  rw [List.drop_take, List.take_take, List.drop_drop, Nat.min_eq_left (by omega)]
/-- One octet of a slice. -/
theorem Bs.at {v : AV} {l : List UInt8} (h : Bs H v l) {x i : XO} {k : IntKind} {n : Int} (hx : x.ev T = v) (hi : i.ev T = .i k n) (h0 : 0 ≤ n) (h1 : n < (l.length : Int)) : ∃ b o cs mu, (XOp.isl 1 x i).run c T H = some (.p (some (b, o)), H) ∧ H.get b = some (.cells cs mu) ∧ cs[o]? = (l[n.toNat]?).map (fun y => .i .u8 y.toNat) := by
  cases h with
  | nil => simp at h1; omega
  | none => simp at h1; omega
  | @mk b o cap g cs mu l hb hc =>
    refine ⟨b, o + n.toNat * 1, cs, mu, r_isl hx hi h0 h1, hb, ?_⟩
    rw [Nat.mul_one, takeAt_get hc (by omega), bcells_get]
/-- As a text. -/
theorem Bs.text {v : AV} {l : List UInt8} (h : Bs H v l) {x : XO} (hx : x.ev T = v) : (XOp.cb2s x).run c T H = some (.s ⟨l.toArray⟩, H) := by
  cases h with
  | nil => simp only [XOp.run, XOp.look, hx, Option.map_some]; rfl
  | @none a cap g =>
    cases a with
    | none => simp only [XOp.run, XOp.look, hx, Option.map_some]; rfl
    | some p => simp only [XOp.run, XOp.look, hx, if_true, Option.map_some]; rfl
  | @mk b o cap g cs mu l hb hc =>
    simp only [XOp.run, XOp.look, hx, hb, hc, bytesOf_bcells, Option.map_some]
    split
    · rename_i h0
      rw [List.eq_nil_of_length_eq_zero h0]; rfl
    · rfl
end
end Go.Proofs.Ytjheedfobmlalaa.E
