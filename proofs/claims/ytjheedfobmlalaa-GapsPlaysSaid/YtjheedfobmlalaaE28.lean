/- Rules for regions whose order is open. It bears no condition. -/
import Derived.Test.YtjheedfobmlalaaE27
namespace Go.Proofs.Ytjheedfobmlalaa.E
set_option linter.unusedVariables false
set_option linter.unusedSimpArgs false

mutual
theorem sameV_refl : ∀ x : AV, sameV x x = true
  | .b x => by simp [sameV]
  | .i k x => by simp [sameV]
  | .s x => by simp [sameV]
  | .p x => by simp [sameV]
  | .sl a n c g => by simp [sameV]
  | .m x => by simp [sameV]
  | .fn f a b => by simp [sameV, sameVL_refl a, sameVL_refl b]
  | .nf => rfl
  | .agg a => by simp only [sameV, sameVL_refl a]
  | .tup a => by simp only [sameV, sameVL_refl a]
theorem sameVL_refl : ∀ x : List AV, sameVL x x = true
  | [] => rfl
  | x :: xs => by simp only [sameVL, sameV_refl x, sameVL_refl xs, Bool.and_self]
end

section
variable {tab : Nat → Option XFun} {sp : Nat → List AV → AH → Option (AV × AH)} {T : Tm} {H : AH} {R : Tm → AH → Prop}
/-- An operation that turns nothing. -/
theorem O_p {d : Nat} {op : XOp} {ix : Nat} {bef : List Nat} {l : List XOper} (v : AV) (h : op.run noCall T H = some (v, H)) (k : O tab sp l ((d, v) :: T) H R) : O tab sp (⟨some d, op, none, ix, bef⟩ :: l) T H R := O_s h k
end

inductive WE : List Watch → List Watch → Prop where
  | nil : WE [] []
  | cons {ix : Nat} {op : XOp} {T T' : Tm} {v : AV} {a b : List Watch} : TE T T' → WE a b → WE (⟨ix, op, T, v⟩ :: a) (⟨ix, op, T', v⟩ :: b)
theorem WE.filter {a b : List Watch} (h : WE a b) (bef : List Nat) : WE (a.filter fun x => !bef.contains x.ix) (b.filter fun x => !bef.contains x.ix) := by
  induction h with
  | nil => exact .nil
  | @cons ix op T T' v a b ht h ih =>
    simp only [List.filter_cons]
    split
    · exact .cons ht ih
    · exact ih
/-- What reads the heap ahead of an operation that does not wait for it tells the same behind it. -/
def WF (H : AH) (bef : List Nat) : List Watch → Prop
  | [] => True
  | x :: r => (bef.contains x.ix = true ∨ x.op.look x.T H = some x.v) ∧ WF H bef r
theorem WF.ok {H : AH} {bef : List Nat} : ∀ {W Wx : List Watch}, WE Wx W → WF H bef W → watchOk H (Wx.filter fun x => !bef.contains x.ix) = true
  | [], _, .nil, _ => rfl
  | ⟨ix, op, T', v⟩ :: W, _, .cons (T := T) (a := a) ht h, hw => by
    obtain ⟨h1, h2⟩ := hw
    have := WF.ok h h2
    simp only [List.filter_cons]
    split
    · rename_i hb
      rcases h1 with h1 | h1
      · simp only at h1 hb; rw [h1] at hb; cases hb
      · simp only at h1
        simp only [watchOk, look_te ht, h1, sameV_refl, this, Bool.and_self]
    · exact this

section
variable (tab : Nat → Option XFun) (sp : Nat → List AV → AH → Option (AV × AH))
def D (base : Nat) (l : List XOper) (W : List Watch) (T : Tm) (H : AH) (R : Tm → AH → Prop) : Prop := ∀ Tx Wx, TE Tx T → WE Wx W → ∃ k T' H' T2, runDraw (exec tab sp k) base l Wx Tx H = some (T', H') ∧ TE T' T2 ∧ R T2 H'
end
section
variable {tab : Nat → Option XFun} {sp : Nat → List AV → AH → Option (AV × AH)} {T : Tm} {H : AH} {Q : XExit → Tm → AH → Prop} {R : Tm → AH → Prop} {base : Nat} {W : List Watch}
/-- A heap in which names are set aside. -/
def Aside (H : AH) (n : Nat) (H' : AH) : Prop := H'.next = H.next + n ∧ ∀ m, H'.get m = H.get m
theorem C_draw {l : List XOper} (h : ∀ b H', b = H.next → Aside H l.length H' → D tab sp b l [] T H' (Q .norm)) : C tab sp (.draw l) T H Q := fun Tx hx => by
  obtain ⟨k, T', H', T2, h, t, q⟩ := h _ { H with next := H.next + l.length } rfl ⟨rfl, fun _ => rfl⟩ Tx [] hx .nil
  exact ⟨k, .norm, T', H', T2, by simp only [execC, h]; rfl, t, q⟩
theorem D_nil (h : R T H) : D tab sp base [] W T H R := fun Tx Wx te we => ⟨0, Tx, H, T, rfl, te, h⟩
theorem D_l {d : Nat} {op : XOp} {ix : Nat} {bef : List Nat} {l : List XOper} {v : AV} (hm : op.mk = false) (he : op.eff = false) (hr : op.reads = false) (h : op.run noCall T H = some (v, H)) (k : D tab sp base l W ((d, v) :: T) H R) : D tab sp base (⟨some d, op, none, ix, bef⟩ :: l) W T H R := fun Tx Wx te we => by
  obtain ⟨n, T1, H1, T2, k, r⟩ := k (Tx.set d v) Wx (te.cons d v) we
  refine ⟨n, T1, H1, T2, ?_, r⟩
  have h1 : op.run (exec tab sp n) Tx H = some (v, H) := by rw [run_te te]; exact run_mono (noCall_le _) h
  simp only [runDraw, XOper.wanted, if_true, hm, Bool.false_eq_true, if_false, h1, he, hr]
  exact k
theorem D_r {d : Nat} {op : XOp} {ix : Nat} {bef : List Nat} {l : List XOper} {v : AV} (hm : op.mk = false) (he : op.eff = false) (hr : op.reads = true) (h : op.run noCall T H = some (v, H)) (k : D tab sp base l (⟨ix, op, T, v⟩ :: W) ((d, v) :: T) H R) : D tab sp base (⟨some d, op, none, ix, bef⟩ :: l) W T H R := fun Tx Wx te we => by
  obtain ⟨n, T1, H1, T2, k, r⟩ := k (Tx.set d v) (⟨ix, op, Tx, v⟩ :: Wx) (te.cons d v) (.cons te we)
  refine ⟨n, T1, H1, T2, ?_, r⟩
  have h1 : op.run (exec tab sp n) Tx H = some (v, H) := by rw [run_te te]; exact run_mono (noCall_le _) h
  simp only [runDraw, XOper.wanted, if_true, hm, Bool.false_eq_true, if_false, h1, he, hr]
  exact k
theorem D_en {op : XOp} {ix : Nat} {bef : List Nat} {l : List XOper} {v : AV} {H' : AH} (hm : op.mk = false) (he : op.eff = true) (h : op.run noCall T H = some (v, H')) (w : WF H' bef W) (k : D tab sp base l (W.filter fun x => !bef.contains x.ix) T H' R) :
    D tab sp base (⟨none, op, none, ix, bef⟩ :: l) W T H R := fun Tx Wx te we => by
  obtain ⟨n, T1, H1, T2, k, r⟩ := k Tx _ te (we.filter bef)
  refine ⟨n, T1, H1, T2, ?_, r⟩
  have h1 : op.run (exec tab sp n) Tx H = some (v, H') := by rw [run_te te]; exact run_mono (noCall_le _) h
  simp only [runDraw, XOper.wanted, if_true, hm, Bool.false_eq_true, if_false, h1, he, w.ok we]
  exact k
theorem D_call {d : Nat} {f : XO} {args : List XO} {ix : Nat} {bef : List Nat} {l : List XOper} (h : Ev tab sp (f.ev T) (args.map (·.ev T)) H (fun v H' => WF H' bef W ∧ D tab sp base l (W.filter fun x => !bef.contains x.ix) ((d, v) :: T) H' R)) : D tab sp base (⟨some d, .call f args, none, ix, bef⟩ :: l) W T H R := fun Tx Wx te we => by
  obtain ⟨k, v, H', h, w, o⟩ := h
  obtain ⟨n, T1, H1, T2, h2, r⟩ := o (Tx.set d v) _ (te.cons d v) (we.filter bef)
  refine ⟨max k n, T1, H1, T2, ?_, r⟩
  have h1 : (XOp.call f args).run (exec tab sp (max k n)) Tx H = some (v, H') := by
    rw [run_te te]; simp only [XOp.run]; exact exec_mono (Nat.le_max_left k n) _ _ _ _ h
  simp only [runDraw, XOper.wanted, if_true, XOp.mk, Bool.false_eq_true, if_false, h1, XOp.eff, w.ok we]
  exact runDraw_mono (exec_mono (Nat.le_max_right k n)) l h2
theorem D_store {n : Nat} {a x : XO} {b o : Nat} {cs vs c' : List AV} {ix : Nat} {bef : List Nat} {l : List XOper} (ha : a.ev T = .p (some (b, o))) (hx : (x.ev T).cellsOf = some vs) (hb : H.get b = some (.cells cs true)) (hn : vs.length = n) (h0 : vs ≠ []) (hl : o + vs.length ≤ cs.length) (hc : putAt cs o vs = c')
    (k : ∀ H', Wr H b (.cells c' true) H' → WF H' bef W ∧ D tab sp base l (W.filter fun x => !bef.contains x.ix) T H' R) : D tab sp base (⟨none, .store n a x, none, ix, bef⟩ :: l) W T H R := by
  obtain ⟨w, k⟩ := k (H.set b (.cells (putAt cs o vs) true)) ⟨rfl, by rw [AH.set_same, hc], fun m h => AH.set_other _ _ (Ne.symm h)⟩
  exact D_en rfl rfl (r_st ha hx hb hn h0 hl) w k
theorem look_run {op : XOp} {v : AV} {H' : AH} (hm : op.mk = false) (he : op.eff = false) (h : op.run noCall T H = some (v, H')) : op.look T H = some v := by
  have key : (op.look T H).map (fun v => (v, H)) = some (v, H') → op.look T H = some v := fun h => by
    cases hl : op.look T H with
    | none => rw [hl] at h; cases h
    | some x => rw [hl] at h; simp only [Option.map_some, Option.some.injEq, Prod.mk.injEq] at h; rw [h.1]
  cases op <;> first | exact absurd (show true = false from he) (by decide) | exact absurd (show true = false from hm) (by decide) | exact key h
theorem Aside.fr {H H' : AH} {n : Nat} (h : Aside H n H') (S : Nat → Prop) : Fr S H H' := ⟨by rw [h.1]; omega, fun m _ _ => h.2 m⟩
end
theorem bk_hit {id : Nat} {Q : XExit → Tm → AH → Prop} {T : Tm} {H : AH} (h : Q .norm T H) : bk id Q (.exit id) T H := by unfold bk; simp only [if_true]; exact h
theorem bk_miss {id j : Nat} {Q : XExit → Tm → AH → Prop} {T : Tm} {H : AH} (hn : j ≠ id) (h : Q (.exit j) T H) : bk id Q (.exit j) T H := by unfold bk; simp only [if_neg hn]; exact h
section
variable {T : Tm} {H : AH} {c : CallF}
theorem r_quoi {x y : XO} {a b : Int} (hx : x.ev T = .i .i64 a) (hy : y.ev T = .i .i64 b) (h0 : 0 ≤ a) (h1 : 0 < b) (h2 : a < 9223372036854775808) : (XOp.bin .quo x y).run c T H = some (.i .i64 (a / b), H) :=
  r_bin hx hy (by
    have e : ¬ b = 0 := by omega
    have e2 := Int.tdiv_eq_ediv_of_nonneg (b := b) h0
    have e3 : 0 ≤ a / b := Int.ediv_nonneg h0 (by omega)
    have e4 : a / b ≤ a := Int.ediv_le_self _ h0
    have e5 := wrap_i64 (n := a / b) (by omega) (by omega)
    simp only [pbin, if_true, if_neg e, e2, e5])
theorem r_fadd' {off : Nat} {x : XO} {b o o' : Nat} (hx : x.ev T = .p (some (b, o))) (ho : o + off = o') : (XOp.fadd off x).run c T H = some (.p (some (b, o')), H) := by subst ho; exact r_fadd hx
theorem r_tmp {a : Nat} {v : AV} (hx : T.get a = v) : (XRes.t a).get T H = some v := by simp only [XRes.get, hx]
theorem resL_nil : resL T H [] = some [] := rfl
theorem resL_cons {r : XRes} {rs : List XRes} {v : AV} {vs : List AV} (h : r.get T H = some v) (k : resL T H rs = some vs) : resL T H (r :: rs) = some (v :: vs) := by simp only [resL, h, k]
theorem resL_one {r : XRes} {v : AV} (h : r.get T H = some v) : resL T H [r] = some [v] := resL_cons h resL_nil
end
end Go.Proofs.Ytjheedfobmlalaa.E
