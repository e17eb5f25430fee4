/- Known guards in regions whose order is open. It bears no condition. -/
import Derived.Test.YtjheedfobmlalaaE34
namespace Go.Proofs.Ytjheedfobmlalaa.E
set_option linter.unusedVariables false
set_option linter.unusedSimpArgs false
section
variable {tab : Nat → Option XFun} {sp : Nat → List AV → AH → Option (AV × AH)} {T : Tm} {H : AH} {R : Tm → AH → Prop} {base : Nat} {W : List Watch} {g : Nat} {w : Bool}
theorem wanted_k {d : Option Nat} {op : XOp} {ix : Nat} {bef : List Nat} {Tx : Tm} (te : TE Tx T) (hg : T.get g = .b w) : XOper.wanted ⟨d, op, some (g, w), ix, bef⟩ Tx = true := by
  simp only [XOper.wanted, te g, hg, beq_self_eq_true]
theorem D_gl {d : Nat} {op : XOp} {ix : Nat} {bef : List Nat} {l : List XOper} {v : AV} (hg : T.get g = .b w) (hm : op.mk = false) (he : op.eff = false) (hr : op.reads = false) (h : op.run noCall T H = some (v, H)) (k : D tab sp base l W ((d, v) :: T) H R) : D tab sp base (⟨some d, op, some (g, w), ix, bef⟩ :: l) W T H R := fun Tx Wx te we => by
  obtain ⟨n, T1, H1, T2, k, r⟩ := k (Tx.set d v) Wx (te.cons d v) we
  refine ⟨n, T1, H1, T2, ?_, r⟩
  have h1 : op.run (exec tab sp n) Tx H = some (v, H) := by rw [run_te te]; exact run_mono (noCall_le _) h
  simp only [runDraw, wanted_k te hg, if_true, hm, Bool.false_eq_true, if_false, h1, he, hr]
  exact k
theorem D_gr {d : Nat} {op : XOp} {ix : Nat} {bef : List Nat} {l : List XOper} {v : AV} (hg : T.get g = .b w) (hm : op.mk = false) (he : op.eff = false) (hr : op.reads = true) (h : op.run noCall T H = some (v, H)) (k : D tab sp base l (⟨ix, op, T, v⟩ :: W) ((d, v) :: T) H R) : D tab sp base (⟨some d, op, some (g, w), ix, bef⟩ :: l) W T H R := fun Tx Wx te we => by
  obtain ⟨n, T1, H1, T2, k, r⟩ := k (Tx.set d v) (⟨ix, op, Tx, v⟩ :: Wx) (te.cons d v) (.cons te we)
  refine ⟨n, T1, H1, T2, ?_, r⟩
  have h1 : op.run (exec tab sp n) Tx H = some (v, H) := by rw [run_te te]; exact run_mono (noCall_le _) h
  simp only [runDraw, wanted_k te hg, if_true, hm, Bool.false_eq_true, if_false, h1, he, hr]
  exact k
theorem D_gf {d : Nat} {op : XOp} {ix : Nat} {bef : List Nat} {l : List XOper} (hg : T.get g = .b (!w)) (k : D tab sp base l W ((d, und) :: T) H R) : D tab sp base (⟨some d, op, some (g, w), ix, bef⟩ :: l) W T H R := fun Tx Wx te we => by
  obtain ⟨n, T1, H1, T2, k, r⟩ := k (Tx.set d und) Wx (te.cons d und) we
  refine ⟨n, T1, H1, T2, ?_, r⟩
  have e : ((!w) == w) = false := by cases w <;> rfl
  simp only [runDraw, XOper.wanted, te g, hg, e, Bool.false_eq_true, if_false]
  exact k
theorem D_gu {d : Nat} {op : XOp} {ix : Nat} {bef : List Nat} {l : List XOper} (hg : T.get g = und) (k : D tab sp base l W ((d, und) :: T) H R) : D tab sp base (⟨some d, op, some (g, w), ix, bef⟩ :: l) W T H R := fun Tx Wx te we => by
  obtain ⟨n, T1, H1, T2, k, r⟩ := k (Tx.set d und) Wx (te.cons d und) we
  refine ⟨n, T1, H1, T2, ?_, r⟩
  simp only [runDraw, XOper.wanted, te g, hg, Bool.false_eq_true, if_false]
  exact k
theorem O_gu {d : Nat} {op : XOp} {ix : Nat} {bef : List Nat} {l : List XOper} (hg : T.get g = und) (k : O tab sp l ((d, und) :: T) H R) : O tab sp (⟨some d, op, some (g, w), ix, bef⟩ :: l) T H R := fun Tx te => by
  obtain ⟨n, T1, H1, T2, k, r⟩ := k (Tx.set d und) (te.cons d und)
  refine ⟨n, T1, H1, T2, ?_, r⟩
  simp only [runOps, XOper.wanted, te g, hg, Bool.false_eq_true, if_false]
  exact k
theorem D_gcall {d : Nat} {f : XO} {args : List XO} {ix : Nat} {bef : List Nat} {l : List XOper} (hg : T.get g = .b w) (h : Ev tab sp (f.ev T) (args.map (·.ev T)) H (fun v H' => WF H' bef W ∧ D tab sp base l (W.filter fun x => !bef.contains x.ix) ((d, v) :: T) H' R)) : D tab sp base (⟨some d, .call f args, some (g, w), ix, bef⟩ :: l) W T H R := fun Tx Wx te we => by
  obtain ⟨k, v, H', h, w', o⟩ := h
  obtain ⟨n, T1, H1, T2, h2, r⟩ := o (Tx.set d v) _ (te.cons d v) (we.filter bef)
  refine ⟨max k n, T1, H1, T2, ?_, r⟩
  have h1 : (XOp.call f args).run (exec tab sp (max k n)) Tx H = some (v, H') := by
    rw [run_te te]; simp only [XOp.run]; exact exec_mono (Nat.le_max_left k n) _ _ _ _ h
  simp only [runDraw, wanted_k te hg, if_true, XOp.mk, Bool.false_eq_true, if_false, h1, XOp.eff, w'.ok we]
  exact runDraw_mono (exec_mono (Nat.le_max_right k n)) l h2
theorem D_gqs {d : Nat} {op : XOp} {ix : Nat} {bef : List Nat} {l : List XOper} {P : AV → Prop} (hg : T.get g = .b w) (hm : op.mk = false) (he : op.eff = false) (hr : op.reads = false) (h : ∃ v, op.run noCall T H = some (v, H) ∧ P v) (k : ∀ v, P v → D tab sp base l W ((d, v) :: T) H R) : D tab sp base (⟨some d, op, some (g, w), ix, bef⟩ :: l) W T H R := by
  obtain ⟨v, h, p⟩ := h; exact D_gl hg hm he hr h (k v p)
end
theorem u8_eq {n : Int} {y : UInt8} (h : n % 256 = (y.toNat : Int)) : u8 n = y := by
  unfold u8; rw [h]; simp
theorem u8_toNat (n : Int) : ((u8 n).toNat : Int) = n % 256 := by rw [← u8_wrap, wrap_u8]
theorem num_be2 {v : Int} (h0 : 0 ≤ v) (h1 : v < 65536) : num (beN v 2) = v := by
  simp only [beN, num, List.foldl, u8_toNat]
  rw [Int.fdiv_eq_ediv_of_nonneg _ (by decide), Int.fdiv_eq_ediv_of_nonneg _ (by decide)]
  omega
theorem num_be4 {v : Int} (h0 : 0 ≤ v) (h1 : v < 4294967296) : num (beN v 4) = v := by
  simp only [beN, num, List.foldl, u8_toNat]
  rw [Int.fdiv_eq_ediv_of_nonneg _ (by decide), Int.fdiv_eq_ediv_of_nonneg _ (by decide), Int.fdiv_eq_ediv_of_nonneg _ (by decide), Int.fdiv_eq_ediv_of_nonneg _ (by decide)]
  omega
theorem be2_num (a b : UInt8) : beN (num [a, b]) 2 = [a, b] := by
  have ha := a.toNat_lt
  have hb := b.toNat_lt
  simp only [beN, num, List.foldl]
  rw [Int.fdiv_eq_ediv_of_nonneg _ (by decide), Int.fdiv_eq_ediv_of_nonneg _ (by decide)]
  rw [u8_eq (y := a) (by omega), u8_eq (y := b) (by omega)]
theorem be4_num (a b c d : UInt8) : beN (num [a, b, c, d]) 4 = [a, b, c, d] := by
  have ha := a.toNat_lt
  have hb := b.toNat_lt
  have hc := c.toNat_lt
  have hd := d.toNat_lt
  simp only [beN, num, List.foldl]
  rw [Int.fdiv_eq_ediv_of_nonneg _ (by decide), Int.fdiv_eq_ediv_of_nonneg _ (by decide), Int.fdiv_eq_ediv_of_nonneg _ (by decide), Int.fdiv_eq_ediv_of_nonneg _ (by decide)]
  rw [u8_eq (y := a) (by omega), u8_eq (y := b) (by omega), u8_eq (y := c) (by omega), u8_eq (y := d) (by omega)]
end Go.Proofs.Ytjheedfobmlalaa.E
