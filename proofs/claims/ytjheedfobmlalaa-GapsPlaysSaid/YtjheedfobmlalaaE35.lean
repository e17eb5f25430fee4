/- Known guards in regions whose order is open. It bears no condition. -/
import Derived.Test.YtjheedfobmlalaaE34
namespace Go.Proofs.Ytjheedfobmlalaa.E
set_option linter.unusedVariables false
set_option linter.unusedSimpArgs false
section
variable {tab : Nat → Option XFun} {sp : Nat → List AV → AH → Option (AV × AH)} {T : Tm} {H : AH} {R : Tm → AH → Prop} {base : Nat} {W : List Watch} {g : Nat} {w : Bool}
theorem D_gf {d : Nat} {op : XOp} {ix : Nat} {bef : List Nat} {l : List XOper} (hg : T.get g = .b (!w)) (k : D tab sp base l W ((d, und) :: T) H R) : D tab sp base (⟨some d, op, some (g, w), ix, bef⟩ :: l) W T H R := fun Tx Wx te we => by
  obtain ⟨n, T1, H1, T2, k, r⟩ := k (Tx.set d und) Wx (te.cons d und) we
  refine ⟨n, T1, H1, T2, ?_, r⟩
  have e : ((!w) == w) = false := by cases w <;> rfl
  simp only [runDraw, XOper.wanted, te g, hg, e, Bool.false_eq_true, if_false]
  exact k
theorem O_gu {d : Nat} {op : XOp} {ix : Nat} {bef : List Nat} {l : List XOper} (hg : T.get g = und) (k : O tab sp l ((d, und) :: T) H R) : O tab sp (⟨some d, op, some (g, w), ix, bef⟩ :: l) T H R := fun Tx te => by
  obtain ⟨n, T1, H1, T2, k, r⟩ := k (Tx.set d und) (te.cons d und)
  refine ⟨n, T1, H1, T2, ?_, r⟩
  simp only [runOps, XOper.wanted, te g, hg, Bool.false_eq_true, if_false]
  exact k
end
end Go.Proofs.Ytjheedfobmlalaa.E
