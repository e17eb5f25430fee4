/- Short words for printed walks. It bears no condition. -/
import Derived.Test.YtnkpmidfefilbaaE28
namespace Go.Proofs.Ytnkpmidfefilbaa.E
abbrev pm (d e i : Nat) : XOper := ⟨some d, .mv (.t e), none, i, []⟩
abbrev po (d : Nat) (e : XOp) (i : Nat) : XOper := ⟨some d, e, none, i, []⟩
abbrev pg (d : Nat) (e : XOp) (t : Nat) (b : Bool) (i : Nat) : XOper := ⟨some d, e, some (t, b), i, []⟩
section
variable {tab : Nat → Option XFun} {sp : Nat → List AV → AH → Option (AV × AH)} {T : Tm} {H : AH} {Q : XExit → Tm → AH → Prop} {R : Tm → AH → Prop}
theorem pv {d : Nat} {x : XO} {ix : Nat} {bef : List Nat} {l : List XOper} (v : AV) (h : x.ev T = v) (k : O tab sp l ((d, v) :: T) H R) : O tab sp (⟨some d, .mv x, none, ix, bef⟩ :: l) T H R := O_p v (r_mv h) k
theorem pf {d off b o : Nat} {x : XO} {ix : Nat} {bef : List Nat} {l : List XOper} (v : AV) (h : x.ev T = .p (some (b, o))) (hv : .p (some (b, o + off)) = v) (k : O tab sp l ((d, v) :: T) H R) : O tab sp (⟨some d, .fadd off x, none, ix, bef⟩ :: l) T H R := O_p v (by rw [← hv]; exact r_fadd h) k
theorem sr {l : List XOper} {b : XC} (h : O tab sp l T H (nx (fun T H => C tab sp b T H Q) Q .norm)) : C tab sp (.seq (.region l) b) T H Q := C_seq (C_region h)
end
end Go.Proofs.Ytnkpmidfefilbaa.E
