/- Short words for printed walks. It bears no condition. -/
import Derived.Test.YtipcacpaadgagaaE28
namespace Go.Proofs.Ytipcacpaadgagaa.E
abbrev pm (d e i : Nat) : XOper := ⟨some d, .mv (.t e), none, i, []⟩
abbrev po (d : Nat) (e : XOp) (i : Nat) : XOper := ⟨some d, e, none, i, []⟩
abbrev pg (d : Nat) (e : XOp) (t : Nat) (b : Bool) (i : Nat) : XOper := ⟨some d, e, some (t, b), i, []⟩
section
variable {tab : Nat → Option XFun} {sp : Nat → List AV → AH → Option (AV × AH)} {T : Tm} {H : AH} {Q : XExit → Tm → AH → Prop} {R : Tm → AH → Prop}
theorem pv {d : Nat} {x : XO} {ix : Nat} {bef : List Nat} {l : List XOper} (v : AV) (h : x.ev T = v) (k : O tab sp l ((d, v) :: T) H R) : O tab sp (⟨some d, .mv x, none, ix, bef⟩ :: l) T H R := O_p v (r_mv h) k
theorem pf {d off b o : Nat} {x : XO} {ix : Nat} {bef : List Nat} {l : List XOper} (v : AV) (h : x.ev T = .p (some (b, o))) (hv : .p (some (b, o + off)) = v) (k : O tab sp l ((d, v) :: T) H R) : O tab sp (⟨some d, .fadd off x, none, ix, bef⟩ :: l) T H R := O_p v (by rw [← hv]; exact r_fadd h) k
theorem sr {l : List XOper} {b : XC} (h : O tab sp l T H (nx (fun T H => C tab sp b T H Q) Q .norm)) : C tab sp (.seq (.region l) b) T H Q := C_seq (C_region h)
end
theorem dz1 {p : Prop} [Decidable p] : (decide p = true) = p := decide_eq_true_eq
theorem dz2 {p : Prop} [Decidable p] : decide p = false ↔ ¬ p := decide_eq_false_iff_not
theorem dz3 {b : Bool} : ((!b) = true) = (b = false) := Bool.not_eq_true' b
theorem dz4 {b : Bool} : ((!b) = false) = (b = true) := Bool.not_eq_false' b
theorem dz5 (a b : Bool) : ((a && b) = true) = (a = true ∧ b = true) := Bool.and_eq_true a b
theorem dz6 (a b : Bool) : ((a || b) = true) = (a = true ∨ b = true) := Bool.or_eq_true a b
theorem dz7 {a b : Bool} : (a || b) = false ↔ a = false ∧ b = false := Bool.or_eq_false_iff
theorem dz8 (b : Bool) : (!(!b)) = b := Bool.not_not b
theorem dz9 {a b : Bool} : (a && b) = false ↔ a = false ∨ b = false := Bool.and_eq_false_iff
abbrev nI (n : Nat) : AV := .i .i64 ((n : Nat) : Int)
abbrev pT (n o : Nat) : AV := .p (some (n, o))
end Go.Proofs.Ytipcacpaadgagaa.E
