/- Loops over functions, and the rounds that these call. It bears no condition. -/
import Derived.Test.YtjheedfobmlalaaE35
namespace Go.Proofs.Ytjheedfobmlalaa.E
set_option linter.unusedVariables false
set_option linter.unusedSimpArgs false
/-- A block that is forgotten. -/
def Drp (H : AH) (n : Nat) (H' : AH) : Prop := H'.next = H.next ∧ H'.get n = none ∧ ∀ m, m ≠ n → H'.get m = H.get m
section
variable {tab : Nat → Option XFun} {sp : Nat → List AV → AH → Option (AV × AH)} {T : Tm} {H : AH} {Q : XExit → Tm → AH → Prop}
end
end Go.Proofs.Ytjheedfobmlalaa.E
