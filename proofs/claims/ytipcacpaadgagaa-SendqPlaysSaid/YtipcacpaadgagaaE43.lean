/- The first record of a slice is deleted. It bears no condition. -/
import Derived.Test.YtipcacpaadgagaaE42
namespace Go.Proofs.Ytipcacpaadgagaa.E
set_option linter.unusedVariables false
set_option linter.unusedSimpArgs false
section
variable {sz b o n cap g : Nat} {H : AH} {T : Tm} {cf : CallF} {x y z w s : XO} {k k' k2 : IntKind} {c : List AV} {R : HL} {rows : List (List AV)}
end
end Go.Proofs.Ytipcacpaadgagaa.E
