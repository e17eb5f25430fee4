/- The first record of a slice is deleted. It bears no condition. -/
import Derived.Test.YtjheedfobmlalaaE42
namespace Go.Proofs.Ytjheedfobmlalaa.E
set_option linter.unusedVariables false
set_option linter.unusedSimpArgs false
section
variable {sz b o n cap g : Nat} {H : AH} {T : Tm} {cf : CallF} {x y z w s : XO} {k k' k2 : IntKind} {c : List AV} {R : HL} {rows : List (List AV)}
end
theorem O_nh {tab : Nat → Option XFun} {sp : Nat → List AV → AH → Option (AV × AH)} {T : Tm} {H : AH} {R : Tm → AH → Prop} {op : XOp} {ix : Nat} {bef : List Nat} {l : List XOper} {P : AH → Prop} (h : ∃ v H', op.run noCall T H = some (v, H') ∧ P H') (k : ∀ H', P H' → O tab sp l T H' R) : O tab sp (⟨none, op, none, ix, bef⟩ :: l) T H R := by
  obtain ⟨v, H', h, p⟩ := h; exact O_n h (k H' p)
end Go.Proofs.Ytjheedfobmlalaa.E
