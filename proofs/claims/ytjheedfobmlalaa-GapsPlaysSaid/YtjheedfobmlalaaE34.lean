/- More rules: calls under guards that are known, the same on both sides; octets that are handed on. It bears no condition. -/
import Derived.Test.YtjheedfobmlalaaE33
namespace Go.Proofs.Ytjheedfobmlalaa.E
set_option linter.unusedVariables false
set_option linter.unusedSimpArgs false

/-- A value of octets, whatever its room. -/
def OctV (H : AH) (v : AV) (l : List UInt8) : Prop := ∃ a cap g, v = .sl a l.length cap g ∧ (g = 0 ∨ g = 1) ∧ l.length ≤ cap ∧ cap ≤ 9223372036854775807 ∧ Bs H v l
theorem OctV.nil (H : AH) : OctV H (.sl none 0 0 0) [] := ⟨none, 0, 0, rfl, .inl rfl, Nat.le_refl _, Nat.zero_le _, .nil⟩
section
variable {tab : Nat → Option XFun} {sp : Nat → List AV → AH → Option (AV × AH)} {T : Tm} {H : AH} {R : Tm → AH → Prop}
end
section
variable {T : Tm} {H : AH} {c : CallF} {x y : XO}
theorem r_eqq {k : IntKind} {a : Int} (hx : x.ev T = .i k a) (hy : y.ev T = .i k a) : (XOp.bin .eql x y).run c T H = some (.b true, H) := by rw [r_eql hx hy]; simp
theorem r_nqq {k : IntKind} {a : Int} (hx : x.ev T = .i k a) (hy : y.ev T = .i k a) : (XOp.bin .neq x y).run c T H = some (.b false, H) := by rw [r_neq hx hy]; simp
end
end Go.Proofs.Ytjheedfobmlalaa.E
