/- Texts as lists of octets, in a walk. It bears no condition. -/
import Derived.Test.YtjheedfobmlalaaE38
namespace Go.Proofs.Ytjheedfobmlalaa.E
set_option linter.unusedVariables false
set_option linter.unusedSimpArgs false
section
variable {T : Tm} {H : AH} {c : CallF} {x y z : XO} {l : List UInt8} {k k' : IntKind} {n m : Nat}
end
theorem OctAt.old {H0 H : AH} {v : AV} {y : UInt8} (h : OctAt H0 v y) (hw : H0.Ok) (k : Kp H0 H) : OctAt H v y := by
  obtain ⟨b, o, cs, mu, rfl, hb, hc⟩ := h
  exact ⟨b, o, cs, mu, rfl, by rw [k.keep _ (hw _ _ hb)]; exact hb, hc⟩
theorem CellAt.old {H0 H : AH} {v : AV} {y : AV} (h : CellAt H0 v y) (hw : H0.Ok) (k : Kp H0 H) : CellAt H v y := by
  obtain ⟨b, o, cs, mu, rfl, hb, hc⟩ := h
  exact ⟨b, o, cs, mu, rfl, by rw [k.keep _ (hw _ _ hb)]; exact hb, hc⟩
end Go.Proofs.Ytjheedfobmlalaa.E
