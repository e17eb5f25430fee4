/- Texts as lists of octets, in a walk. It bears no condition. -/
import Derived.Test.YtnkpmidfefilbaaE38
namespace Go.Proofs.Ytnkpmidfefilbaa.E
set_option linter.unusedVariables false
set_option linter.unusedSimpArgs false
theorem txt_size (l : List UInt8) : (txt l).size = l.length := by simp [txt, ByteArray.size]
theorem txt_data (l : List UInt8) : (txt l).data.toList = l := by simp [txt]
theorem txt_of (s : ByteArray) : txt s.data.toList = s := by cases s; simp [txt]
section
variable {T : Tm} {H : AH} {c : CallF} {x y z : XO} {l : List UInt8} {k k' : IntKind} {n m : Nat}
theorem r_lent (hx : x.ev T = .s (txt l)) : (XOp.lens x).run c T H = some (.i .i64 ((l.length : Nat) : Int), H) := by
  rw [r_lens hx, txt_size]
end
theorem OctAt.old {H0 H : AH} {v : AV} {y : UInt8} (h : OctAt H0 v y) (hw : H0.Ok) (k : Kp H0 H) : OctAt H v y := by
  obtain ⟨b, o, cs, mu, rfl, hb, hc⟩ := h
  exact ⟨b, o, cs, mu, rfl, by rw [k.keep _ (hw _ _ hb)]; exact hb, hc⟩
theorem CellAt.old {H0 H : AH} {v : AV} {y : AV} (h : CellAt H0 v y) (hw : H0.Ok) (k : Kp H0 H) : CellAt H v y := by
  obtain ⟨b, o, cs, mu, rfl, hb, hc⟩ := h
  exact ⟨b, o, cs, mu, rfl, by rw [k.keep _ (hw _ _ hb)]; exact hb, hc⟩
end Go.Proofs.Ytnkpmidfefilbaa.E
