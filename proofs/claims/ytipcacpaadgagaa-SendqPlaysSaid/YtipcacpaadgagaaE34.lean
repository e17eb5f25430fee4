/- More rules: calls under guards that are known, the same on both sides; octets that are handed on. It bears no condition. -/
import Derived.Test.YtipcacpaadgagaaE33
namespace Go.Proofs.Ytipcacpaadgagaa.E
set_option linter.unusedVariables false
set_option linter.unusedSimpArgs false

def OctV (H : AH) (v : AV) (l : List UInt8) : Prop := ∃ a cap g, v = .sl a l.length cap g ∧ (g = 0 ∨ g = 1) ∧ l.length ≤ cap ∧ cap ≤ 9223372036854775807 ∧ Bs H v l
theorem OctV.kp {H H' : AH} {v : AV} {l : List UInt8} (h : OctV H v l) (ho : H.Ok) (k : Kp H H') : OctV H' v l := by
 obtain ⟨a, cap, g, h1, h2, h3, h4, h5⟩ := h
 exact ⟨a, cap, g, h1, h2, h3, h4, h5.kp ho k⟩
theorem OctV.nil (H : AH) : OctV H (.sl none 0 0 0) [] := ⟨none, 0, 0, rfl, .inl rfl, Nat.le_refl _, Nat.zero_le _, .nil⟩
section
variable {tab : Nat → Option XFun} {sp : Nat → List AV → AH → Option (AV × AH)} {T : Tm} {H : AH} {R : Tm → AH → Prop}
end
section
variable {T : Tm} {H : AH} {c : CallF} {x y : XO}
theorem r_eqq {k : IntKind} {a : Int} (hx : x.ev T = .i k a) (hy : y.ev T = .i k a) : (XOp.bin .eql x y).run c T H = some (.b true, H) := by rw [r_eql hx hy]; simp
theorem r_nqq {k : IntKind} {a : Int} (hx : x.ev T = .i k a) (hy : y.ev T = .i k a) : (XOp.bin .neq x y).run c T H = some (.b false, H) := by rw [r_neq hx hy]; simp
theorem r_beqq {a : Bool} (hx : x.ev T = .b a) (hy : y.ev T = .b a) : (XOp.beq false x y).run c T H = some (.b true, H) := by rw [r_beq hx hy]; simp
theorem r_quou {k : IntKind} {a b : Int} (hx : x.ev T = .i k a) (hy : y.ev T = .i k b) (h0 : 0 ≤ a) (h1 : 0 < b) (hw : k.wrap (a / b) = a / b) : (XOp.bin .quo x y).run c T H = some (.i k (a / b), H) :=
 r_bin hx hy (by
  have e : ¬ b = 0 := by omega
  have e2 := Int.tdiv_eq_ediv_of_nonneg (b := b) h0
  simp only [pbin, if_true, if_neg e, e2, hw])
theorem r_remu {k : IntKind} {a b : Int} (hx : x.ev T = .i k a) (hy : y.ev T = .i k b) (h0 : 0 ≤ a) (h1 : 0 < b) : (XOp.bin .rem x y).run c T H = some (.i k (a % b), H) :=
 r_bin hx hy (by
  have e : ¬ b = 0 := by omega
  have e2 := Int.tmod_eq_emod_of_nonneg (b := b) h0
  simp only [pbin, if_true, if_neg e, e2])
end
end Go.Proofs.Ytipcacpaadgagaa.E
