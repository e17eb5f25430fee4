/- Known guards in regions whose order is open. It bears no condition. -/
import Derived.Test.YtfhbdddjclodhaaDoorE34
namespace Go.Proofs.YtfhbdddjclodhaaDoor.E
set_option linter.unusedVariables false
set_option linter.unusedSimpArgs false
section
variable {tab : Nat → Option XFun} {sp : Nat → List AV → AH → Option (AV × AH)} {T : Tm} {H : AH} {R : Tm → AH → Prop} {base : Nat} {W : List Watch} {g : Nat} {w : Bool}
end
theorem u8_toNat (n : Int) : ((u8 n).toNat : Int) = n % 256 := by rw [← u8_wrap, wrap_u8]
theorem num_be2 {v : Int} (h0 : 0 ≤ v) (h1 : v < 65536) : num (beN v 2) = v := by
  simp only [beN, num, List.foldl, u8_toNat]
  rw [Int.fdiv_eq_ediv_of_nonneg _ (by decide), Int.fdiv_eq_ediv_of_nonneg _ (by decide)]
  omega
theorem num_be4 {v : Int} (h0 : 0 ≤ v) (h1 : v < 4294967296) : num (beN v 4) = v := by
  simp only [beN, num, List.foldl, u8_toNat]
  rw [Int.fdiv_eq_ediv_of_nonneg _ (by decide), Int.fdiv_eq_ediv_of_nonneg _ (by decide), Int.fdiv_eq_ediv_of_nonneg _ (by decide), Int.fdiv_eq_ediv_of_nonneg _ (by decide)]
  omega
end Go.Proofs.YtfhbdddjclodhaaDoor.E
