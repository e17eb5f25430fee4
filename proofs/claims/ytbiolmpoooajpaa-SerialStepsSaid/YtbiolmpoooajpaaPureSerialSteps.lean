/- SerialSteps: so many steps on lead to a greater number that far away, for every input. -/
import Derived.Test.YtbiolmpoooajpaaPSerialStepsx1
import Derived.Laws.BitsAllLaws
namespace Go.Proofs.Ytbiolmpoooajpaa.Pure
open Go.RowKit Go.Proofs.Ytbiolmpoooajpaa.PSerialSteps Go.Proofs.YtbiolmpoooajpaaW.PrintWords Go.Proofs.YtbiolmpoooajpaaW.PrintLast
set_option linter.unusedVariables false
set_option linter.unusedSimpArgs false
theorem b32 : Go.bits .xor .u32 4294967295 0 = 4294967295 := by decide
theorem b16 : Go.bits .xor .u16 65535 0 = 65535 := by decide
theorem bd {a : Int} (h : (Lit.int .u32 a).wf = true) : 0 ≤ a ∧ a < 4294967296 := by
  have hmin : IntKind.u32.min = 0 := rfl
  have hmax : IntKind.u32.max = 4294967295 := rfl
  simp only [Lit.wf, Bool.and_eq_true, decide_eq_true_eq, hmin, hmax] at h
  omega
theorem less_eq (a b : Int) : serial_Less.f a b = some (decide (1 ≤ (b - a) % 4294967296 ∧ (b - a) % 4294967296 ≤ 2147483647)) := by
  unfold serial_Less.f serial_less_uint32.f
  rw [b32]
  split
  · rename_i h
    rw [Option.bind_some, decide_eq_false (by omega)]
  · rename_i h
    rw [Option.bind_some]
    congr 1
    rw [decide_eq_decide]
    omega
theorem less16_eq (a b : Int) : serial_Less16.f a b = some (decide (1 ≤ (b - a) % 65536 ∧ (b - a) % 65536 ≤ 32767)) := by
  unfold serial_Less16.f serial_less_uint16.f
  rw [b16, IntKind.wrap_u16]
  split
  · rename_i h
    rw [Option.bind_some, decide_eq_false (by omega)]
  · rename_i h
    rw [Option.bind_some]
    congr 1
    rw [decide_eq_decide]
    omega
theorem dist_eq (a b : Int) : serial_Dist.f a b = some ((b - a) % 4294967296) := rfl
theorem between_eq (a x b : Int) : serial_Between.f a x b = some (decide ((x - a) % 4294967296 ≤ (b - a) % 4294967296)) := rfl
theorem less32_eq (a b : Int) : serial_less_uint32.f a b = some (decide (1 ≤ (b - a) % 4294967296 ∧ (b - a) % 4294967296 ≤ 2147483647)) := by
  have h := less_eq a b
  unfold serial_Less.f at h
  cases e : serial_less_uint32.f a b with
  | none => rw [e] at h; cases h
  | some t => rw [e] at h; exact h
theorem max_eq (a b : Int) : serial_Max.f a b = some (if 1 ≤ (b - a) % 4294967296 ∧ (b - a) % 4294967296 ≤ 2147483647 then b else a) := by
  unfold serial_Max.f
  rw [less32_eq, Option.bind_some]
  by_cases h : 1 ≤ (b - a) % 4294967296 ∧ (b - a) % 4294967296 ≤ 2147483647
  · rw [if_pos (decide_eq_true h), if_pos h]
  · rw [if_neg (by simpa using h), if_neg h]
theorem awake_eq : bollardlaw02_awake.f = some true := by
  unfold bollardlaw02_awake.f
  rw [less_eq, less_eq, less16_eq, max_eq, between_eq, dist_eq]
  rfl
theorem and_lt (a : Int) (h0 : 0 ≤ a) (h1 : a < 4294967296) : 0 ≤ Go.bits .and .u32 a 2147483647 ∧ Go.bits .and .u32 a 2147483647 ≤ 2147483647 := by
  have e := u32_and a 2147483647 h0 h1 (by omega) (by omega)
  rw [e]
  have h := Nat.and_le_right (n := a.toNat) (m := (2147483647 : Int).toNat)
  have h2 : (2147483647 : Int).toNat = 2147483647 := rfl
  rw [h2] at h ⊢
  omega
theorem SerialSteps : bollardlaw02_SerialSteps.Pure := by
  intro a n k wa wn wk
  have ha := bd wa; have hn := bd wn; have hk := bd wk
  obtain ⟨m0, m1⟩ := and_lt n hn.1 hn.2
  refine ⟨1, ?_⟩
  unfold bollardlaw02_SerialSteps.f
  generalize Go.bits .and .u32 n 2147483647 = m at m0 m1 ⊢
  have e1 : ((a + m) % 4294967296 - a) % 4294967296 = m := by omega
  rw [awake_eq]
  simp only [less_eq, dist_eq, max_eq, Option.bind_some, e1, if_true]
  have d1 : decide (1 ≤ m ∧ m ≤ 2147483647) = decide (m > 0) := by rw [decide_eq_decide]; omega
  rw [d1]
  have d2 : (decide (m > 0) != decide (m > 0)) = false := by simp
  rw [d2, if_neg (by decide)]
  have d3 : (if 1 ≤ m ∧ m ≤ 2147483647 then (a + m) % 4294967296 else a) = (a + m) % 4294967296 := by
    split
    · rfl
    · omega
  rw [d3]
  have d4 : ((a + m) % 4294967296 != (a + m) % 4294967296) = false := by simp
  rw [d4]
  show (if false = true then some false else _) = some true
  rw [if_neg (by decide)]
  have f1 : (m + 1) % 4294967296 = m + 1 := by omega
  have f2 : Int.tmod k (m + 1) = k % (m + 1) := Int.tmod_eq_emod_of_nonneg hk.1
  have f3 := Int.emod_nonneg k (b := m + 1) (by omega)
  have f4 := Int.emod_lt_of_pos k (b := m + 1) (by omega)
  simp only [f1, f2, between_eq, dist_eq, Option.bind_some, if_true]
  generalize k % (m + 1) = t at f3 f4 ⊢
  rw [if_neg (show ¬ m + 1 = 0 by omega), if_pos (decide_eq_true (by omega))]
  by_cases hm : m = 0
  · rw [if_pos hm]; simp; omega
  · rw [if_neg hm, if_neg (show ¬ (false = true) by decide), if_pos (by rw [decide_eq_false (by omega)]; rfl)]
    simp; omega
end Go.Proofs.Ytbiolmpoooajpaa.Pure
