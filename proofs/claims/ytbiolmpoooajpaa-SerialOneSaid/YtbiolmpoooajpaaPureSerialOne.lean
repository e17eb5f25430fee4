/- SerialOne: of two numbers just one is less, but for equal ones and those half way round, for every input. -/
import Derived.Test.YtbiolmpoooajpaaPSerialOnex1
import Derived.Laws.BitsAllLaws
namespace Go.Proofs.Ytbiolmpoooajpaa.Pure
open Go.RowKit Go.Proofs.Ytbiolmpoooajpaa.PSerialOne Go.Proofs.YtbiolmpoooajpaaW.PrintWords Go.Proofs.YtbiolmpoooajpaaW.PrintLast
set_option linter.unusedVariables false
set_option linter.unusedSimpArgs false
theorem b32 : Go.bits .xor .u32 4294967295 0 = 4294967295 := by decide
theorem b16 : Go.bits .xor .u16 65535 0 = 65535 := by decide
theorem bd {a : Int} (h : (Lit.int .u32 a).wf = true) : 0 ≤ a ∧ a < 4294967296 := by
  have hmin : IntKind.u32.min = 0 := rfl
  have hmax : IntKind.u32.max = 4294967295 := rfl
  simp only [Lit.wf, Bool.and_eq_true, decide_eq_true_eq, hmin, hmax] at h
  omega
theorem less_eq (a b : Int) : serial_Less.f a b = some (decide (1 ≤ (b - a) % 4294967296 ∧ (b - a) % 4294967296 ≤ 2147483647)) := by
  unfold serial_Less.f serial_less_uint32.f
  rw [b32]
  split
  · rename_i h
    rw [Option.bind_some, decide_eq_false (by omega)]
  · rename_i h
    rw [Option.bind_some]
    congr 1
    rw [decide_eq_decide]
    omega
theorem less16_eq (a b : Int) : serial_Less16.f a b = some (decide (1 ≤ (b - a) % 65536 ∧ (b - a) % 65536 ≤ 32767)) := by
  unfold serial_Less16.f serial_less_uint16.f
  rw [b16, IntKind.wrap_u16]
  split
  · rename_i h
    rw [Option.bind_some, decide_eq_false (by omega)]
  · rename_i h
    rw [Option.bind_some]
    congr 1
    rw [decide_eq_decide]
    omega
theorem dist_eq (a b : Int) : serial_Dist.f a b = some ((b - a) % 4294967296) := rfl
theorem between_eq (a x b : Int) : serial_Between.f a x b = some (decide ((x - a) % 4294967296 ≤ (b - a) % 4294967296)) := rfl
theorem less32_eq (a b : Int) : serial_less_uint32.f a b = some (decide (1 ≤ (b - a) % 4294967296 ∧ (b - a) % 4294967296 ≤ 2147483647)) := by
  have h := less_eq a b
  unfold serial_Less.f at h
  cases e : serial_less_uint32.f a b with
  | none => rw [e] at h; cases h
  | some t => rw [e] at h; exact h
theorem max_eq (a b : Int) : serial_Max.f a b = some (if 1 ≤ (b - a) % 4294967296 ∧ (b - a) % 4294967296 ≤ 2147483647 then b else a) := by
  unfold serial_Max.f
  rw [less32_eq, Option.bind_some]
  by_cases h : 1 ≤ (b - a) % 4294967296 ∧ (b - a) % 4294967296 ≤ 2147483647
  · rw [if_pos (decide_eq_true h), if_pos h]
  · rw [if_neg (by simpa using h), if_neg h]
theorem awake_eq : bollardlaw02_awake.f = some true := by
  unfold bollardlaw02_awake.f
  rw [less_eq, less_eq, less16_eq, max_eq, between_eq, dist_eq]
  rfl
theorem iff_bool (p q r : Prop) [Decidable p] [Decidable q] [Decidable r] (h : ¬ (p ↔ q) ↔ r) : ((decide p != decide q) == decide r) = true := by
  by_cases hp : p <;> by_cases hq : q <;> by_cases hr : r <;> simp_all
theorem iff_bool' (p q : Prop) [Decidable p] [Decidable q] (h : p ↔ q) : ((decide p != decide q) == false) = true := by
  by_cases hp : p <;> by_cases hq : q <;> simp_all
theorem SerialOne : bollardlaw02_SerialOne.Pure := by
  intro a b wa wb
  have ha := bd wa; have hb := bd wb
  unfold bollardlaw02_SerialOne.f
  rw [awake_eq]
  simp only [less_eq, less16_eq, Option.bind_some, if_true, IntKind.wrap_u16]
  have e1 : ∀ x : Int, decide (1 ≤ (x - x) % 4294967296 ∧ (x - x) % 4294967296 ≤ 2147483647) = false := fun x => decide_eq_false (by omega)
  have e2 : ∀ x : Int, decide (1 ≤ (x - x) % 65536 ∧ (x - x) % 65536 ≤ 32767) = false := fun x => decide_eq_false (by omega)
  have n0 : ¬ (false = true) := by decide
  simp only [e1, e2, if_neg n0, Bool.not_false]
  have g16 : ¬ a % 65536 = b % 65536 → ((decide (1 ≤ (b % 65536 - a % 65536) % 65536 ∧ (b % 65536 - a % 65536) % 65536 ≤ 32767) != decide (1 ≤ (a % 65536 - b % 65536) % 65536 ∧ (a % 65536 - b % 65536) % 65536 ≤ 32767)) == ((a % 65536 - b % 65536) % 65536 != 32768)) = true := by
    intro h
    have := iff_bool (1 ≤ (b % 65536 - a % 65536) % 65536 ∧ (b % 65536 - a % 65536) % 65536 ≤ 32767) (1 ≤ (a % 65536 - b % 65536) % 65536 ∧ (a % 65536 - b % 65536) % 65536 ≤ 32767) (¬ (a % 65536 - b % 65536) % 65536 = 32768) (by omega)
    rw [← this]; congr 1; rw [Bool.eq_iff_iff]; simp
  have s16 : a % 65536 = b % 65536 → ((decide (1 ≤ (b % 65536 - a % 65536) % 65536 ∧ (b % 65536 - a % 65536) % 65536 ≤ 32767) != decide (1 ≤ (a % 65536 - b % 65536) % 65536 ∧ (a % 65536 - b % 65536) % 65536 ≤ 32767)) == false) = true := by
    intro h
    exact iff_bool' _ _ (by omega)
  by_cases h : a = b
  · rw [if_pos h, if_pos (iff_bool' _ _ (by omega)), if_pos (by rw [h]), if_pos (s16 (by rw [h]))]
  · rw [if_neg h]
    have g32 := iff_bool (1 ≤ (b - a) % 4294967296 ∧ (b - a) % 4294967296 ≤ 2147483647) (1 ≤ (a - b) % 4294967296 ∧ (a - b) % 4294967296 ≤ 2147483647) (¬ (a - b) % 4294967296 = 2147483648) (by omega)
    rw [if_pos (by rw [← g32]; congr 1; rw [Bool.eq_iff_iff]; simp)]
    by_cases h2 : a % 65536 = b % 65536
    · rw [if_pos h2, if_pos (s16 h2)]
    · rw [if_neg h2, if_pos (g16 h2)]
end Go.Proofs.Ytbiolmpoooajpaa.Pure
