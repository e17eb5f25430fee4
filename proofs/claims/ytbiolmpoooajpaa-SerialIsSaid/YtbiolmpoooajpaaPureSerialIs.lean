/- SerialIs: which is less, how far, which is greater and what lies between is what the reference says, for every input. -/
import Derived.Test.YtbiolmpoooajpaaPSerialIsx1
import Derived.Laws.BitsAllLaws
namespace Go.Proofs.Ytbiolmpoooajpaa.Pure
open Go.RowKit Go.Proofs.Ytbiolmpoooajpaa.PSerialIs Go.Proofs.YtbiolmpoooajpaaW.PrintWords Go.Proofs.YtbiolmpoooajpaaW.PrintLast
set_option linter.unusedVariables false
set_option linter.unusedSimpArgs false
theorem b32 : Go.bits .xor .u32 4294967295 0 = 4294967295 := by decide
theorem b16 : Go.bits .xor .u16 65535 0 = 65535 := by decide
theorem bd {a : Int} (h : (Lit.int .u32 a).wf = true) : 0 ≤ a ∧ a < 4294967296 := by
  have hmin : IntKind.u32.min = 0 := rfl
  have hmax : IntKind.u32.max = 4294967295 := rfl
  simp only [Lit.wf, Bool.and_eq_true, decide_eq_true_eq, hmin, hmax] at h
  omega
theorem less_eq (a b : Int) : serial_Less.f a b = some (decide (1 ≤ (b - a) % 4294967296 ∧ (b - a) % 4294967296 ≤ 2147483647)) := by
  unfold serial_Less.f serial_less_uint32.f
  rw [b32]
  split
  · rename_i h
    rw [Option.bind_some, decide_eq_false (by omega)]
  · rename_i h
    rw [Option.bind_some]
    congr 1
    rw [decide_eq_decide]
    omega
theorem less16_eq (a b : Int) : serial_Less16.f a b = some (decide (1 ≤ (b - a) % 65536 ∧ (b - a) % 65536 ≤ 32767)) := by
  unfold serial_Less16.f serial_less_uint16.f
  rw [b16, IntKind.wrap_u16]
  split
  · rename_i h
    rw [Option.bind_some, decide_eq_false (by omega)]
  · rename_i h
    rw [Option.bind_some]
    congr 1
    rw [decide_eq_decide]
    omega
theorem dist_eq (a b : Int) : serial_Dist.f a b = some ((b - a) % 4294967296) := rfl
theorem between_eq (a x b : Int) : serial_Between.f a x b = some (decide ((x - a) % 4294967296 ≤ (b - a) % 4294967296)) := rfl
theorem less32_eq (a b : Int) : serial_less_uint32.f a b = some (decide (1 ≤ (b - a) % 4294967296 ∧ (b - a) % 4294967296 ≤ 2147483647)) := by
  have h := less_eq a b
  unfold serial_Less.f at h
  cases e : serial_less_uint32.f a b with
  | none => rw [e] at h; cases h
  | some t => rw [e] at h; exact h
theorem max_eq (a b : Int) : serial_Max.f a b = some (if 1 ≤ (b - a) % 4294967296 ∧ (b - a) % 4294967296 ≤ 2147483647 then b else a) := by
  unfold serial_Max.f
  rw [less32_eq, Option.bind_some]
  by_cases h : 1 ≤ (b - a) % 4294967296 ∧ (b - a) % 4294967296 ≤ 2147483647
  · rw [if_pos (decide_eq_true h), if_pos h]
  · rw [if_neg (by simpa using h), if_neg h]
theorem awake_eq : bollardlaw02_awake.f = some true := by
  unfold bollardlaw02_awake.f
  rw [less_eq, less_eq, less16_eq, max_eq, between_eq, dist_eq]
  rfl
theorem w64 {n : Int} (h : -9223372036854775808 ≤ n) (h2 : n ≤ 9223372036854775807) : wrap64 n = n := IntWalk.wrap64_in n ⟨h, h2⟩
theorem steps_eq (a b m : Int) (ha : 0 ≤ a ∧ a < m) (hb : 0 ≤ b ∧ b < m) (hm : m ≤ 4294967296) : bollardref02_steps.f (wrap64 a) (wrap64 b) m = some ((b - a) % m) := by
  have e : (b - a) % m = if a ≤ b then b - a else b + m - a := by
    split
    · exact Int.emod_eq_of_lt (by omega) (by omega)
    · rw [← Int.add_emod_right]
      rw [Int.emod_eq_of_lt (by omega) (by omega)]; omega
  rw [e, w64 (n := a) (by omega) (by omega), w64 (n := b) (by omega) (by omega)]
  unfold bollardref02_steps.f
  by_cases h : a ≤ b
  · rw [if_pos (by omega), if_pos h, w64 (by omega) (by omega)]
  · rw [if_neg (by omega), if_neg h, w64 (n := b + m) (by omega) (by omega), w64 (by omega) (by omega)]
theorem rless (a b : Int) (ha : 0 ≤ a ∧ a < 4294967296) (hb : 0 ≤ b ∧ b < 4294967296) : bollardref02_Less.f a b = serial_Less.f a b := by
  unfold bollardref02_Less.f
  rw [steps_eq a b _ ha hb (by omega), less_eq, Option.bind_some]
  split
  · congr 1; rw [decide_eq_decide]; omega
  · rw [decide_eq_false (by omega)]
theorem rless16 (a b : Int) (ha : 0 ≤ a ∧ a < 65536) (hb : 0 ≤ b ∧ b < 65536) : bollardref02_Less16.f a b = serial_Less16.f a b := by
  unfold bollardref02_Less16.f
  rw [steps_eq a b _ ha hb (by omega), less16_eq, Option.bind_some]
  split
  · congr 1; rw [decide_eq_decide]; omega
  · rw [decide_eq_false (by omega)]
theorem rdist (a b : Int) (ha : 0 ≤ a ∧ a < 4294967296) (hb : 0 ≤ b ∧ b < 4294967296) : bollardref02_Dist.f a b = serial_Dist.f a b := by
  unfold bollardref02_Dist.f
  rw [steps_eq a b _ ha hb (by omega), dist_eq, Option.bind_some]
  congr 1; omega
theorem rmax (a b : Int) (ha : 0 ≤ a ∧ a < 4294967296) (hb : 0 ≤ b ∧ b < 4294967296) : bollardref02_Max.f a b = serial_Max.f a b := by
  unfold bollardref02_Max.f serial_Max.f
  rw [rless a b ha hb, less_eq, less32_eq]
theorem rbetween (a x b : Int) (ha : 0 ≤ a ∧ a < 4294967296) (hx : 0 ≤ x ∧ x < 4294967296) (hb : 0 ≤ b ∧ b < 4294967296) : bollardref02_Between.f a x b = serial_Between.f a x b := by
  unfold bollardref02_Between.f
  rw [steps_eq a b _ ha hb (by omega), steps_eq a x _ ha hx (by omega), between_eq]
  rfl
theorem SerialIs : bollardlaw02_SerialIs.Pure := by
  intro a b x wa wb wx
  have ha := bd wa; have hb := bd wb; have hx := bd wx
  have h1 : 0 ≤ IntKind.u16.wrap a ∧ IntKind.u16.wrap a < 65536 := by rw [IntKind.wrap_u16]; omega
  have h2 : 0 ≤ IntKind.u16.wrap b ∧ IntKind.u16.wrap b < 65536 := by rw [IntKind.wrap_u16]; omega
  unfold bollardlaw02_SerialIs.f
  rw [awake_eq, rless a b ha hb, rless16 _ _ h1 h2, rdist a b ha hb, rmax a b ha hb, rbetween a x b ha hx hb]
  simp [less_eq, less16_eq, dist_eq, max_eq, between_eq]
end Go.Proofs.Ytbiolmpoooajpaa.Pure
