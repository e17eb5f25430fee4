/- SerialMoves: with the same added to all numbers nothing changes, for every input. -/
import Derived.Test.YtbiolmpoooajpaaPSerialMovesx1
import Derived.Laws.BitsAllLaws
namespace Go.Proofs.Ytbiolmpoooajpaa.Pure
open Go.RowKit Go.Proofs.Ytbiolmpoooajpaa.PSerialMoves Go.Proofs.YtbiolmpoooajpaaW.PrintWords Go.Proofs.YtbiolmpoooajpaaW.PrintLast
set_option linter.unusedVariables false
set_option linter.unusedSimpArgs false
theorem b32 : Go.bits .xor .u32 4294967295 0 = 4294967295 := by decide
theorem b16 : Go.bits .xor .u16 65535 0 = 65535 := by decide
theorem bd {a : Int} (h : (Lit.int .u32 a).wf = true) : 0 ≤ a ∧ a < 4294967296 := by
  have hmin : IntKind.u32.min = 0 := rfl
  have hmax : IntKind.u32.max = 4294967295 := rfl
  simp only [Lit.wf, Bool.and_eq_true, decide_eq_true_eq, hmin, hmax] at h
  omega
theorem less_eq (a b : Int) : serial_Less.f a b = some (decide (1 ≤ (b - a) % 4294967296 ∧ (b - a) % 4294967296 ≤ 2147483647)) := by
  unfold serial_Less.f serial_less_uint32.f
  rw [b32]
  split
  · rename_i h
    rw [Option.bind_some, decide_eq_false (by omega)]
  · rename_i h
    rw [Option.bind_some]
    congr 1
    rw [decide_eq_decide]
    omega
theorem less16_eq (a b : Int) : serial_Less16.f a b = some (decide (1 ≤ (b - a) % 65536 ∧ (b - a) % 65536 ≤ 32767)) := by
  unfold serial_Less16.f serial_less_uint16.f
  rw [b16, IntKind.wrap_u16]
  split
  · rename_i h
    rw [Option.bind_some, decide_eq_false (by omega)]
  · rename_i h
    rw [Option.bind_some]
    congr 1
    rw [decide_eq_decide]
    omega
theorem dist_eq (a b : Int) : serial_Dist.f a b = some ((b - a) % 4294967296) := rfl
theorem between_eq (a x b : Int) : serial_Between.f a x b = some (decide ((x - a) % 4294967296 ≤ (b - a) % 4294967296)) := rfl
theorem less32_eq (a b : Int) : serial_less_uint32.f a b = some (decide (1 ≤ (b - a) % 4294967296 ∧ (b - a) % 4294967296 ≤ 2147483647)) := by
  have h := less_eq a b
  unfold serial_Less.f at h
  cases e : serial_less_uint32.f a b with
  | none => rw [e] at h; cases h
  | some t => rw [e] at h; exact h
theorem max_eq (a b : Int) : serial_Max.f a b = some (if 1 ≤ (b - a) % 4294967296 ∧ (b - a) % 4294967296 ≤ 2147483647 then b else a) := by
  unfold serial_Max.f
  rw [less32_eq, Option.bind_some]
  by_cases h : 1 ≤ (b - a) % 4294967296 ∧ (b - a) % 4294967296 ≤ 2147483647
  · rw [if_pos (decide_eq_true h), if_pos h]
  · rw [if_neg (by simpa using h), if_neg h]
theorem awake_eq : bollardlaw02_awake.f = some true := by
  unfold bollardlaw02_awake.f
  rw [less_eq, less_eq, less16_eq, max_eq, between_eq, dist_eq]
  rfl
theorem SerialMoves : bollardlaw02_SerialMoves.Pure := by
  intro a x b y wa wx wb wy
  have ha := bd wa; have hx := bd wx; have hb := bd wb; have hy := bd wy
  unfold bollardlaw02_SerialMoves.f
  have e1 : ((b + y) % 4294967296 - (a + y) % 4294967296) % 4294967296 = (b - a) % 4294967296 := by omega
  have e2 : ((x + y) % 4294967296 - (a + y) % 4294967296) % 4294967296 = (x - a) % 4294967296 := by omega
  have e3 : (IntKind.u16.wrap ((b + y) % 4294967296) - IntKind.u16.wrap ((a + y) % 4294967296)) % 65536 = (IntKind.u16.wrap b - IntKind.u16.wrap a) % 65536 := by
    simp only [IntKind.wrap_u16]; omega
  rw [awake_eq]
  simp only [less_eq, less16_eq, dist_eq, max_eq, between_eq, e1, e2, e3, Option.bind_some, if_true, beq_self_eq_true]
  rw [if_pos (by split <;> rfl)]
end Go.Proofs.Ytbiolmpoooajpaa.Pure
