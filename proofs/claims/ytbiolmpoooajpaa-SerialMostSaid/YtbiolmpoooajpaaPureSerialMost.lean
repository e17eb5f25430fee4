/- SerialMost: the greatest of some numbers, taken one by one, is as far as the farthest, for every input. -/
import Derived.Test.YtbiolmpoooajpaaPSerialMostx1
import Derived.Laws.BitsAllLaws
namespace Go.Proofs.Ytbiolmpoooajpaa.Pure
open Go.RowKit Go.Proofs.Ytbiolmpoooajpaa.PSerialMost Go.Proofs.YtbiolmpoooajpaaW.PrintWords Go.Proofs.YtbiolmpoooajpaaW.PrintLast
set_option linter.unusedVariables false
set_option linter.unusedSimpArgs false
theorem b32 : Go.bits .xor .u32 4294967295 0 = 4294967295 := by decide
theorem b16 : Go.bits .xor .u16 65535 0 = 65535 := by decide
theorem bd {a : Int} (h : (Lit.int .u32 a).wf = true) : 0 ≤ a ∧ a < 4294967296 := by
  have hmin : IntKind.u32.min = 0 := rfl
  have hmax : IntKind.u32.max = 4294967295 := rfl
  simp only [Lit.wf, Bool.and_eq_true, decide_eq_true_eq, hmin, hmax] at h
  omega
theorem less_eq (a b : Int) : serial_Less.f a b = some (decide (1 ≤ (b - a) % 4294967296 ∧ (b - a) % 4294967296 ≤ 2147483647)) := by
  unfold serial_Less.f serial_less_uint32.f
  rw [b32]
  split
  · rename_i h
    rw [Option.bind_some, decide_eq_false (by omega)]
  · rename_i h
    rw [Option.bind_some]
    congr 1
    rw [decide_eq_decide]
    omega
theorem less16_eq (a b : Int) : serial_Less16.f a b = some (decide (1 ≤ (b - a) % 65536 ∧ (b - a) % 65536 ≤ 32767)) := by
  unfold serial_Less16.f serial_less_uint16.f
  rw [b16, IntKind.wrap_u16]
  split
  · rename_i h
    rw [Option.bind_some, decide_eq_false (by omega)]
  · rename_i h
    rw [Option.bind_some]
    congr 1
    rw [decide_eq_decide]
    omega
theorem dist_eq (a b : Int) : serial_Dist.f a b = some ((b - a) % 4294967296) := rfl
theorem between_eq (a x b : Int) : serial_Between.f a x b = some (decide ((x - a) % 4294967296 ≤ (b - a) % 4294967296)) := rfl
theorem less32_eq (a b : Int) : serial_less_uint32.f a b = some (decide (1 ≤ (b - a) % 4294967296 ∧ (b - a) % 4294967296 ≤ 2147483647)) := by
  have h := less_eq a b
  unfold serial_Less.f at h
  cases e : serial_less_uint32.f a b with
  | none => rw [e] at h; cases h
  | some t => rw [e] at h; exact h
theorem max_eq (a b : Int) : serial_Max.f a b = some (if 1 ≤ (b - a) % 4294967296 ∧ (b - a) % 4294967296 ≤ 2147483647 then b else a) := by
  unfold serial_Max.f
  rw [less32_eq, Option.bind_some]
  by_cases h : 1 ≤ (b - a) % 4294967296 ∧ (b - a) % 4294967296 ≤ 2147483647
  · rw [if_pos (decide_eq_true h), if_pos h]
  · rw [if_neg (by simpa using h), if_neg h]
theorem awake_eq : bollardlaw02_awake.f = some true := by
  unfold bollardlaw02_awake.f
  rw [less_eq, less_eq, less16_eq, max_eq, between_eq, dist_eq]
  rfl
theorem and_lt (a : Int) (h0 : 0 ≤ a) (h1 : a < 4294967296) : 0 ≤ Go.bits .and .u32 a 1073741823 ∧ Go.bits .and .u32 a 1073741823 ≤ 1073741823 := by
  have e := u32_and a 1073741823 h0 h1 (by omega) (by omega)
  rw [e]
  have h := Nat.and_le_right (n := a.toNat) (m := (1073741823 : Int).toNat)
  have h2 : (1073741823 : Int).toNat = 1073741823 := rfl
  rw [h2] at h ⊢
  omega
theorem w64 {n : Int} (h : -9223372036854775808 ≤ n) (h2 : n ≤ 9223372036854775807) : wrap64 n = n := IntWalk.wrap64_in n ⟨h, h2⟩
theorem rd_bd (l : List Int) (hl : ∀ x ∈ l, (Lit.int .u32 x).wf = true) (i : Int) (h0 : 0 ≤ i) (h1 : i < l.length) : 0 ≤ rd l i ∧ rd l i < 4294967296 := by
  refine bd (hl _ ?_)
  have hi : i.toNat < l.length := by omega
  unfold rd
  rw [List.getD_eq_getElem?_getD, List.getElem?_eq_getElem hi]
  exact List.getElem_mem hi
theorem loop (a : Int) (ha : 0 ≤ a ∧ a < 4294967296) (l : List Int) (hl : ∀ x ∈ l, (Lit.int .u32 x).wf = true) (hlen : (l.length : Int) ≤ 500) (d : Nat) :
    ∀ (k : Nat) (f i : Int), 0 ≤ f → f ≤ 1073741823 → 0 ≤ i → i ≤ l.length → (l.length : Int) - i = d → d < k →
    bollardlaw02_SerialMost.l0 k a l true ((a + f) % 4294967296) f i = some true := by
  induction d with
  | zero =>
    intro k f i f0 f1 i0 i1 hd hk
    obtain ⟨k, rfl⟩ : ∃ m, k = m + 1 := ⟨k - 1, by omega⟩
    simp only [bollardlaw02_SerialMost.l0]
    rw [if_neg (by omega), if_pos trivial, dist_eq, Option.bind_some]
    congr 1; rw [beq_iff_eq]; omega
  | succ d ih =>
    intro k f i f0 f1 i0 i1 hd hk
    obtain ⟨k, rfl⟩ : ∃ m, k = m + 1 := ⟨k - 1, by omega⟩
    have hlt : i < (l.length : Int) := by omega
    obtain ⟨x0, x1⟩ := rd_bd l hl i i0 hlt
    obtain ⟨m0, m1⟩ := and_lt _ x0 x1
    simp only [bollardlaw02_SerialMost.l0]
    rw [if_pos hlt, if_pos i0]
    generalize Go.bits .and .u32 (rd l i) 1073741823 = m at m0 m1 ⊢
    rw [max_eq, Option.bind_some, w64 (by omega) (by omega)]
    by_cases h : f < m
    · rw [if_pos (by omega)]
      have e : mx f m = m := by unfold mx; rw [if_pos h]
      rw [e]
      exact ih k m (i + 1) m0 m1 (by omega) (by omega) (by omega) (by omega)
    · rw [if_neg (by omega)]
      have e : mx f m = f := by unfold mx; rw [if_neg h]
      rw [e]
      exact ih k f (i + 1) f0 f1 (by omega) (by omega) (by omega) (by omega)
theorem SerialMost : bollardlaw02_SerialMost.Pure := by
  intro a l wa hm hb hl
  have ha := bd wa
  refine ⟨l.length + 1, ?_⟩
  unfold bollardlaw02_SerialMost.f
  rw [awake_eq, Option.bind_some]
  by_cases h : (l.length : Int) > 500
  · rw [if_pos h]
  · rw [if_neg h]
    have e : a = (a + 0) % 4294967296 := by omega
    have := loop a ha l hl (by omega) l.length (l.length + 1) 0 0 (by omega) (by omega) (by omega) (by omega) (by omega) (by omega)
    rw [← e] at this
    exact this
end Go.Proofs.Ytbiolmpoooajpaa.Pure
