/- RtoBacks: waiting longer again and again is never less and ends at the longest, for every input. -/
import Derived.Test.YtoahajcjlknbfaaPRtoBacksx1
import Derived.Laws.BitsAllLaws
namespace Go.Proofs.Ytoahajcjlknbfaa.Pure
open Go.RowKit Go.Proofs.Ytoahajcjlknbfaa.PRtoBacks Go.Proofs.YtoahajcjlknbfaaW.PrintWords Go.Proofs.YtoahajcjlknbfaaW.PrintLast Go.Proofs.YtoahajcjlknbfaaW.PrintMore
set_option linter.unusedVariables false
set_option linter.unusedSimpArgs false
theorem w64 {n : Int} (h : -9223372036854775808 ≤ n) (h2 : n ≤ 9223372036854775807) : wrap64 n = n := IntWalk.wrap64_in n ⟨h, h2⟩
theorem bd {a : Int} (h : (Lit.int .i64 a).wf = true) : -9223372036854775808 ≤ a ∧ a ≤ 9223372036854775807 := by
  have hmin : IntKind.i64.min = -9223372036854775808 := rfl
  have hmax : IntKind.i64.max = 9223372036854775807 := rfl
  simp only [Lit.wf, Bool.and_eq_true, decide_eq_true_eq, hmin, hmax] at h
  omega
/-- The wait out of what it is to be. -/
def cl (n : Int) : Int := mn (mx n 1000) 60000
theorem cl_eq (n : Int) : mn (mx n 1000) 60000 = cl n := rfl
theorem cl_bd (n : Int) : 1000 ≤ cl n ∧ cl n ≤ 60000 := by unfold cl mn mx; (repeat' split) <;> omega
theorem cl_le (n m : Int) (h : n ≤ m) : cl n ≤ cl m := by unfold cl mn mx; (repeat' split) <;> omega
theorem cl_ge (n m : Int) (h : n ≤ m) : mn n 60000 ≤ cl m := by unfold cl mn mx; (repeat' split) <;> omega
/-- How far two numbers are apart. -/
def ap (a r : Int) : Int := mx (a - r) (r - a)
theorem ap_bd (a r : Int) (ha : 0 ≤ a) (hr : 0 ≤ r) (ha2 : a ≤ 2147483648) (hr2 : r ≤ 2147483648) : 0 ≤ ap a r ∧ ap a r ≤ 2147483648 := by unfold ap mx; split <;> omega
theorem back_in (a b n : Int) (c : Bool) (h : 0 ≤ n ∧ n ≤ 2147483648) : rto_Back.f a b n c = some (a, b, cl (2 * n), c) := by unfold rto_Back.f; rw [if_pos h]; rfl
theorem back_out (a b n : Int) (c : Bool) (h : ¬ (0 ≤ n ∧ n ≤ 2147483648)) : rto_Back.f a b n c = some (a, b, n, c) := by unfold rto_Back.f; rw [if_neg h]
theorem sample_far (a b n r : Int) (c : Bool) (h : r < 0 ∨ r > 1073741824) : rto_Sample.f a b n c r = some (a, b, n, c) := by
  unfold rto_Sample.f
  by_cases h0 : r < 0
  · rw [if_pos h0]
  · rw [if_neg h0, if_pos (by omega)]
theorem sample_bad (a b n r : Int) (c : Bool) (h : ¬ ((0 ≤ a ∧ a ≤ 2147483648) ∧ (0 ≤ b ∧ b ≤ 2147483648) ∧ (0 ≤ n ∧ n ≤ 2147483648))) : rto_Sample.f a b n c r = some (a, b, n, c) := by
  unfold rto_Sample.f
  split
  · rfl
  split
  · rfl
  by_cases ha : 0 ≤ a ∧ a ≤ 2147483648
  · rw [if_pos ha]
    by_cases hb : 0 ≤ b ∧ b ≤ 2147483648
    · rw [if_pos hb, if_neg (fun hn => h ⟨ha, hb, hn⟩)]
    · rw [if_neg hb]
  · rw [if_neg ha]
theorem sample_old (a b n r : Int) (h0 : 0 ≤ r) (h1 : r ≤ 1073741824) (ha : 0 ≤ a ∧ a ≤ 2147483648) (hb : 0 ≤ b ∧ b ≤ 2147483648) (hn : 0 ≤ n ∧ n ≤ 2147483648) :
    rto_Sample.f a b n true r = some ((7 * a + r) / 8, (3 * b + ap a r) / 4, cl ((7 * a + r) / 8 + mx 1 (4 * ((3 * b + ap a r) / 4))), true) := by
  unfold rto_Sample.f
  rw [if_neg (by omega), if_neg (by omega), if_pos ha, if_pos hb, if_pos hn, if_pos rfl]; rfl
theorem sample_new (a b n r : Int) (h0 : 0 ≤ r) (h1 : r ≤ 1073741824) (ha : 0 ≤ a ∧ a ≤ 2147483648) (hb : 0 ≤ b ∧ b ≤ 2147483648) (hn : 0 ≤ n ∧ n ≤ 2147483648) :
    rto_Sample.f a b n false r = some (r, r / 2, cl (r + mx 1 (4 * (r / 2))), true) := by
  unfold rto_Sample.f
  rw [if_neg (by omega), if_neg (by omega), if_pos ha, if_pos hb, if_pos hn, if_neg (by decide)]; rfl
theorem awake_eq : bollardlaw11_awake.f = some true := by decide +kernel
theorem loop (a b : Int) (c : Bool) (d : Nat) :
    ∀ (k i : Nat) (n : Int), 1 ≤ i → i + d = 16 → d < k → 1000 ≤ n ∧ n ≤ 60000 → (n = 60000 ∨ (1000 * 2 ^ (i - 1) : Nat) ≤ n) →
    bollardlaw11_RtoBacks.l0 k true n (i : Int) a b n c = some true := by
  induction d with
  | zero =>
    intro k i n i0 hd hk hn hg
    obtain ⟨k, rfl⟩ : ∃ m, k = m + 1 := ⟨k - 1, by omega⟩
    obtain rfl : i = 16 := by omega
    have e : n = 60000 := by
      rcases hg with h | h
      · exact h
      · have : (1000 * 2 ^ (16 - 1) : Nat) = 32768000 := by decide
        omega
    simp only [bollardlaw11_RtoBacks.l0]
    rw [if_neg (by omega), if_pos trivial, e]; rfl
  | succ d ih =>
    intro k i n i0 hd hk hn hg
    obtain ⟨k, rfl⟩ : ∃ m, k = m + 1 := ⟨k - 1, by omega⟩
    have hc := cl_bd (2 * n)
    have hge : n ≤ cl (2 * n) := by unfold cl mn mx; (repeat' split) <;> omega
    have hnext : cl (2 * n) = 60000 ∨ 2 * n ≤ cl (2 * n) := by unfold cl mn mx; (repeat' split) <;> omega
    simp only [bollardlaw11_RtoBacks.l0]
    rw [if_pos (by omega), back_in a b n c (by omega), Option.bind_some]
    simp only []
    rw [if_neg (by omega), w64 (by omega) (by omega)]
    have ei : (i : Int) + 1 = ((i + 1 : Nat) : Int) := by omega
    rw [ei]
    refine ih k (i + 1) _ (by omega) (by omega) (by omega) hc ?_
    rcases hg with h | h
    · left; rw [h]; rfl
    · rcases hnext with h2 | h2
      · exact .inl h2
      · right
        have e2 : 1000 * 2 ^ (i + 1 - 1) = 2 * (1000 * 2 ^ (i - 1)) := by
          obtain ⟨j, rfl⟩ : ∃ j, i = j + 1 := ⟨i - 1, by omega⟩
          simp only [Nat.add_sub_cancel, Nat.pow_succ]; omega
        rw [e2]; omega
theorem RtoBacks : bollardlaw11_RtoBacks.Pure := by
  intro a b n c _ _ wn
  have hn := bd wn
  refine ⟨18, ?_⟩
  unfold bollardlaw11_RtoBacks.f
  rw [awake_eq, Option.bind_some]
  have out : ∀ k, ¬ (0 ≤ n ∧ n ≤ 2147483648) → bollardlaw11_RtoBacks.j0 (k + 1) true true a b n c = some true := by
    intro k h
    simp only [bollardlaw11_RtoBacks.j0]
    rw [if_pos trivial, if_pos trivial, back_out a b n c h, Option.bind_some]; simp
  by_cases h0 : n < 0
  · rw [if_pos h0]; exact out 17 (by omega)
  · rw [if_neg h0]
    by_cases h1 : n > 2147483648
    · rw [decide_eq_true h1]; exact out 17 (by omega)
    · rw [decide_eq_false h1]
      have hc := cl_bd (2 * n)
      have h1000 : ((1000 * 2 ^ (1 - 1) : Nat) : Int) ≤ cl (2 * n) := hc.1
      have hl := loop a b c 15 16 1 (cl (2 * n)) (by omega) (by omega) (by omega) hc (.inr h1000)
      simp only [bollardlaw11_RtoBacks.j0]
      rw [if_neg (by decide)]
      simp only [bollardlaw11_RtoBacks.l0]
      rw [if_pos (by omega), back_in a b n c (by omega), Option.bind_some]
      simp only []
      rw [if_neg (by omega), w64 (by omega) (by omega)]
      exact hl
end Go.Proofs.Ytoahajcjlknbfaa.Pure
