/- RtoBounds: behind any samples the wait lies between 1000 and 60000 and no number goes below 0, for every input. -/
import Derived.Test.YtoahajcjlknbfaaPRtoBoundsx1
import Derived.Laws.BitsAllLaws
namespace Go.Proofs.Ytoahajcjlknbfaa.Pure
open Go.RowKit Go.Proofs.Ytoahajcjlknbfaa.PRtoBounds Go.Proofs.YtoahajcjlknbfaaW.PrintWords Go.Proofs.YtoahajcjlknbfaaW.PrintLast Go.Proofs.YtoahajcjlknbfaaW.PrintMore
set_option linter.unusedVariables false
set_option linter.unusedSimpArgs false
theorem w64 {n : Int} (h : -9223372036854775808 ≤ n) (h2 : n ≤ 9223372036854775807) : wrap64 n = n := IntWalk.wrap64_in n ⟨h, h2⟩
theorem bd {a : Int} (h : (Lit.int .i64 a).wf = true) : -9223372036854775808 ≤ a ∧ a ≤ 9223372036854775807 := by
  have hmin : IntKind.i64.min = -9223372036854775808 := rfl
  have hmax : IntKind.i64.max = 9223372036854775807 := rfl
  simp only [Lit.wf, Bool.and_eq_true, decide_eq_true_eq, hmin, hmax] at h
  omega
/-- The wait out of what it is to be. -/
def cl (n : Int) : Int := mn (mx n 1000) 60000
theorem cl_eq (n : Int) : mn (mx n 1000) 60000 = cl n := rfl
theorem cl_bd (n : Int) : 1000 ≤ cl n ∧ cl n ≤ 60000 := by unfold cl mn mx; (repeat' split) <;> omega
theorem cl_le (n m : Int) (h : n ≤ m) : cl n ≤ cl m := by unfold cl mn mx; (repeat' split) <;> omega
theorem cl_ge (n m : Int) (h : n ≤ m) : mn n 60000 ≤ cl m := by unfold cl mn mx; (repeat' split) <;> omega
/-- How far two numbers are apart. -/
def ap (a r : Int) : Int := mx (a - r) (r - a)
theorem ap_bd (a r : Int) (ha : 0 ≤ a) (hr : 0 ≤ r) (ha2 : a ≤ 2147483648) (hr2 : r ≤ 2147483648) : 0 ≤ ap a r ∧ ap a r ≤ 2147483648 := by unfold ap mx; split <;> omega
theorem back_in (a b n : Int) (c : Bool) (h : 0 ≤ n ∧ n ≤ 2147483648) : rto_Back.f a b n c = some (a, b, cl (2 * n), c) := by unfold rto_Back.f; rw [if_pos h]; rfl
theorem back_out (a b n : Int) (c : Bool) (h : ¬ (0 ≤ n ∧ n ≤ 2147483648)) : rto_Back.f a b n c = some (a, b, n, c) := by unfold rto_Back.f; rw [if_neg h]
theorem sample_far (a b n r : Int) (c : Bool) (h : r < 0 ∨ r > 1073741824) : rto_Sample.f a b n c r = some (a, b, n, c) := by
  unfold rto_Sample.f
  by_cases h0 : r < 0
  · rw [if_pos h0]
  · rw [if_neg h0, if_pos (by omega)]
theorem sample_bad (a b n r : Int) (c : Bool) (h : ¬ ((0 ≤ a ∧ a ≤ 2147483648) ∧ (0 ≤ b ∧ b ≤ 2147483648) ∧ (0 ≤ n ∧ n ≤ 2147483648))) : rto_Sample.f a b n c r = some (a, b, n, c) := by
  unfold rto_Sample.f
  split
  · rfl
  split
  · rfl
  by_cases ha : 0 ≤ a ∧ a ≤ 2147483648
  · rw [if_pos ha]
    by_cases hb : 0 ≤ b ∧ b ≤ 2147483648
    · rw [if_pos hb, if_neg (fun hn => h ⟨ha, hb, hn⟩)]
    · rw [if_neg hb]
  · rw [if_neg ha]
theorem sample_old (a b n r : Int) (h0 : 0 ≤ r) (h1 : r ≤ 1073741824) (ha : 0 ≤ a ∧ a ≤ 2147483648) (hb : 0 ≤ b ∧ b ≤ 2147483648) (hn : 0 ≤ n ∧ n ≤ 2147483648) :
    rto_Sample.f a b n true r = some ((7 * a + r) / 8, (3 * b + ap a r) / 4, cl ((7 * a + r) / 8 + mx 1 (4 * ((3 * b + ap a r) / 4))), true) := by
  unfold rto_Sample.f
  rw [if_neg (by omega), if_neg (by omega), if_pos ha, if_pos hb, if_pos hn, if_pos rfl]; rfl
theorem sample_new (a b n r : Int) (h0 : 0 ≤ r) (h1 : r ≤ 1073741824) (ha : 0 ≤ a ∧ a ≤ 2147483648) (hb : 0 ≤ b ∧ b ≤ 2147483648) (hn : 0 ≤ n ∧ n ≤ 2147483648) :
    rto_Sample.f a b n false r = some (r, r / 2, cl (r + mx 1 (4 * (r / 2))), true) := by
  unfold rto_Sample.f
  rw [if_neg (by omega), if_neg (by omega), if_pos ha, if_pos hb, if_pos hn, if_neg (by decide)]; rfl
theorem awake_eq : bollardlaw11_awake.f = some true := by decide +kernel
theorem loop (l : List Int) (hlen : (l.length : Int) ≤ 2000) (d : Nat) :
    ∀ (k : Nat) (i a b n : Int) (c : Bool), 0 ≤ i → i ≤ l.length → (l.length : Int) - i = d → d < k → 0 ≤ a ∧ a ≤ 1073741824 → 0 ≤ b ∧ b ≤ 1073741824 → 1000 ≤ n ∧ n ≤ 60000 →
    bollardlaw11_RtoBounds.l0 k l true i a b n c = some true := by
  induction d with
  | zero =>
    intro k i a b n c i0 i1 hd hk ha hb hn
    obtain ⟨k, rfl⟩ : ∃ m, k = m + 1 := ⟨k - 1, by omega⟩
    simp only [bollardlaw11_RtoBounds.l0]
    rw [if_neg (by omega)]
  | succ d ih =>
    intro k i a b n c i0 i1 hd hk ha hb hn
    obtain ⟨k, rfl⟩ : ∃ m, k = m + 1 := ⟨k - 1, by omega⟩
    have hlt : i < (l.length : Int) := by omega
    have step : ∀ a b n c, 0 ≤ a ∧ a ≤ 1073741824 → 0 ≤ b ∧ b ≤ 1073741824 → 1000 ≤ n ∧ n ≤ 60000 →
        (if n < 1000 then (some false) else (if n > 60000 then (some false) else (if a < 0 then (some false) else (if b < 0 then (some false) else (if a > 1073741824 then (some false) else (if b > 1073741824 then (some false) else (bollardlaw11_RtoBounds.l0 k l true (wrap64 (i + 1)) a b n c))))))) = some true := by
      intro a b n c ha hb hn
      rw [if_neg (by omega), if_neg (by omega), if_neg (by omega), if_neg (by omega), if_neg (by omega), if_neg (by omega), w64 (by omega) (by omega)]
      exact ih k (i + 1) a b n c (by omega) (by omega) (by omega) (by omega) ha hb hn
    simp only [bollardlaw11_RtoBounds.l0]
    rw [if_pos hlt, if_pos i0]
    by_cases hr : rd l i < 0
    · rw [if_pos hr, back_in a b n c (by omega), Option.bind_some]
      exact step _ _ _ _ ha hb (cl_bd _)
    · rw [if_neg hr]
      by_cases hf : rd l i > 1073741824
      · rw [sample_far a b n _ c (.inr hf), Option.bind_some]
        exact step _ _ _ _ ha hb hn
      · generalize rd l i = r at hr hf
        cases c with
        | true =>
          have hp := ap_bd a r ha.1 (by omega) (by omega) (by omega)
          have hp2 : ap a r ≤ 1073741824 := by unfold ap mx; split <;> omega
          have g0 : 0 ≤ (7 * a + r) / 8 ∧ (7 * a + r) / 8 ≤ 1073741824 := by omega
          have g1 : 0 ≤ (3 * b + ap a r) / 4 ∧ (3 * b + ap a r) / 4 ≤ 1073741824 := by omega
          rw [sample_old a b n r (by omega) (by omega) (by omega) (by omega) (by omega), Option.bind_some]
          exact step _ _ _ _ g0 g1 (cl_bd _)
        | false =>
          have g0 : 0 ≤ r ∧ r ≤ 1073741824 := by omega
          have g1 : 0 ≤ r / 2 ∧ r / 2 ≤ 1073741824 := by omega
          rw [sample_new a b n r (by omega) (by omega) (by omega) (by omega) (by omega), Option.bind_some]
          exact step _ _ _ _ g0 g1 (cl_bd _)
theorem RtoBounds : bollardlaw11_RtoBounds.Pure := by
  intro l _ _ _
  refine ⟨l.length + 1, ?_⟩
  unfold bollardlaw11_RtoBounds.f
  rw [awake_eq, Option.bind_some]
  by_cases h : (l.length : Int) > 2000
  · rw [if_pos h]
  · rw [if_neg h]
    exact loop l (by omega) l.length (l.length + 1) 0 0 0 3000 false (by omega) (by omega) (by omega) (by omega) (by omega) (by omega) (by omega)
end Go.Proofs.Ytoahajcjlknbfaa.Pure
