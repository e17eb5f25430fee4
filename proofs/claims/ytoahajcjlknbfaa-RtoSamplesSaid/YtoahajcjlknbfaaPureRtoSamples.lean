/- RtoSamples: what any sample makes of any state, and what waiting longer makes of it, is what the reference says, for every input. -/
import Derived.Test.YtoahajcjlknbfaaPRtoSamplesx2
import Derived.Laws.BitsAllLaws
namespace Go.Proofs.Ytoahajcjlknbfaa.Pure
open Go.RowKit Go.Proofs.Ytoahajcjlknbfaa.PRtoSamples Go.Proofs.YtoahajcjlknbfaaW.PrintWords Go.Proofs.YtoahajcjlknbfaaW.PrintLast Go.Proofs.YtoahajcjlknbfaaW.PrintMore
set_option linter.unusedVariables false
set_option linter.unusedSimpArgs false
theorem w64 {n : Int} (h : -9223372036854775808 ≤ n) (h2 : n ≤ 9223372036854775807) : wrap64 n = n := IntWalk.wrap64_in n ⟨h, h2⟩
theorem bd {a : Int} (h : (Lit.int .i64 a).wf = true) : -9223372036854775808 ≤ a ∧ a ≤ 9223372036854775807 := by
  have hmin : IntKind.i64.min = -9223372036854775808 := rfl
  have hmax : IntKind.i64.max = 9223372036854775807 := rfl
  simp only [Lit.wf, Bool.and_eq_true, decide_eq_true_eq, hmin, hmax] at h
  omega
/-- The wait out of what it is to be. -/
def cl (n : Int) : Int := mn (mx n 1000) 60000
theorem cl_eq (n : Int) : mn (mx n 1000) 60000 = cl n := rfl
theorem cl_bd (n : Int) : 1000 ≤ cl n ∧ cl n ≤ 60000 := by unfold cl mn mx; (repeat' split) <;> omega
theorem cl_le (n m : Int) (h : n ≤ m) : cl n ≤ cl m := by unfold cl mn mx; (repeat' split) <;> omega
theorem cl_ge (n m : Int) (h : n ≤ m) : mn n 60000 ≤ cl m := by unfold cl mn mx; (repeat' split) <;> omega
/-- How far two numbers are apart. -/
def ap (a r : Int) : Int := mx (a - r) (r - a)
theorem ap_bd (a r : Int) (ha : 0 ≤ a) (hr : 0 ≤ r) (ha2 : a ≤ 2147483648) (hr2 : r ≤ 2147483648) : 0 ≤ ap a r ∧ ap a r ≤ 2147483648 := by unfold ap mx; split <;> omega
theorem back_in (a b n : Int) (c : Bool) (h : 0 ≤ n ∧ n ≤ 2147483648) : rto_Back.f a b n c = some (a, b, cl (2 * n), c) := by unfold rto_Back.f; rw [if_pos h]; rfl
theorem back_out (a b n : Int) (c : Bool) (h : ¬ (0 ≤ n ∧ n ≤ 2147483648)) : rto_Back.f a b n c = some (a, b, n, c) := by unfold rto_Back.f; rw [if_neg h]
theorem sample_far (a b n r : Int) (c : Bool) (h : r < 0 ∨ r > 1073741824) : rto_Sample.f a b n c r = some (a, b, n, c) := by
  unfold rto_Sample.f
  by_cases h0 : r < 0
  · rw [if_pos h0]
  · rw [if_neg h0, if_pos (by omega)]
theorem sample_bad (a b n r : Int) (c : Bool) (h : ¬ ((0 ≤ a ∧ a ≤ 2147483648) ∧ (0 ≤ b ∧ b ≤ 2147483648) ∧ (0 ≤ n ∧ n ≤ 2147483648))) : rto_Sample.f a b n c r = some (a, b, n, c) := by
  unfold rto_Sample.f
  split
  · rfl
  split
  · rfl
  by_cases ha : 0 ≤ a ∧ a ≤ 2147483648
  · rw [if_pos ha]
    by_cases hb : 0 ≤ b ∧ b ≤ 2147483648
    · rw [if_pos hb, if_neg (fun hn => h ⟨ha, hb, hn⟩)]
    · rw [if_neg hb]
  · rw [if_neg ha]
theorem sample_old (a b n r : Int) (h0 : 0 ≤ r) (h1 : r ≤ 1073741824) (ha : 0 ≤ a ∧ a ≤ 2147483648) (hb : 0 ≤ b ∧ b ≤ 2147483648) (hn : 0 ≤ n ∧ n ≤ 2147483648) :
    rto_Sample.f a b n true r = some ((7 * a + r) / 8, (3 * b + ap a r) / 4, cl ((7 * a + r) / 8 + mx 1 (4 * ((3 * b + ap a r) / 4))), true) := by
  unfold rto_Sample.f
  rw [if_neg (by omega), if_neg (by omega), if_pos ha, if_pos hb, if_pos hn, if_pos rfl]; rfl
theorem sample_new (a b n r : Int) (h0 : 0 ≤ r) (h1 : r ≤ 1073741824) (ha : 0 ≤ a ∧ a ≤ 2147483648) (hb : 0 ≤ b ∧ b ≤ 2147483648) (hn : 0 ≤ n ∧ n ≤ 2147483648) :
    rto_Sample.f a b n false r = some (r, r / 2, cl (r + mx 1 (4 * (r / 2))), true) := by
  unfold rto_Sample.f
  rw [if_neg (by omega), if_neg (by omega), if_pos ha, if_pos hb, if_pos hn, if_neg (by decide)]; rfl
theorem awake_eq : bollardlaw11_awake.f = some true := by decide +kernel
theorem rclamp (n : Int) : bollardref11_clamp.f n = some (cl n) := by
  unfold bollardref11_clamp.f cl mn mx
  (repeat' split) <;> first | rfl | omega | (congr 1; omega)
theorem rback (n : Int) : bollardref11_Back.f n = some (if 0 ≤ n ∧ n ≤ 2147483648 then cl (2 * n) else n) := by
  unfold bollardref11_Back.f
  by_cases h0 : n < 0
  · rw [if_pos h0, if_neg (by omega)]
  · rw [if_neg h0]
    by_cases h1 : n > 2147483648
    · rw [if_pos h1, if_neg (by omega)]
    · rw [if_neg h1, w64 (by omega) (by omega), rclamp, Option.bind_some, if_pos (by omega)]
theorem tdiv_pos (x m : Int) (h : 0 ≤ x) : Int.tdiv x m = x / m := Int.tdiv_eq_ediv_of_nonneg h
theorem ref_out (k : Nat) (a b n r : Int) (c : Bool) : bollardref11_Sample.j0 (k + 1) a b n c r true = some (a, b, n, c) := by
  simp only [bollardref11_Sample.j0]; rw [if_pos trivial]
theorem ref_old (k : Nat) (a b n r : Int) (h0 : 0 ≤ r) (h1 : r ≤ 1073741824) (ha : 0 ≤ a ∧ a ≤ 2147483648) (hb : 0 ≤ b ∧ b ≤ 2147483648) :
    bollardref11_Sample.j0 (k + 1) a b n true r false = some ((7 * a + r) / 8, (3 * b + ap a r) / 4, cl ((7 * a + r) / 8 + mx 1 (4 * ((3 * b + ap a r) / 4))), true) := by
  simp only [bollardref11_Sample.j0]
  rw [if_neg (by decide), if_pos trivial]
  have e7 : wrap64 (7 * a) = 7 * a := w64 (by omega) (by omega)
  have e7r : wrap64 (7 * a + r) = 7 * a + r := w64 (by omega) (by omega)
  have e8 : wrap64 (Int.tdiv (7 * a + r) 8) = (7 * a + r) / 8 := by rw [tdiv_pos _ _ (by omega)]; exact w64 (by omega) (by omega)
  have e3 : wrap64 (3 * b) = 3 * b := w64 (by omega) (by omega)
  have ed : wrap64 (a - r) = a - r := w64 (by omega) (by omega)
  have en : wrap64 (-(a - r)) = -(a - r) := w64 (by omega) (by omega)
  have key : ∀ t : Int, 0 ≤ t → t ≤ 2147483648 → (if wrap64 (Int.tdiv (wrap64 (3 * b + t)) 4) = 0 then ((bollardref11_clamp.f (wrap64 ((7 * a + r) / 8 + 1))).bind fun t123 => (some ((7 * a + r) / 8, wrap64 (Int.tdiv (wrap64 (3 * b + t)) 4), t123, true))) else ((bollardref11_clamp.f (wrap64 ((7 * a + r) / 8 + wrap64 (4 * wrap64 (Int.tdiv (wrap64 (3 * b + t)) 4))))).bind fun t124 => (some ((7 * a + r) / 8, wrap64 (Int.tdiv (wrap64 (3 * b + t)) 4), t124, true))))
      = some ((7 * a + r) / 8, (3 * b + t) / 4, cl ((7 * a + r) / 8 + mx 1 (4 * ((3 * b + t) / 4))), true) := by
    intro t t0 t1
    have f1 : wrap64 (3 * b + t) = 3 * b + t := w64 (by omega) (by omega)
    have f2 : wrap64 (Int.tdiv (3 * b + t) 4) = (3 * b + t) / 4 := by rw [tdiv_pos _ _ (by omega)]; exact w64 (by omega) (by omega)
    rw [f1, f2]
    have g0 : 0 ≤ (3 * b + t) / 4 ∧ (3 * b + t) / 4 ≤ 2147483648 := by omega
    generalize (3 * b + t) / 4 = V at g0
    have f3 : wrap64 (4 * V) = 4 * V := w64 (by omega) (by omega)
    rw [f3, rclamp, rclamp, Option.bind_some, Option.bind_some]
    by_cases hV : V = 0
    · have em : mx 1 (4 * V) = 1 := by unfold mx; rw [if_neg (by omega)]
      rw [if_pos hV, em, w64 (n := (7 * a + r) / 8 + 1) (by omega) (by omega)]
    · have em : mx 1 (4 * V) = 4 * V := by unfold mx; rw [if_pos (by omega)]
      rw [if_neg hV, em, w64 (n := (7 * a + r) / 8 + 4 * V) (by omega) (by omega)]
  simp only [e7, e7r, e8, e3, ed, en]
  have hp := ap_bd a r ha.1 h0 ha.2 (by omega)
  by_cases hlt : a - r < 0
  · have e : ap a r = -(a - r) := by unfold ap mx; rw [if_pos (by omega)]; omega
    rw [if_pos hlt, key _ (by omega) (by omega), e]
  · have e : ap a r = a - r := by unfold ap mx; rw [if_neg (by omega)]
    rw [if_neg hlt, key _ (by omega) (by omega), e]
theorem ref_new (k : Nat) (a b n r : Int) (h0 : 0 ≤ r) (h1 : r ≤ 1073741824) :
    bollardref11_Sample.j0 (k + 1) a b n false r false = some (r, r / 2, cl (r + mx 1 (4 * (r / 2))), true) := by
  simp only [bollardref11_Sample.j0]
  have n0 : ¬ (false = true) := by decide
  rw [if_neg n0, if_neg n0]
  have e : wrap64 (Int.tdiv r 2) = r / 2 := by rw [tdiv_pos _ _ h0]; exact w64 (by omega) (by omega)
  rw [e]
  have f3 : wrap64 (4 * (r / 2)) = 4 * (r / 2) := w64 (by omega) (by omega)
  rw [f3, rclamp, rclamp, Option.bind_some, Option.bind_some]
  by_cases hV : r / 2 = 0
  · have em : mx 1 (4 * (r / 2)) = 1 := by unfold mx; rw [if_neg (by omega)]
    rw [if_pos hV, em, w64 (n := r + 1) (by omega) (by omega)]
  · have em : mx 1 (4 * (r / 2)) = 4 * (r / 2) := by unfold mx; rw [if_pos (by omega)]
    rw [if_neg hV, em, w64 (n := r + 4 * (r / 2)) (by omega) (by omega)]
theorem ref_eq (a b n r : Int) (c : Bool) : bollardref11_Sample.f 1 a b n c r = rto_Sample.f a b n c r := by
  unfold bollardref11_Sample.f
  by_cases h0 : r < 0
  · rw [if_pos h0, ref_out, sample_far _ _ _ _ _ (.inl h0)]
  rw [if_neg h0]
  by_cases h1 : r > 1073741824
  · rw [if_pos h1, ref_out, sample_far _ _ _ _ _ (.inr h1)]
  rw [if_neg h1]
  by_cases h : (0 ≤ a ∧ a ≤ 2147483648) ∧ (0 ≤ b ∧ b ≤ 2147483648) ∧ (0 ≤ n ∧ n ≤ 2147483648)
  · obtain ⟨ha, hb, hn⟩ := h
    rw [if_neg (by omega), if_neg (by omega), if_neg (by omega), if_neg (by omega), if_neg (by omega), decide_eq_false (by omega)]
    cases c with
    | true => rw [ref_old 0 a b n r (by omega) (by omega) ha hb, sample_old a b n r (by omega) (by omega) ha hb hn]
    | false => rw [ref_new 0 a b n r (by omega) (by omega), sample_new a b n r (by omega) (by omega) ha hb hn]
  · rw [sample_bad _ _ _ _ _ h]
    by_cases a0 : a < 0
    · rw [if_pos a0, ref_out]
    rw [if_neg a0]
    by_cases a1 : a > 2147483648
    · rw [if_pos a1, ref_out]
    rw [if_neg a1]
    by_cases b0 : b < 0
    · rw [if_pos b0, ref_out]
    rw [if_neg b0]
    by_cases b1 : b > 2147483648
    · rw [if_pos b1, ref_out]
    rw [if_neg b1]
    by_cases n0 : n < 0
    · rw [if_pos n0, ref_out]
    rw [if_neg n0, decide_eq_true (by omega), ref_out]
theorem sample_tot (a b n r : Int) (c : Bool) : ∃ z, rto_Sample.f a b n c r = some z := by
  unfold rto_Sample.f
  (repeat' split) <;> exact ⟨_, rfl⟩
theorem RtoSamples : bollardlaw11_RtoSamples.Pure := by
  intro a b n c r _ _ _ _
  refine ⟨1, ?_⟩
  obtain ⟨z, hz⟩ := sample_tot a b n r c
  have hb : rto_Back.f a b n c = some (a, b, if 0 ≤ n ∧ n ≤ 2147483648 then cl (2 * n) else n, c) := by
    by_cases h : 0 ≤ n ∧ n ≤ 2147483648
    · rw [back_in a b n c h, if_pos h]
    · rw [back_out a b n c h, if_neg h]
  unfold bollardlaw11_RtoSamples.f
  rw [awake_eq, ref_eq, hz, hb, rback]
  simp
end Go.Proofs.Ytoahajcjlknbfaa.Pure
