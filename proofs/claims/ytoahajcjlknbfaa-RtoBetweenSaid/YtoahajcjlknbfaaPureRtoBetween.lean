/- RtoBetween: the smooth time lies between what it was and the sample, for every input. -/
import Derived.Test.YtoahajcjlknbfaaPRtoBetweenx1
import Derived.Laws.BitsAllLaws
namespace Go.Proofs.Ytoahajcjlknbfaa.Pure
open Go.RowKit Go.Proofs.Ytoahajcjlknbfaa.PRtoBetween Go.Proofs.YtoahajcjlknbfaaW.PrintWords Go.Proofs.YtoahajcjlknbfaaW.PrintLast Go.Proofs.YtoahajcjlknbfaaW.PrintMore
set_option linter.unusedVariables false
set_option linter.unusedSimpArgs false
theorem w64 {n : Int} (h : -9223372036854775808 ≤ n) (h2 : n ≤ 9223372036854775807) : wrap64 n = n := IntWalk.wrap64_in n ⟨h, h2⟩
theorem bd {a : Int} (h : (Lit.int .i64 a).wf = true) : -9223372036854775808 ≤ a ∧ a ≤ 9223372036854775807 := by
  have hmin : IntKind.i64.min = -9223372036854775808 := rfl
  have hmax : IntKind.i64.max = 9223372036854775807 := rfl
  simp only [Lit.wf, Bool.and_eq_true, decide_eq_true_eq, hmin, hmax] at h
  omega
/-- The wait out of what it is to be. -/
def cl (n : Int) : Int := mn (mx n 1000) 60000
theorem cl_eq (n : Int) : mn (mx n 1000) 60000 = cl n := rfl
theorem cl_bd (n : Int) : 1000 ≤ cl n ∧ cl n ≤ 60000 := by unfold cl mn mx; (repeat' split) <;> omega
theorem cl_le (n m : Int) (h : n ≤ m) : cl n ≤ cl m := by unfold cl mn mx; (repeat' split) <;> omega
theorem cl_ge (n m : Int) (h : n ≤ m) : mn n 60000 ≤ cl m := by unfold cl mn mx; (repeat' split) <;> omega
/-- How far two numbers are apart. -/
def ap (a r : Int) : Int := mx (a - r) (r - a)
theorem ap_bd (a r : Int) (ha : 0 ≤ a) (hr : 0 ≤ r) (ha2 : a ≤ 2147483648) (hr2 : r ≤ 2147483648) : 0 ≤ ap a r ∧ ap a r ≤ 2147483648 := by unfold ap mx; split <;> omega
theorem back_in (a b n : Int) (c : Bool) (h : 0 ≤ n ∧ n ≤ 2147483648) : rto_Back.f a b n c = some (a, b, cl (2 * n), c) := by unfold rto_Back.f; rw [if_pos h]; rfl
theorem back_out (a b n : Int) (c : Bool) (h : ¬ (0 ≤ n ∧ n ≤ 2147483648)) : rto_Back.f a b n c = some (a, b, n, c) := by unfold rto_Back.f; rw [if_neg h]
theorem sample_far (a b n r : Int) (c : Bool) (h : r < 0 ∨ r > 1073741824) : rto_Sample.f a b n c r = some (a, b, n, c) := by
  unfold rto_Sample.f
  by_cases h0 : r < 0
  · rw [if_pos h0]
  · rw [if_neg h0, if_pos (by omega)]
theorem sample_bad (a b n r : Int) (c : Bool) (h : ¬ ((0 ≤ a ∧ a ≤ 2147483648) ∧ (0 ≤ b ∧ b ≤ 2147483648) ∧ (0 ≤ n ∧ n ≤ 2147483648))) : rto_Sample.f a b n c r = some (a, b, n, c) := by
  unfold rto_Sample.f
  split
  · rfl
  split
  · rfl
  by_cases ha : 0 ≤ a ∧ a ≤ 2147483648
  · rw [if_pos ha]
    by_cases hb : 0 ≤ b ∧ b ≤ 2147483648
    · rw [if_pos hb, if_neg (fun hn => h ⟨ha, hb, hn⟩)]
    · rw [if_neg hb]
  · rw [if_neg ha]
theorem sample_old (a b n r : Int) (h0 : 0 ≤ r) (h1 : r ≤ 1073741824) (ha : 0 ≤ a ∧ a ≤ 2147483648) (hb : 0 ≤ b ∧ b ≤ 2147483648) (hn : 0 ≤ n ∧ n ≤ 2147483648) :
    rto_Sample.f a b n true r = some ((7 * a + r) / 8, (3 * b + ap a r) / 4, cl ((7 * a + r) / 8 + mx 1 (4 * ((3 * b + ap a r) / 4))), true) := by
  unfold rto_Sample.f
  rw [if_neg (by omega), if_neg (by omega), if_pos ha, if_pos hb, if_pos hn, if_pos rfl]; rfl
theorem sample_new (a b n r : Int) (h0 : 0 ≤ r) (h1 : r ≤ 1073741824) (ha : 0 ≤ a ∧ a ≤ 2147483648) (hb : 0 ≤ b ∧ b ≤ 2147483648) (hn : 0 ≤ n ∧ n ≤ 2147483648) :
    rto_Sample.f a b n false r = some (r, r / 2, cl (r + mx 1 (4 * (r / 2))), true) := by
  unfold rto_Sample.f
  rw [if_neg (by omega), if_neg (by omega), if_pos ha, if_pos hb, if_pos hn, if_neg (by decide)]; rfl
theorem awake_eq : bollardlaw11_awake.f = some true := by decide +kernel
theorem and30 (n : Int) : Go.bits .and .i64 n 1073741823 = n % 1073741824 := by
  have hm : (BitVec.ofInt 64 1073741823).toNat = 2 ^ 30 - 1 := by decide
  have key : (BitVec.ofInt 64 n &&& BitVec.ofInt 64 1073741823).toNat = (n % ((2 ^ 64 : Nat) : Int)).toNat % 2 ^ 30 := by
    rw [BitVec.toNat_and, BitVec.toNat_ofInt, hm, Nat.and_two_pow_sub_one_eq_mod]
  show IntKind.i64.wrap ((BitVec.ofInt 64 n &&& BitVec.ofInt 64 1073741823).toNat : Nat) = n % 1073741824
  rw [key, IntKind.wrap_i64]
  omega
theorem and8 (n : Int) : Go.bits .and .i64 n 255 = n % 256 := by
  have hm : (BitVec.ofInt 64 255).toNat = 2 ^ 8 - 1 := by decide
  have key : (BitVec.ofInt 64 n &&& BitVec.ofInt 64 255).toNat = (n % ((2 ^ 64 : Nat) : Int)).toNat % 2 ^ 8 := by
    rw [BitVec.toNat_and, BitVec.toNat_ofInt, hm, Nat.and_two_pow_sub_one_eq_mod]
  show IntKind.i64.wrap ((BitVec.ofInt 64 n &&& BitVec.ofInt 64 255).toNat : Nat) = n % 256
  rw [key, IntKind.wrap_i64]
  omega
theorem and30_bd (n : Int) : 0 ≤ Go.bits .and .i64 n 1073741823 ∧ Go.bits .and .i64 n 1073741823 ≤ 1073741823 := by rw [and30]; omega
theorem and8_bd (n : Int) : 0 ≤ Go.bits .and .i64 n 255 ∧ Go.bits .and .i64 n 255 ≤ 255 := by rw [and8]; omega
theorem step (a b n r : Int) (c : Bool) (hr : 0 ≤ r ∧ r ≤ 1073741823) (ha : 0 ≤ a ∧ a ≤ 1073741824) (hb : 0 ≤ b ∧ b ≤ 1073741824) (hn : 0 ≤ n ∧ n ≤ 60000) :
    ∃ a' b' n', rto_Sample.f a b n c r = some (a', b', n', true) ∧ (0 ≤ a' ∧ a' ≤ 1073741824) ∧ (0 ≤ b' ∧ b' ≤ 1073741824) ∧ (0 ≤ n' ∧ n' ≤ 60000) ∧ mn a' 60000 ≤ n' ∧
      (c = true → mn a r - 1 ≤ a' ∧ a' ≤ mx a r) ∧ (c = false → a' = r) := by
  cases c with
  | true =>
    have hp2 : 0 ≤ ap a r ∧ ap a r ≤ 1073741824 := by unfold ap mx; split <;> omega
    have hm : 1 ≤ mx 1 (4 * ((3 * b + ap a r) / 4)) := by unfold mx; split <;> omega
    have hc := cl_bd ((7 * a + r) / 8 + mx 1 (4 * ((3 * b + ap a r) / 4)))
    refine ⟨_, _, _, sample_old a b n r hr.1 (by omega) (by omega) (by omega) (by omega), by omega, by omega, by omega, cl_ge _ _ (by omega), fun _ => ?_, (fun h => by cases h)⟩
    unfold mn mx
    constructor <;> split <;> omega
  | false =>
    have hm : 1 ≤ mx 1 (4 * (r / 2)) := by unfold mx; split <;> omega
    have hc := cl_bd (r + mx 1 (4 * (r / 2)))
    exact ⟨_, _, _, sample_new a b n r hr.1 (by omega) (by omega) (by omega) (by omega), by omega, by omega, by omega, cl_ge _ _ (by omega), (fun h => by cases h), fun _ => rfl⟩
theorem loop (l : List Int) (x : Int) (hlen : (l.length : Int) ≤ 200) (d : Nat) :
    ∀ (k : Nat) (i a b n : Int) (c : Bool), 0 ≤ i → i ≤ l.length → (l.length : Int) - i = d → d < k → 0 ≤ a ∧ a ≤ 1073741824 → 0 ≤ b ∧ b ≤ 1073741824 → 0 ≤ n ∧ n ≤ 60000 →
    bollardlaw11_RtoBetween.l0 k l x true i a b n c = some true := by
  induction d with
  | zero =>
    intro k i a b n c i0 i1 hd hk ha hb hn
    obtain ⟨k, rfl⟩ : ∃ m, k = m + 1 := ⟨k - 1, by omega⟩
    have hv := and30_bd x
    obtain ⟨a', b', n', e, ha', hb', hn', hw, h1, h2⟩ := step a b n _ c hv ha hb hn
    simp only [bollardlaw11_RtoBetween.l0]
    rw [if_neg (by omega), e, Option.bind_some]
    generalize Go.bits .and .i64 x 1073741823 = v at hv h1 h2
    cases c with
    | true =>
      obtain ⟨g1, g2⟩ := h1 rfl
      have hmn : -1 ≤ mn a v - 1 ∧ mn a v - 1 ≤ 1073741824 := by unfold mn; split <;> omega
      rw [if_pos rfl, if_pos trivial, w64 (by omega) (by omega), if_pos g1, if_pos g2, decide_eq_true hw]
    | false =>
      rw [if_neg (by decide), if_pos trivial, h2 rfl]; simp
  | succ d ih =>
    intro k i a b n c i0 i1 hd hk ha hb hn
    obtain ⟨k, rfl⟩ : ∃ m, k = m + 1 := ⟨k - 1, by omega⟩
    have hlt : i < (l.length : Int) := by omega
    obtain ⟨a', b', n', e, ha', hb', hn', _, _, _⟩ := step a b n _ c (and30_bd (rd l i)) ha hb hn
    simp only [bollardlaw11_RtoBetween.l0]
    rw [if_pos hlt, if_pos i0, e, Option.bind_some, w64 (by omega) (by omega)]
    exact ih k (i + 1) a' b' n' true (by omega) (by omega) (by omega) (by omega) ha' hb' hn'
theorem RtoBetween : bollardlaw11_RtoBetween.Pure := by
  intro l x _ _ _ _
  refine ⟨l.length + 1, ?_⟩
  unfold bollardlaw11_RtoBetween.f
  rw [awake_eq, Option.bind_some]
  by_cases h : (l.length : Int) > 200
  · rw [if_pos h]
  · rw [if_neg h]
    exact loop l x (by omega) l.length (l.length + 1) 0 0 0 3000 false (by omega) (by omega) (by omega) (by omega) (by omega) (by omega) (by omega)
end Go.Proofs.Ytoahajcjlknbfaa.Pure
