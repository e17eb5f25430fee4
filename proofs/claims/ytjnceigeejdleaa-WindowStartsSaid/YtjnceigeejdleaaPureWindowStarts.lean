/- WindowStarts: at first three packets may fly up to the peer's room, one probe where nothing flies, for every input. -/
import Derived.Test.YtjnceigeejdleaaPWindowStartsx2
import Derived.Laws.BitsAllLaws
namespace Go.Proofs.Ytjnceigeejdleaa.Pure
open Go.RowKit Go.Proofs.Ytjnceigeejdleaa.PWindowStarts Go.Proofs.YtjnceigeejdleaaW.PrintWords Go.Proofs.YtjnceigeejdleaaW.PrintLast Go.Proofs.YtjnceigeejdleaaW.PrintMore
set_option maxRecDepth 100000

theorem w64 {n : Int} (h : -9223372036854775808 ≤ n) (h2 : n ≤ 9223372036854775807) : wrap64 n = n := IntWalk.wrap64_in n ⟨h, h2⟩
theorem bd {a : Int} (h : (Lit.int .i64 a).wf = true) : -9223372036854775808 ≤ a ∧ a ≤ 9223372036854775807 := by
  have hmin : IntKind.i64.min = -9223372036854775808 := rfl
  have hmax : IntKind.i64.max = 9223372036854775807 := rfl
  simp only [Lit.wf, Bool.and_eq_true, decide_eq_true_eq, hmin, hmax] at h
  omega
/-- A state that may be. -/
def Ok (a b c d : Int) : Prop := (1 ≤ d ∧ d ≤ 65536) ∧ (d ≤ a ∧ a ≤ 1073741824) ∧ (0 ≤ b ∧ b ≤ 1073741824) ∧ (0 ≤ c ∧ c ≤ 1073741824)
theorem may_yes (a b c d x : Int) (e : Bool) (h : Ok a b c d) : window_State_may.f a b c d e x = some true := by rw [may_eq]; exact congrArg some (decide_eq_true h)
theorem may_not (a b c d x : Int) (e : Bool) (h : ¬ Ok a b c d) : window_State_may.f a b c d e x = some false := by rw [may_eq]; exact congrArg some (decide_eq_false h)
theorem awake_eq : bollardlaw12_awake.f = some true := by decide +kernel
theorem start_eq (m : Int) : ∃ v, 1 ≤ v ∧ v ≤ 65536 ∧ window_Start.f m = some (3 * v, 1073741824, 0, v, false, 0) := by
  unfold window_Start.f
  rw [between_eq, Option.bind_some]
  by_cases h : 1 ≤ m ∧ m ≤ 65536
  · refine ⟨m, h.1, h.2, ?_⟩
    rw [if_pos (decide_eq_true h), w64 (by omega) (by omega)]
  · refine ⟨1200, by omega, by omega, ?_⟩
    rw [if_neg (by simpa using h)]
theorem and30 (n : Int) : Go.bits .and .i64 n 1073741823 = n % 1073741824 := by
  have hm : (BitVec.ofInt 64 1073741823).toNat = 2 ^ 30 - 1 := by decide
  have key : (BitVec.ofInt 64 n &&& BitVec.ofInt 64 1073741823).toNat = (n % ((2 ^ 64 : Nat) : Int)).toNat % 2 ^ 30 := by
    rw [BitVec.toNat_and, BitVec.toNat_ofInt, hm, Nat.and_two_pow_sub_one_eq_mod]
  show IntKind.i64.wrap ((BitVec.ofInt 64 n &&& BitVec.ofInt 64 1073741823).toNat : Nat) = n % 1073741824
  rw [key, IntKind.wrap_i64]
  omega
theorem and8 (n : Int) : Go.bits .and .i64 n 255 = n % 256 := by
  have hm : (BitVec.ofInt 64 255).toNat = 2 ^ 8 - 1 := by decide
  have key : (BitVec.ofInt 64 n &&& BitVec.ofInt 64 255).toNat = (n % ((2 ^ 64 : Nat) : Int)).toNat % 2 ^ 8 := by
    rw [BitVec.toNat_and, BitVec.toNat_ofInt, hm, Nat.and_two_pow_sub_one_eq_mod]
  show IntKind.i64.wrap ((BitVec.ofInt 64 n &&& BitVec.ofInt 64 255).toNat : Nat) = n % 256
  rw [key, IntKind.wrap_i64]
  omega
theorem and30_bd (n : Int) : 0 ≤ Go.bits .and .i64 n 1073741823 ∧ Go.bits .and .i64 n 1073741823 ≤ 1073741823 := by rw [and30]; omega
theorem and8_bd (n : Int) : 0 ≤ Go.bits .and .i64 n 255 ∧ Go.bits .and .i64 n 255 ≤ 255 := by rw [and8]; omega
theorem room_far (k : Nat) (a b c d x f p : Int) (e : Bool) (h : ¬ (Ok a b c d ∧ 0 ≤ f ∧ 0 ≤ p)) : window_Room.f (k + 1) a b c d e x f p = some 0 := by
  unfold window_Room.f
  by_cases hm : Ok a b c d
  · rw [may_yes _ _ _ _ _ _ hm, Option.bind_some, if_pos rfl]
    by_cases hf : f < 0
    · rw [if_pos hf]; rfl
    · rw [if_neg hf, decide_eq_true (show p < 0 by by_cases hp : p < 0; exact hp; exact absurd ⟨hm, by omega, by omega⟩ h)]; rfl
  · rw [may_not _ _ _ _ _ _ hm, Option.bind_some, if_neg (by decide)]; rfl
theorem room_in (k : Nat) (a b c d x f p : Int) (e : Bool) (h : Ok a b c d) (hf : 0 ≤ f) (hf2 : f ≤ 9223372036854775807) (hp : 0 ≤ p) : window_Room.f (k + 1) a b c d e x f p = some (if f = 0 then mx (mx 0 (mn (a - f) p)) d else mx 0 (mn (a - f) p)) := by
  have ho := h
  unfold Ok at ho
  unfold window_Room.f
  rw [may_yes _ _ _ _ _ _ h, Option.bind_some, if_pos rfl, if_neg (by omega), decide_eq_false (by omega)]
  simp only [window_Room.j0]
  rw [if_neg (by decide), w64 (by omega) (by omega)]
  split <;> rfl
/-- WindowStarts tells true for every input. -/
theorem WindowStarts : bollardlaw12_WindowStarts.Pure := by
  intro a0 a1 a2 w0 w1 w2
  refine ⟨1, ?_⟩
  unfold bollardlaw12_WindowStarts.f
  obtain ⟨v, h1, h2, hs⟩ := start_eq a0
  have hP := and30_bd a1
  have hF := and30_bd a2
  generalize Go.bits .and .i64 a1 1073741823 = P at hP ⊢
  generalize Go.bits .and .i64 a2 1073741823 = F at hF ⊢
  have ho : Ok (3 * v) 1073741824 0 v := by unfold Ok; omega
  have r0 := room_in 0 (3 * v) 1073741824 0 v 0 0 P false ho (by omega) (by omega) (by omega)
  have r1 := room_in 0 (3 * v) 1073741824 0 v 0 F P false ho (by omega) (by omega) (by omega)
  have r2 := room_far 0 (3 * v) 1073741824 0 v 0 (-1 - F) P false (by omega)
  have e1 : wrap64 (-1 - F) = -1 - F := w64 (by omega) (by omega)
  have e2 : wrap64 (3 * v) = 3 * v := w64 (by omega) (by omega)
  have e3 : wrap64 (3 * v - F) = 3 * v - F := w64 (by omega) (by omega)
  rw [awake_eq, hs]
  simp only [Option.bind_some, Nat.zero_add] at r0 r1 r2 ⊢
  rw [r0, r1, e1, r2]
  simp only [Option.bind_some, e2, e3, if_true]
  rw [if_pos (by unfold mx mn; (repeat' split) <;> omega)]
  by_cases hz : F = 0
  · rw [if_pos hz]; rfl
  · rw [if_neg hz, if_neg hz, if_pos rfl]; rfl

end Go.Proofs.Ytjnceigeejdleaa.Pure
