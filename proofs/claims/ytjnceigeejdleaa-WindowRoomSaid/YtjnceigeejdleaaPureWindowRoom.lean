/- WindowRoom: what is under way with the room left is no more than the window or one packet, for every input. -/
import Derived.Test.YtjnceigeejdleaaPWindowRoomx2
import Derived.Laws.BitsAllLaws
namespace Go.Proofs.Ytjnceigeejdleaa.Pure
open Go.RowKit Go.Proofs.Ytjnceigeejdleaa.PWindowRoom Go.Proofs.YtjnceigeejdleaaW.PrintWords Go.Proofs.YtjnceigeejdleaaW.PrintLast Go.Proofs.YtjnceigeejdleaaW.PrintMore
set_option maxRecDepth 100000

theorem w64 {n : Int} (h : -9223372036854775808 ≤ n) (h2 : n ≤ 9223372036854775807) : wrap64 n = n := IntWalk.wrap64_in n ⟨h, h2⟩
theorem bd {a : Int} (h : (Lit.int .i64 a).wf = true) : -9223372036854775808 ≤ a ∧ a ≤ 9223372036854775807 := by
  have hmin : IntKind.i64.min = -9223372036854775808 := rfl
  have hmax : IntKind.i64.max = 9223372036854775807 := rfl
  simp only [Lit.wf, Bool.and_eq_true, decide_eq_true_eq, hmin, hmax] at h
  omega
/-- A state that may be. -/
def Ok (a b c d : Int) : Prop := (1 ≤ d ∧ d ≤ 65536) ∧ (d ≤ a ∧ a ≤ 1073741824) ∧ (0 ≤ b ∧ b ≤ 1073741824) ∧ (0 ≤ c ∧ c ≤ 1073741824)
instance (a b c d : Int) : Decidable (Ok a b c d) := by unfold Ok; infer_instance
theorem may_yes (a b c d x : Int) (e : Bool) (h : Ok a b c d) : window_State_may.f a b c d e x = some true := by rw [may_eq]; exact congrArg some (decide_eq_true h)
theorem may_not (a b c d x : Int) (e : Bool) (h : ¬ Ok a b c d) : window_State_may.f a b c d e x = some false := by rw [may_eq]; exact congrArg some (decide_eq_false h)
theorem awake_eq : bollardlaw12_awake.f = some true := by decide +kernel
theorem start_eq (m : Int) : ∃ v, 1 ≤ v ∧ v ≤ 65536 ∧ window_Start.f m = some (3 * v, 1073741824, 0, v, false, 0) := by
  unfold window_Start.f
  rw [between_eq, Option.bind_some]
  by_cases h : 1 ≤ m ∧ m ≤ 65536
  · refine ⟨m, h.1, h.2, ?_⟩
    rw [if_pos (decide_eq_true h), w64 (by omega) (by omega)]
  · refine ⟨1200, by omega, by omega, ?_⟩
    rw [if_neg (by simpa using h)]
theorem room_far (k : Nat) (a b c d x f p : Int) (e : Bool) (h : ¬ (Ok a b c d ∧ 0 ≤ f ∧ 0 ≤ p)) : window_Room.f (k + 1) a b c d e x f p = some 0 := by
  unfold window_Room.f
  by_cases hm : Ok a b c d
  · rw [may_yes _ _ _ _ _ _ hm, Option.bind_some, if_pos rfl]
    by_cases hf : f < 0
    · rw [if_pos hf]; rfl
    · rw [if_neg hf, decide_eq_true (show p < 0 by by_cases hp : p < 0; exact hp; exact absurd ⟨hm, by omega, by omega⟩ h)]; rfl
  · rw [may_not _ _ _ _ _ _ hm, Option.bind_some, if_neg (by decide)]; rfl
theorem room_in (k : Nat) (a b c d x f p : Int) (e : Bool) (h : Ok a b c d) (hf : 0 ≤ f) (hf2 : f ≤ 9223372036854775807) (hp : 0 ≤ p) : window_Room.f (k + 1) a b c d e x f p = some (if f = 0 then mx (mx 0 (mn (a - f) p)) d else mx 0 (mn (a - f) p)) := by
  have ho := h
  unfold Ok at ho
  unfold window_Room.f
  rw [may_yes _ _ _ _ _ _ h, Option.bind_some, if_pos rfl, if_neg (by omega), decide_eq_false (by omega)]
  simp only [window_Room.j0]
  rw [if_neg (by decide), w64 (by omega) (by omega)]
  split <;> rfl
theorem rmay (a b c d x : Int) (e : Bool) : bollardref12_May.f a b c d e x = some (decide (Ok a b c d)) := by
  unfold bollardref12_May.f
  by_cases h : Ok a b c d
  · rw [decide_eq_true h]
    unfold Ok at h
    rw [if_pos (by omega), if_pos (by omega), if_pos (by omega), if_pos (by omega), if_pos (by omega), if_pos (by omega), if_pos (by omega), decide_eq_true (by omega)]
  · rw [decide_eq_false h]
    unfold Ok at h
    (repeat' split) <;> first | rfl | exact congrArg some (decide_eq_false (by omega))
/-- WindowRoom tells true for every input. -/
theorem WindowRoom : bollardlaw12_WindowRoom.Pure := by
  intro a b c d e x f p wa wb wc wd wx wf wp
  refine ⟨1, ?_⟩
  have bf := bd wf
  have bp := bd wp
  unfold bollardlaw12_WindowRoom.f bollardlaw12_theirs.f
  rw [awake_eq]
  simp only [Option.bind_some, rmay]
  by_cases hm : Ok a b c d
  · rw [decide_eq_true hm]
    simp only [if_true]
    by_cases hf : f < 0
    · rw [room_far 0 _ _ _ _ _ _ _ _ (by omega), Option.bind_some, if_pos hf]; rfl
    · by_cases hp : p < 0
      · rw [room_far 0 _ _ _ _ _ _ _ _ (by omega), Option.bind_some, if_neg hf, decide_eq_true hp]; rfl
      · rw [room_in 0 _ _ _ _ _ _ _ _ hm (by omega) (by omega) (by omega), Option.bind_some, if_neg hf, decide_eq_false hp]
        unfold Ok at hm
        simp only [bollardlaw12_WindowRoom.j0]
        rw [if_neg (by decide), w64 (by omega) (by omega)]
        by_cases hz : f = 0
        · subst hz
          simp only [if_true]
          have q1 : d ≤ mx (mx 0 (mn (a - 0) p)) d := by unfold mx mn; (repeat' split) <;> omega
          have q2 : mx (mx 0 (mn (a - 0) p)) d ≤ mx a d := by unfold mx mn; (repeat' split) <;> omega
          have q3 : mx (mx 0 (mn (a - 0) p)) d ≤ mx p d := by unfold mx mn; (repeat' split) <;> omega
          rw [if_pos q1, if_pos q2, decide_eq_true q3]
        · simp only [if_neg hz]
          have q1 : 0 ≤ mx 0 (mn (a - f) p) := by unfold mx mn; (repeat' split) <;> omega
          have q2 : mx 0 (mn (a - f) p) = 0 ∨ (mx 0 (mn (a - f) p) ≤ a - f ∧ mx 0 (mn (a - f) p) ≤ p) := by unfold mx mn; (repeat' split) <;> omega
          rw [if_pos q1]
          by_cases q3 : mx 0 (mn (a - f) p) = 0
          · rw [if_pos q3, if_pos trivial]
          · rw [if_neg q3]
            rcases q2 with q2 | q2
            · exact absurd q2 q3
            · rw [if_pos trivial, if_pos q2.1, decide_eq_true q2.2]
  · rw [decide_eq_false hm]
    simp only [room_far 0 _ _ _ _ _ _ _ _ (fun h => hm h.1), Option.bind_some]
    rfl

end Go.Proofs.Ytjnceigeejdleaa.Pure
