/- WindowGrows: what has come makes the window no less and greater by one packet at most; a loss makes it no greater, once, for every input. -/
import Derived.Test.YtjnceigeejdleaaPWindowGrowsx2
import Derived.Laws.BitsAllLaws
namespace Go.Proofs.Ytjnceigeejdleaa.Pure
open Go.RowKit Go.Proofs.Ytjnceigeejdleaa.PWindowGrows Go.Proofs.YtjnceigeejdleaaW.PrintWords Go.Proofs.YtjnceigeejdleaaW.PrintLast Go.Proofs.YtjnceigeejdleaaW.PrintMore
set_option maxRecDepth 100000

theorem w64 {n : Int} (h : -9223372036854775808 ≤ n) (h2 : n ≤ 9223372036854775807) : wrap64 n = n := IntWalk.wrap64_in n ⟨h, h2⟩
theorem bd {a : Int} (h : (Lit.int .i64 a).wf = true) : -9223372036854775808 ≤ a ∧ a ≤ 9223372036854775807 := by
  have hmin : IntKind.i64.min = -9223372036854775808 := rfl
  have hmax : IntKind.i64.max = 9223372036854775807 := rfl
  simp only [Lit.wf, Bool.and_eq_true, decide_eq_true_eq, hmin, hmax] at h
  omega
/-- A state that may be. -/
def Ok (a b c d : Int) : Prop := (1 ≤ d ∧ d ≤ 65536) ∧ (d ≤ a ∧ a ≤ 1073741824) ∧ (0 ≤ b ∧ b ≤ 1073741824) ∧ (0 ≤ c ∧ c ≤ 1073741824)
instance (a b c d : Int) : Decidable (Ok a b c d) := by unfold Ok; infer_instance
theorem may_yes (a b c d x : Int) (e : Bool) (h : Ok a b c d) : window_State_may.f a b c d e x = some true := by rw [may_eq]; exact congrArg some (decide_eq_true h)
theorem may_not (a b c d x : Int) (e : Bool) (h : ¬ Ok a b c d) : window_State_may.f a b c d e x = some false := by rw [may_eq]; exact congrArg some (decide_eq_false h)
theorem awake_eq : bollardlaw12_awake.f = some true := by decide +kernel
theorem start_eq (m : Int) : ∃ v, 1 ≤ v ∧ v ≤ 65536 ∧ window_Start.f m = some (3 * v, 1073741824, 0, v, false, 0) := by
  unfold window_Start.f
  rw [between_eq, Option.bind_some]
  by_cases h : 1 ≤ m ∧ m ≤ 65536
  · refine ⟨m, h.1, h.2, ?_⟩
    rw [if_pos (decide_eq_true h), w64 (by omega) (by omega)]
  · refine ⟨1200, by omega, by omega, ?_⟩
    rw [if_neg (by simpa using h)]
theorem rmay (a b c d x : Int) (e : Bool) : bollardref12_May.f a b c d e x = some (decide (Ok a b c d)) := by
  unfold bollardref12_May.f
  by_cases h : Ok a b c d
  · rw [decide_eq_true h]
    unfold Ok at h
    rw [if_pos (by omega), if_pos (by omega), if_pos (by omega), if_pos (by omega), if_pos (by omega), if_pos (by omega), if_pos (by omega), decide_eq_true (by omega)]
  · rw [decide_eq_false h]
    unfold Ok at h
    (repeat' split) <;> first | rfl | exact congrArg some (decide_eq_false (by omega))
theorem less_any (x y : Int) : ∃ l, serial_Less.f x y = some l := by
  unfold serial_Less.f serial_less_uint32.f
  split
  · exact ⟨_, rfl⟩
  · exact ⟨_, rfl⟩
theorem acked_ok (a b c d x n y : Int) (e f : Bool) (h : Ok a b c d) : ∃ A B C E, window_Acked.f a b c d e x n f y = some (A, B, C, d, E, x) ∧ Ok A B C d ∧ a ≤ A ∧ A ≤ a + d := by
  have h0 := h
  unfold Ok at h0
  have same : ∀ E : Bool, (∃ A B C E', some (a, b, c, d, E, x) = some (A, B, C, d, E', x) ∧ Ok A B C d ∧ a ≤ A ∧ A ≤ a + d) := fun E => ⟨a, b, c, E, rfl, h, by omega, by omega⟩
  unfold window_Acked.f
  rw [may_yes _ _ _ _ _ _ h, between_eq, Option.bind_some, Option.bind_some, if_pos rfl]
  by_cases hn : 0 ≤ n ∧ n ≤ 1073741824
  case neg => rw [decide_eq_false hn, if_neg (by decide)]; exact same e
  rw [decide_eq_true hn, if_pos rfl]
  cases e with
  | true =>
    rw [if_pos rfl]
    by_cases hx : (x != y) = true
    · obtain ⟨l, hl⟩ := less_any x y
      rw [if_pos hx, hl]
      exact same (!l)
    · rw [if_neg hx]; exact same false
  | false =>
    rw [if_neg (by decide)]
    by_cases h1 : 0 < n
    case neg => rw [if_neg h1]; exact same false
    rw [if_pos h1]
    cases f with
    | false => rw [if_neg (by decide)]; exact same false
    | true =>
      rw [if_pos rfl]
      by_cases h2 : a ≤ b
      · rw [if_pos h2]
        refine ⟨_, _, _, _, rfl, ?_, ?_, ?_⟩
        · unfold Ok mn; (repeat' split) <;> omega
        · unfold mn; (repeat' split) <;> omega
        · unfold mn; (repeat' split) <;> omega
      · rw [if_neg h2]
        have p1 : mn 1073741824 (c + n) ≤ 1073741824 := by unfold mn; split <;> omega
        have p2 : 0 ≤ mn 1073741824 (c + n) := by unfold mn; split <;> omega
        generalize mn 1073741824 (c + n) = p at p1 p2 ⊢
        by_cases h3 : a ≤ p
        · rw [if_pos h3]
          refine ⟨_, _, _, _, rfl, ?_, ?_, ?_⟩
          · unfold Ok mn; (repeat' split) <;> omega
          · unfold mn; (repeat' split) <;> omega
          · unfold mn; (repeat' split) <;> omega
        · rw [if_neg h3]
          exact ⟨_, _, _, _, rfl, by unfold Ok; omega, by omega, by omega⟩
theorem thr_bd (a b c d : Int) (h : Ok a b c d) : (mn 1073741824 (mx (a / 2) (4 * d)) ≤ a ∨ mn 1073741824 (mx (a / 2) (4 * d)) ≤ 4 * d) ∧ d ≤ mn 1073741824 (mx (a / 2) (4 * d)) ∧ mn 1073741824 (mx (a / 2) (4 * d)) ≤ 1073741824 := by
  unfold Ok at h
  unfold mn mx
  (repeat' split) <;> omega
theorem lost_ok (a b c d x y : Int) (e : Bool) (h : Ok a b c d) : ∃ A B C X, window_Lost.f a b c d e x y = some (A, B, C, d, true, X) ∧ Ok A B C d ∧ (A ≤ a ∨ A ≤ 4 * d) := by
  have h0 := h
  unfold Ok at h0
  have ht := thr_bd a b c d h
  unfold window_Lost.f
  rw [may_yes _ _ _ _ _ _ h, Option.bind_some, if_pos rfl]
  cases e with
  | true => rw [if_pos rfl]; exact ⟨_, _, _, _, rfl, h, Or.inl (by omega)⟩
  | false =>
    rw [if_neg (by decide)]
    generalize mn 1073741824 (mx (a / 2) (4 * d)) = t at ht ⊢
    exact ⟨_, _, _, _, rfl, by unfold Ok; omega, ht.1⟩
theorem lost_again (a b c d x y : Int) (h : Ok a b c d) : window_Lost.f a b c d true x y = some (a, b, c, d, true, x) := by
  unfold window_Lost.f
  rw [may_yes _ _ _ _ _ _ h, Option.bind_some, if_pos rfl, if_pos rfl]
theorem timeout_ok (a b c d x : Int) (e : Bool) (h : Ok a b c d) : ∃ t, window_Timeout.f a b c d e x = some (d, t, 0, d, false, 0) ∧ Ok d t 0 d := by
  have h0 := h
  unfold Ok at h0
  have ht := thr_bd a b c d h
  unfold window_Timeout.f
  rw [may_yes _ _ _ _ _ _ h, Option.bind_some, if_pos rfl]
  generalize mn 1073741824 (mx (a / 2) (4 * d)) = t at ht ⊢
  exact ⟨t, rfl, by unfold Ok; omega⟩
/-- WindowGrows tells true for every input. -/
theorem WindowGrows : bollardlaw12_WindowGrows.Pure := by
  intro a b c d e x n f y z wa wb wc wd wx wn wy wz
  unfold bollardlaw12_WindowGrows.f bollardlaw12_theirs.f
  rw [awake_eq]
  simp only [Option.bind_some, rmay]
  by_cases hm : Ok a b c d
  case neg => rw [decide_eq_false hm, if_neg (by decide)]
  rw [decide_eq_true hm, if_pos rfl]
  obtain ⟨A, B, C, E, e1, o1, g1, g2⟩ := acked_ok a b c d x n y e f hm
  obtain ⟨A2, B2, C2, X2, e2, o2, g3⟩ := lost_ok a b c d x z e hm
  obtain ⟨t, e3, o3⟩ := timeout_ok a b c d x e hm
  rw [e1, e2, e3]
  simp only [Option.bind_some, lost_again A2 B2 C2 d X2 y o2]
  unfold Ok at hm
  rw [w64 (n := a + d) (by omega) (by omega), w64 (n := 4 * d) (by omega) (by omega)]
  have al : bollardlaw12_alike.f A2 B2 C2 d true X2 A2 B2 C2 d true X2 = some true := by
    unfold bollardlaw12_alike.f
    simp
  rw [al, if_pos trivial, if_pos g1, if_pos g2]
  simp only [Option.bind_some, if_true]
  by_cases h4 : A2 ≤ a
  · rw [if_pos h4]; simp
  · rw [if_neg h4, if_pos (by omega)]; simp

end Go.Proofs.Ytjnceigeejdleaa.Pure
