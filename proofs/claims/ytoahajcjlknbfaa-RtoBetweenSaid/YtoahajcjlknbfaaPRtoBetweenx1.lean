/- The machine side of one law (contracts of functions, or its row), for every input, without conditions; written by a program of this session, wip/mprint.py. -/
import Derived.Test.YtoahajcjlknbfaaPRtoBetweenx0
namespace Go.Proofs.Ytoahajcjlknbfaa.PRtoBetween
open Go.RowKit Go.Proofs.YtoahajcjlknbfaaW.PrintWords Go.Proofs.YtoahajcjlknbfaaW.PrintLast Go.Proofs.YtoahajcjlknbfaaW.PrintMore
attribute [local go_sem] max2_int min2_int max_two min_two max_three min_three max_four min_four   -- for this text's walks alone
set_option linter.unusedVariables false
set_option linter.unusedSimpArgs false

/-! ### rto_right: function 14 -/
def rto_right.f (a0 : Int) : Option (Bool) := if a0 ≥ 0 then (some (decide (a0 ≤ 2147483648))) else (some false)
set_option maxHeartbeats 8000000 in
set_option maxRecDepth 100000 in
theorem rto_right.calls (a0 : Int) (r : Bool) (w : World) (h : rto_right.f a0 = some r) :
    Calls Try.prog 14 #[.int .i64 a0] w fun e w' => e = .returned (.bool r) ∧ Drawn0 w w' := by
  have H : (if a0 ≥ 0 then (some (decide (a0 ≤ 2147483648))) else (some false)) = some r := h
  clear h
  by_cases c2 : a0 ≥ 0
  · rw [if_pos c2] at H
    have c2b0 : decide (0 ≤ a0) = true := decide_eq_true c2
    clear c2
    obtain rfl := Option.some.inj H
    go_enter Try.func14, Try.ntmps14
    go_wp2
    go_ret
    exact ⟨by first | rfl | (simp; done) | (simp [*]; done), by repeat (first | exact Drawn0.refl _ | apply Drawn0.step)⟩
  · rw [if_neg c2] at H
    have c2b0 : decide (0 ≤ a0) = false := decide_eq_false c2
    clear c2
    obtain rfl := Option.some.inj H
    go_enter Try.func14, Try.ntmps14
    go_wp2
    go_ret
    exact ⟨by first | rfl | (simp; done) | (simp [*]; done), by repeat (first | exact Drawn0.refl _ | apply Drawn0.step)⟩

/-! ### rto_apart: function 15 -/
def rto_apart.f (a0 : Int) (a1 : Int) : Option (Int) := some (mx (wrap64 (a0 - a1)) (wrap64 (a1 - a0)))
set_option maxHeartbeats 8000000 in
set_option maxRecDepth 100000 in
theorem rto_apart.calls (a0 : Int) (a1 : Int) (r : Int) (w : World) (h : rto_apart.f a0 a1 = some r) :
    Calls Try.prog 15 #[.int .i64 a0, .int .i64 a1] w fun e w' => e = .returned (.int .i64 r) ∧ Below w.heap.size w w' := by
  have HB := Aside0.mk (Below.refl w.heap.size w)
  have H : (some (mx (wrap64 (a0 - a1)) (wrap64 (a1 - a0)))) = some r := h
  clear h
  obtain ⟨ji3, hji3⟩ : ∃ j_ : Int, (mx (wrap64 (a0 - a1)) (wrap64 (a1 - a0))) = j_ := ⟨_, rfl⟩
  replace H : (some ji3) = some r := by first | (rw [hji3] at H; exact H) | (simp only [hji3] at H ⊢; exact H)
  have hji3_ : (if (wrap64 (a0 - a1)) < (wrap64 (a1 - a0)) then (wrap64 (a1 - a0)) else (wrap64 (a0 - a1))) = ji3 := hji3
  obtain rfl := Option.some.inj H
  go_enter Try.func15, Try.ntmps15
  go_wp2
  go_ret
  exact ⟨by first | rfl | (simp [errW_none, errW_some] <;> rfl) | (simp only [← hji3]; first | rfl | (simp [errW_none, errW_some] <;> rfl)) | (simp [*, errW_none, errW_some] <;> rfl), by repeat (first | (with_reducible first | exact HB.out | apply below_alloc | apply pw_below_drewN | apply below_drew1) | exact HB.out)⟩

-- NOT PRINTED: function 16 (rto_between)

/-! ### rto_Sample: function 9 -/
theorem ret_int {k : IntKind} {a b : Int} (h : a = b) : Ending.returned (.int k a) = .returned (.int k b) := by rw [h]
set_option maxRecDepth 100000 in
set_option maxHeartbeats 2000000 in
theorem btw_close (lo hi n : Int) (b c : Nat) (w : World) (hb : w.cell? ⟨b, 0, none⟩ = some (.int .i64 lo)) (hc : w.cell? ⟨c, 0, none⟩ = some (.int .i64 hi)) :
    Calls Try.prog 18 #[.int .i64 n, .pointer (some ⟨b, 0, none⟩), .pointer (some ⟨c, 0, none⟩)] w fun e w' => e = .returned (.int .i64 (mn (mx n lo) hi)) ∧ w = w' := by
  go_enter Try.func18, Try.ntmps18
  go_wp2
  all_goals
    go_ret
    exact ⟨ret_int (by unfold mn mx; (repeat' split) <;> omega), rfl⟩
set_option maxRecDepth 100000 in
set_option maxHeartbeats 2000000 in
theorem btw_made (lo hi : Int) (w : World) :
    Calls Try.prog 16 #[.int .i64 lo, .int .i64 hi] w fun e w' => e = .returned (.func (.func 18) #[] #[.pointer (some ⟨w.heap.size, 0, none⟩), .pointer (some ⟨w.heap.size + 1, 0, none⟩)]) ∧ (w.alloc (.cells #[.int .i64 lo] 3)).alloc (.cells #[.int .i64 hi] 3) = w' := by
  have hmf : ∀ (fn : Fn) (first cap : Array Value) (w : World), (Instr.makeFunc fn first cap).run Try.prog w = .ok (.func fn first cap) w := fun _ _ _ _ => rfl
  go_enter Try.func16, Try.ntmps16
  go_wp2
  go_ret
  exact ⟨rfl, rfl⟩
theorem right_yes (n : Int) (h0 : 0 ≤ n) (h1 : n ≤ 2147483648) : rto_right.f n = some true := by
  unfold rto_right.f; rw [if_pos h0, decide_eq_true h1]
theorem right_no (n : Int) (h : ¬ (0 ≤ n ∧ n ≤ 2147483648)) : rto_right.f n = some false := by
  unfold rto_right.f; split
  · rw [decide_eq_false (by omega)]
  · rfl
set_option maxRecDepth 100000 in
set_option maxHeartbeats 2000000 in
theorem sample_neg (a b n r : Int) (c : Bool) (w : World) (h0 : r < 0) :
    Calls Try.prog 9 #[.agg #[.int .i64 a, .int .i64 b, .int .i64 n, .bool c], .int .i64 r] w fun e w' => e = .returned (.agg #[.int .i64 a, .int .i64 b, .int .i64 n, .bool c]) ∧ Below w.heap.size w w' := by
  go_enter Try.func9, Try.ntmps9
  go_wp2
  refine bodyPost_ret (v := .agg #[.int .i64 a, .int .i64 b, .int .i64 n, .bool c]) (by simp [results, Try.results9, go_sem]) rfl ⟨rfl, ?_⟩
  repeat (with_reducible first | exact Below.refl _ _ | apply below_alloc | apply pw_below_drewN | apply below_drew1 | refine below_set ?_ (by omega))
set_option maxRecDepth 100000 in
set_option maxHeartbeats 2000000 in
theorem sample_big (a b n r : Int) (c : Bool) (w : World) (h0 : ¬ r < 0) (h1 : 1073741824 < r) :
    Calls Try.prog 9 #[.agg #[.int .i64 a, .int .i64 b, .int .i64 n, .bool c], .int .i64 r] w fun e w' => e = .returned (.agg #[.int .i64 a, .int .i64 b, .int .i64 n, .bool c]) ∧ Below w.heap.size w w' := by
  go_enter Try.func9, Try.ntmps9
  go_wp2
  refine bodyPost_ret (v := .agg #[.int .i64 a, .int .i64 b, .int .i64 n, .bool c]) (by simp [results, Try.results9, go_sem]) rfl ⟨rfl, ?_⟩
  repeat (with_reducible first | exact Below.refl _ _ | apply below_alloc | apply pw_below_drewN | apply below_drew1 | refine below_set ?_ (by omega))
set_option maxRecDepth 100000 in
set_option maxHeartbeats 2000000 in
theorem sample_a (a b n r : Int) (c : Bool) (w : World) (h0 : ¬ r < 0) (h1 : ¬ r > 1073741824) (ha : ¬ (0 ≤ a ∧ a ≤ 2147483648)) :
    Calls Try.prog 9 #[.agg #[.int .i64 a, .int .i64 b, .int .i64 n, .bool c], .int .i64 r] w fun e w' => e = .returned (.agg #[.int .i64 a, .int .i64 b, .int .i64 n, .bool c]) ∧ Below w.heap.size w w' := by
  have g0 : decide (r < 0) = false := decide_eq_false h0
  have g1 : decide (1073741824 < r) = false := decide_eq_false h1
  clear h0 h1
  go_enter Try.func9, Try.ntmps9
  go_wp2_with (first | (go_at_call 14; (with_reducible refine (rto_right.calls a false _ (right_no a ha)).mono ?_); rintro e w' ⟨rfl, ⟨nd, rfl⟩⟩))
  refine bodyPost_ret (v := .agg #[.int .i64 a, .int .i64 b, .int .i64 n, .bool c]) (by simp [results, Try.results9, go_sem]) rfl ⟨rfl, ?_⟩
  repeat (with_reducible first | exact Below.refl _ _ | apply below_alloc | apply pw_below_drewN | apply below_drew1 | refine below_set ?_ (by omega))
set_option maxRecDepth 100000 in
set_option maxHeartbeats 2000000 in
theorem sample_b (a b n r : Int) (c : Bool) (w : World) (h0 : ¬ r < 0) (h1 : ¬ r > 1073741824) (ha : 0 ≤ a ∧ a ≤ 2147483648) (hb : ¬ (0 ≤ b ∧ b ≤ 2147483648)) :
    Calls Try.prog 9 #[.agg #[.int .i64 a, .int .i64 b, .int .i64 n, .bool c], .int .i64 r] w fun e w' => e = .returned (.agg #[.int .i64 a, .int .i64 b, .int .i64 n, .bool c]) ∧ Below w.heap.size w w' := by
  have g0 : decide (r < 0) = false := decide_eq_false h0
  have g1 : decide (1073741824 < r) = false := decide_eq_false h1
  clear h0 h1
  go_enter Try.func9, Try.ntmps9
  go_wp2_with (first | (go_at_call 14; (with_reducible refine (rto_right.calls a true _ (right_yes a ha.1 ha.2)).mono ?_); rintro e w' ⟨rfl, ⟨nd, rfl⟩⟩) | (go_at_call 14; (with_reducible refine (rto_right.calls b false _ (right_no b hb)).mono ?_); rintro e w' ⟨rfl, ⟨nd, rfl⟩⟩))
  refine bodyPost_ret (v := .agg #[.int .i64 a, .int .i64 b, .int .i64 n, .bool c]) (by simp [results, Try.results9, go_sem]) rfl ⟨rfl, ?_⟩
  repeat (with_reducible first | exact Below.refl _ _ | apply below_alloc | apply pw_below_drewN | apply below_drew1 | refine below_set ?_ (by omega))
set_option maxRecDepth 100000 in
set_option maxHeartbeats 2000000 in
theorem sample_n (a b n r : Int) (c : Bool) (w : World) (h0 : ¬ r < 0) (h1 : ¬ r > 1073741824) (ha : 0 ≤ a ∧ a ≤ 2147483648) (hb : 0 ≤ b ∧ b ≤ 2147483648) (hn : ¬ (0 ≤ n ∧ n ≤ 2147483648)) :
    Calls Try.prog 9 #[.agg #[.int .i64 a, .int .i64 b, .int .i64 n, .bool c], .int .i64 r] w fun e w' => e = .returned (.agg #[.int .i64 a, .int .i64 b, .int .i64 n, .bool c]) ∧ Below w.heap.size w w' := by
  have g0 : decide (r < 0) = false := decide_eq_false h0
  have g1 : decide (1073741824 < r) = false := decide_eq_false h1
  clear h0 h1
  go_enter Try.func9, Try.ntmps9
  go_wp2_with (first | (go_at_call 14; (with_reducible refine (rto_right.calls a true _ (right_yes a ha.1 ha.2)).mono ?_); rintro e w' ⟨rfl, ⟨nd, rfl⟩⟩) | (go_at_call 14; (with_reducible refine (rto_right.calls b true _ (right_yes b hb.1 hb.2)).mono ?_); rintro e w' ⟨rfl, ⟨nd, rfl⟩⟩) | (go_at_call 14; (with_reducible refine (rto_right.calls n false _ (right_no n hn)).mono ?_); rintro e w' ⟨rfl, ⟨nd, rfl⟩⟩))
  refine bodyPost_ret (v := .agg #[.int .i64 a, .int .i64 b, .int .i64 n, .bool c]) (by simp [results, Try.results9, go_sem]) rfl ⟨rfl, ?_⟩
  repeat (with_reducible first | exact Below.refl _ _ | apply below_alloc | apply pw_below_drewN | apply below_drew1 | refine below_set ?_ (by omega))
set_option maxRecDepth 100000 in
set_option maxHeartbeats 2000000 in
theorem apart_any (a r t : Int) (w : World) (ha : 0 ≤ a) (ha2 : a ≤ 2147483648) (hr : 0 ≤ r) (hr2 : r ≤ 1073741824) (ht : mx (a - r) (r - a) = t) :
    Calls Try.prog 15 #[.int .i64 a, .int .i64 r] w fun e w' => e = .returned (.int .i64 t) ∧ w = w' := by
  have H := Aside0.mk ht
  clear ht
  go_enter Try.func15, Try.ntmps15
  go_wp2
  all_goals
    go_ret
    exact ⟨ret_int (by rw [← H.out]; unfold mx; (repeat' split) <;> omega), rfl⟩
set_option maxRecDepth 100000 in
set_option maxHeartbeats 2000000 in
theorem sample_old1 (a b n r : Int) (w : World) (t : Int) (h0 : ¬ r < 0) (h1 : ¬ r > 1073741824) (ha : 0 ≤ a ∧ a ≤ 2147483648) (hb : 0 ≤ b ∧ b ≤ 2147483648) (hn : 0 ≤ n ∧ n ≤ 2147483648) (ht : mx (a - r) (r - a) = t) (hp : 1 < 4 * ((3 * b + t) / 4)) :
    Calls Try.prog 9 #[.agg #[.int .i64 a, .int .i64 b, .int .i64 n, .bool true], .int .i64 r] w fun e w' => e = .returned (.agg #[.int .i64 ((7 * a + r) / 8), .int .i64 ((3 * b + t) / 4), .int .i64 (mn (mx ((7 * a + r) / 8 + 4 * ((3 * b + t) / 4)) 1000) 60000), .bool true]) ∧ Below w.heap.size w w' := by
  have g0 : decide (r < 0) = false := decide_eq_false h0
  have g1 : decide (1073741824 < r) = false := decide_eq_false h1
  have k0 : 0 ≤ r := by omega
  have k1 : r ≤ 1073741824 := by omega
  have k2 : 0 ≤ t := by rw [← ht]; unfold mx; split <;> omega
  have k3 : t ≤ 2147483648 := by rw [← ht]; unfold mx; split <;> omega
  have HT := Aside0.mk ht
  clear h0 h1 ht
  go_enter Try.func9, Try.ntmps9
  go_wp2_with (first | (go_at_call 14; (with_reducible refine (rto_right.calls a true _ (right_yes a ha.1 ha.2)).mono ?_); rintro e w' ⟨rfl, ⟨nd, rfl⟩⟩) | (go_at_call 14; (with_reducible refine (rto_right.calls b true _ (right_yes b hb.1 hb.2)).mono ?_); rintro e w' ⟨rfl, ⟨nd, rfl⟩⟩) | (go_at_call 14; (with_reducible refine (rto_right.calls n true _ (right_yes n hn.1 hn.2)).mono ?_); rintro e w' ⟨rfl, ⟨nd, rfl⟩⟩))
  have e1 : IntKind.i64.wrap (3 * b) = 3 * b := IntWalk.i64_in _ ⟨by omega, by omega⟩
  have e2 : IntKind.i64.wrap (3 * b + t) = 3 * b + t := IntWalk.i64_in _ ⟨by omega, by omega⟩
  have e3 : 0 ≤ 3 * b + t := by omega
  go_region_with (first | (go_at_call 15; refine (apart_any a r t _ ha.1 ha.2 k0 k1 HT.out).mono ?_; rintro e w' ⟨rfl, rfl⟩))
  all_goals clear e1 e2 e3
  all_goals
    go_wp2
    have d1 : IntKind.i64.wrap (4 * ((3 * b + t) / 4)) = 4 * ((3 * b + t) / 4) := IntWalk.i64_in _ ⟨by omega, by omega⟩
    have d2 : IntKind.i64.wrap ((7 * a + r) / 8 + 4 * ((3 * b + t) / 4)) = (7 * a + r) / 8 + 4 * ((3 * b + t) / 4) := IntWalk.i64_in _ ⟨by omega, by omega⟩
    go_region_held3 (fun w' => w'.cell? ⟨w.heap.size, 0, none⟩ = some (.int .i64 ((7 * a + r) / 8)) ∧ w'.cell? ⟨w.heap.size, 1, none⟩ = some (.int .i64 ((3 * b + t) / 4)))
      (first | (refine ⟨?_, ?_⟩ <;> (go_simp; done)) | go_keep)
      (first | (go_at_call 16; refine (btw_made 1000 60000 _).mono ?_; rintro e w' ⟨rfl, rfl⟩) | (go_at_call 18; refine (btw_close 1000 60000 _ _ _ _ ?h1 ?h2).mono ?_; (case h1 => (go_simp; done)); (case h2 => (go_simp; done)); rintro e w' ⟨rfl, rfl⟩))
    all_goals
      clear d1 d2
      go_wp2
      refine bodyPost_ret (v := .agg #[.int .i64 ((7 * a + r) / 8), .int .i64 ((3 * b + t) / 4), .int .i64 (mn (mx ((7 * a + r) / 8 + 4 * ((3 * b + t) / 4)) 1000) 60000), .bool true]) (by simp [results, Try.results9, go_sem]) rfl ⟨rfl, ?_⟩
      repeat (with_reducible first | exact Below.refl _ _ | apply below_alloc | apply pw_below_drewN | apply below_drew1 | refine below_set ?_ (by omega))
set_option maxRecDepth 100000 in
set_option maxHeartbeats 2000000 in
theorem sample_new1 (a b n r : Int) (w : World) (h0 : ¬ r < 0) (h1 : ¬ r > 1073741824) (ha : 0 ≤ a ∧ a ≤ 2147483648) (hb : 0 ≤ b ∧ b ≤ 2147483648) (hn : 0 ≤ n ∧ n ≤ 2147483648) (hp : 1 < 4 * (r / 2)) :
    Calls Try.prog 9 #[.agg #[.int .i64 a, .int .i64 b, .int .i64 n, .bool false], .int .i64 r] w fun e w' => e = .returned (.agg #[.int .i64 r, .int .i64 (r / 2), .int .i64 (mn (mx (r + 4 * (r / 2)) 1000) 60000), .bool true]) ∧ Below w.heap.size w w' := by
  have g0 : decide (r < 0) = false := decide_eq_false h0
  have g1 : decide (1073741824 < r) = false := decide_eq_false h1
  have k0 : 0 ≤ r := by omega
  have k1 : r ≤ 1073741824 := by omega
  have k2 : 0 ≤ r / 2 := by omega
  have k3 : r / 2 ≤ 1073741824 := by omega
  clear h0 h1
  go_enter Try.func9, Try.ntmps9
  go_wp2_with (first | (go_at_call 14; (with_reducible refine (rto_right.calls a true _ (right_yes a ha.1 ha.2)).mono ?_); rintro e w' ⟨rfl, ⟨nd, rfl⟩⟩) | (go_at_call 14; (with_reducible refine (rto_right.calls b true _ (right_yes b hb.1 hb.2)).mono ?_); rintro e w' ⟨rfl, ⟨nd, rfl⟩⟩) | (go_at_call 14; (with_reducible refine (rto_right.calls n true _ (right_yes n hn.1 hn.2)).mono ?_); rintro e w' ⟨rfl, ⟨nd, rfl⟩⟩))
  all_goals
    go_wp2
    have d1 : IntKind.i64.wrap (4 * (r / 2)) = 4 * (r / 2) := IntWalk.i64_in _ ⟨by omega, by omega⟩
    have d2 : IntKind.i64.wrap (r + 4 * (r / 2)) = r + 4 * (r / 2) := IntWalk.i64_in _ ⟨by omega, by omega⟩
    go_region_held3 (fun w' => w'.cell? ⟨w.heap.size, 0, none⟩ = some (.int .i64 (r)) ∧ w'.cell? ⟨w.heap.size, 1, none⟩ = some (.int .i64 (r / 2)))
      (first | (refine ⟨?_, ?_⟩ <;> (go_simp; done)) | go_keep)
      (first | (go_at_call 16; refine (btw_made 1000 60000 _).mono ?_; rintro e w' ⟨rfl, rfl⟩) | (go_at_call 18; refine (btw_close 1000 60000 _ _ _ _ ?h1 ?h2).mono ?_; (case h1 => (go_simp; done)); (case h2 => (go_simp; done)); rintro e w' ⟨rfl, rfl⟩))
    all_goals
      clear d1 d2
      go_wp2
      refine bodyPost_ret (v := .agg #[.int .i64 r, .int .i64 (r / 2), .int .i64 (mn (mx (r + 4 * (r / 2)) 1000) 60000), .bool true]) (by simp [results, Try.results9, go_sem]) rfl ⟨rfl, ?_⟩
      repeat (with_reducible first | exact Below.refl _ _ | apply below_alloc | apply pw_below_drewN | apply below_drew1 | refine below_set ?_ (by omega))
set_option maxRecDepth 100000 in
set_option maxHeartbeats 2000000 in
theorem sample_old0 (a b n r : Int) (w : World) (t : Int) (h0 : ¬ r < 0) (h1 : ¬ r > 1073741824) (ha : 0 ≤ a ∧ a ≤ 2147483648) (hb : 0 ≤ b ∧ b ≤ 2147483648) (hn : 0 ≤ n ∧ n ≤ 2147483648) (ht : mx (a - r) (r - a) = t) (hp : ¬ 1 < 4 * ((3 * b + t) / 4)) :
    Calls Try.prog 9 #[.agg #[.int .i64 a, .int .i64 b, .int .i64 n, .bool true], .int .i64 r] w fun e w' => e = .returned (.agg #[.int .i64 ((7 * a + r) / 8), .int .i64 ((3 * b + t) / 4), .int .i64 (mn (mx ((7 * a + r) / 8 + 1) 1000) 60000), .bool true]) ∧ Below w.heap.size w w' := by
  have g0 : decide (r < 0) = false := decide_eq_false h0
  have g1 : decide (1073741824 < r) = false := decide_eq_false h1
  have k0 : 0 ≤ r := by omega
  have k1 : r ≤ 1073741824 := by omega
  have k2 : 0 ≤ t := by rw [← ht]; unfold mx; split <;> omega
  have k3 : t ≤ 2147483648 := by rw [← ht]; unfold mx; split <;> omega
  have HT := Aside0.mk ht
  clear h0 h1 ht
  go_enter Try.func9, Try.ntmps9
  go_wp2_with (first | (go_at_call 14; (with_reducible refine (rto_right.calls a true _ (right_yes a ha.1 ha.2)).mono ?_); rintro e w' ⟨rfl, ⟨nd, rfl⟩⟩) | (go_at_call 14; (with_reducible refine (rto_right.calls b true _ (right_yes b hb.1 hb.2)).mono ?_); rintro e w' ⟨rfl, ⟨nd, rfl⟩⟩) | (go_at_call 14; (with_reducible refine (rto_right.calls n true _ (right_yes n hn.1 hn.2)).mono ?_); rintro e w' ⟨rfl, ⟨nd, rfl⟩⟩))
  have e1 : IntKind.i64.wrap (3 * b) = 3 * b := IntWalk.i64_in _ ⟨by omega, by omega⟩
  have e2 : IntKind.i64.wrap (3 * b + t) = 3 * b + t := IntWalk.i64_in _ ⟨by omega, by omega⟩
  have e3 : 0 ≤ 3 * b + t := by omega
  go_region_with (first | (go_at_call 15; refine (apart_any a r t _ ha.1 ha.2 k0 k1 HT.out).mono ?_; rintro e w' ⟨rfl, rfl⟩))
  all_goals clear e1 e2 e3
  all_goals
    go_wp2
    have d1 : IntKind.i64.wrap (4 * ((3 * b + t) / 4)) = 4 * ((3 * b + t) / 4) := IntWalk.i64_in _ ⟨by omega, by omega⟩
    have d2 : IntKind.i64.wrap ((7 * a + r) / 8 + 1) = (7 * a + r) / 8 + 1 := IntWalk.i64_in _ ⟨by omega, by omega⟩
    go_region_held3 (fun w' => w'.cell? ⟨w.heap.size, 0, none⟩ = some (.int .i64 ((7 * a + r) / 8)) ∧ w'.cell? ⟨w.heap.size, 1, none⟩ = some (.int .i64 ((3 * b + t) / 4)))
      (first | (refine ⟨?_, ?_⟩ <;> (go_simp; done)) | go_keep)
      (first | (go_at_call 16; refine (btw_made 1000 60000 _).mono ?_; rintro e w' ⟨rfl, rfl⟩) | (go_at_call 18; refine (btw_close 1000 60000 _ _ _ _ ?h1 ?h2).mono ?_; (case h1 => (go_simp; done)); (case h2 => (go_simp; done)); rintro e w' ⟨rfl, rfl⟩))
    all_goals
      clear d1 d2
      go_wp2
      refine bodyPost_ret (v := .agg #[.int .i64 ((7 * a + r) / 8), .int .i64 ((3 * b + t) / 4), .int .i64 (mn (mx ((7 * a + r) / 8 + 1) 1000) 60000), .bool true]) (by simp [results, Try.results9, go_sem]) rfl ⟨rfl, ?_⟩
      repeat (with_reducible first | exact Below.refl _ _ | apply below_alloc | apply pw_below_drewN | apply below_drew1 | refine below_set ?_ (by omega))
set_option maxRecDepth 100000 in
set_option maxHeartbeats 2000000 in
theorem sample_new0 (a b n r : Int) (w : World) (h0 : ¬ r < 0) (h1 : ¬ r > 1073741824) (ha : 0 ≤ a ∧ a ≤ 2147483648) (hb : 0 ≤ b ∧ b ≤ 2147483648) (hn : 0 ≤ n ∧ n ≤ 2147483648) (hp : ¬ 1 < 4 * (r / 2)) :
    Calls Try.prog 9 #[.agg #[.int .i64 a, .int .i64 b, .int .i64 n, .bool false], .int .i64 r] w fun e w' => e = .returned (.agg #[.int .i64 r, .int .i64 (r / 2), .int .i64 (mn (mx (r + 1) 1000) 60000), .bool true]) ∧ Below w.heap.size w w' := by
  have g0 : decide (r < 0) = false := decide_eq_false h0
  have g1 : decide (1073741824 < r) = false := decide_eq_false h1
  have k0 : 0 ≤ r := by omega
  have k1 : r ≤ 1073741824 := by omega
  have k2 : 0 ≤ r / 2 := by omega
  have k3 : r / 2 ≤ 1073741824 := by omega
  clear h0 h1
  go_enter Try.func9, Try.ntmps9
  go_wp2_with (first | (go_at_call 14; (with_reducible refine (rto_right.calls a true _ (right_yes a ha.1 ha.2)).mono ?_); rintro e w' ⟨rfl, ⟨nd, rfl⟩⟩) | (go_at_call 14; (with_reducible refine (rto_right.calls b true _ (right_yes b hb.1 hb.2)).mono ?_); rintro e w' ⟨rfl, ⟨nd, rfl⟩⟩) | (go_at_call 14; (with_reducible refine (rto_right.calls n true _ (right_yes n hn.1 hn.2)).mono ?_); rintro e w' ⟨rfl, ⟨nd, rfl⟩⟩))
  all_goals
    go_wp2
    have d1 : IntKind.i64.wrap (4 * (r / 2)) = 4 * (r / 2) := IntWalk.i64_in _ ⟨by omega, by omega⟩
    have d2 : IntKind.i64.wrap (r + 1) = r + 1 := IntWalk.i64_in _ ⟨by omega, by omega⟩
    go_region_held3 (fun w' => w'.cell? ⟨w.heap.size, 0, none⟩ = some (.int .i64 (r)) ∧ w'.cell? ⟨w.heap.size, 1, none⟩ = some (.int .i64 (r / 2)))
      (first | (refine ⟨?_, ?_⟩ <;> (go_simp; done)) | go_keep)
      (first | (go_at_call 16; refine (btw_made 1000 60000 _).mono ?_; rintro e w' ⟨rfl, rfl⟩) | (go_at_call 18; refine (btw_close 1000 60000 _ _ _ _ ?h1 ?h2).mono ?_; (case h1 => (go_simp; done)); (case h2 => (go_simp; done)); rintro e w' ⟨rfl, rfl⟩))
    all_goals
      clear d1 d2
      go_wp2
      refine bodyPost_ret (v := .agg #[.int .i64 r, .int .i64 (r / 2), .int .i64 (mn (mx (r + 1) 1000) 60000), .bool true]) (by simp [results, Try.results9, go_sem]) rfl ⟨rfl, ?_⟩
      repeat (with_reducible first | exact Below.refl _ _ | apply below_alloc | apply pw_below_drewN | apply below_drew1 | refine below_set ?_ (by omega))
def rto_Sample.f (a0_0 : Int) (a0_1 : Int) (a0_2 : Int) (a0_3 : Bool) (a1 : Int) : Option (Int × Int × Int × Bool) :=
  if a1 < 0 then some (a0_0, a0_1, a0_2, a0_3) else if a1 > 1073741824 then some (a0_0, a0_1, a0_2, a0_3) else
  if 0 ≤ a0_0 ∧ a0_0 ≤ 2147483648 then (if 0 ≤ a0_1 ∧ a0_1 ≤ 2147483648 then (if 0 ≤ a0_2 ∧ a0_2 ≤ 2147483648 then
    (if a0_3 = true then some ((7 * a0_0 + a1) / 8, (3 * a0_1 + mx (a0_0 - a1) (a1 - a0_0)) / 4, mn (mx ((7 * a0_0 + a1) / 8 + mx 1 (4 * ((3 * a0_1 + mx (a0_0 - a1) (a1 - a0_0)) / 4))) 1000) 60000, true)
    else some (a1, a1 / 2, mn (mx (a1 + mx 1 (4 * (a1 / 2))) 1000) 60000, true))
  else some (a0_0, a0_1, a0_2, a0_3)) else some (a0_0, a0_1, a0_2, a0_3)) else some (a0_0, a0_1, a0_2, a0_3)
theorem rto_Sample.calls (a0_0 : Int) (a0_1 : Int) (a0_2 : Int) (a0_3 : Bool) (a1 : Int) (r1 : Int) (r2 : Int) (r3 : Int) (r4 : Bool) (w : World) (h : rto_Sample.f a0_0 a0_1 a0_2 a0_3 a1 = some (r1, r2, r3, r4)) :
    Calls Try.prog 9 #[.agg #[.int .i64 a0_0, .int .i64 a0_1, .int .i64 a0_2, .bool a0_3], .int .i64 a1] w fun e w' => e = .returned (.agg #[.int .i64 r1, .int .i64 r2, .int .i64 r3, .bool r4]) ∧ Below w.heap.size w w' := by
  unfold rto_Sample.f at h
  by_cases h0 : a1 < 0
  · rw [if_pos h0] at h
    simp only [Option.some.injEq, Prod.mk.injEq] at h
    obtain ⟨rfl, rfl, rfl, rfl⟩ := h
    exact sample_neg _ _ _ _ _ w h0
  rw [if_neg h0] at h
  by_cases h1 : a1 > 1073741824
  · rw [if_pos h1] at h
    simp only [Option.some.injEq, Prod.mk.injEq] at h
    obtain ⟨rfl, rfl, rfl, rfl⟩ := h
    exact sample_big _ _ _ _ _ w h0 h1
  rw [if_neg h1] at h
  by_cases ha : 0 ≤ a0_0 ∧ a0_0 ≤ 2147483648
  case neg =>
    rw [if_neg ha] at h
    simp only [Option.some.injEq, Prod.mk.injEq] at h
    obtain ⟨rfl, rfl, rfl, rfl⟩ := h
    exact sample_a _ _ _ _ _ w h0 h1 ha
  rw [if_pos ha] at h
  by_cases hb : 0 ≤ a0_1 ∧ a0_1 ≤ 2147483648
  case neg =>
    rw [if_neg hb] at h
    simp only [Option.some.injEq, Prod.mk.injEq] at h
    obtain ⟨rfl, rfl, rfl, rfl⟩ := h
    exact sample_b _ _ _ _ _ w h0 h1 ha hb
  rw [if_pos hb] at h
  by_cases hn : 0 ≤ a0_2 ∧ a0_2 ≤ 2147483648
  case neg =>
    rw [if_neg hn] at h
    simp only [Option.some.injEq, Prod.mk.injEq] at h
    obtain ⟨rfl, rfl, rfl, rfl⟩ := h
    exact sample_n _ _ _ _ _ w h0 h1 ha hb hn
  rw [if_pos hn] at h
  cases a0_3 with
  | true =>
    rw [if_pos rfl] at h
    simp only [Option.some.injEq, Prod.mk.injEq] at h
    obtain ⟨rfl, rfl, rfl, rfl⟩ := h
    by_cases hp : 1 < 4 * ((3 * a0_1 + mx (a0_0 - a1) (a1 - a0_0)) / 4)
    · have e : mx 1 (4 * ((3 * a0_1 + mx (a0_0 - a1) (a1 - a0_0)) / 4)) = 4 * ((3 * a0_1 + mx (a0_0 - a1) (a1 - a0_0)) / 4) := by
        generalize (3 * a0_1 + mx (a0_0 - a1) (a1 - a0_0)) / 4 = V at hp
        unfold mx; rw [if_pos hp]
      rw [e]
      exact sample_old1 _ _ _ _ w _ h0 h1 ha hb hn rfl hp
    · have e : mx 1 (4 * ((3 * a0_1 + mx (a0_0 - a1) (a1 - a0_0)) / 4)) = 1 := by
        generalize (3 * a0_1 + mx (a0_0 - a1) (a1 - a0_0)) / 4 = V at hp
        unfold mx; rw [if_neg hp]
      rw [e]
      exact sample_old0 _ _ _ _ w _ h0 h1 ha hb hn rfl hp
  | false =>
    rw [if_neg (by decide)] at h
    simp only [Option.some.injEq, Prod.mk.injEq] at h
    obtain ⟨rfl, rfl, rfl, rfl⟩ := h
    by_cases hp : 1 < 4 * (a1 / 2)
    · have e : mx 1 (4 * (a1 / 2)) = 4 * (a1 / 2) := by unfold mx; rw [if_pos hp]
      rw [e]
      exact sample_new1 _ _ _ _ w h0 h1 ha hb hn hp
    · have e : mx 1 (4 * (a1 / 2)) = 1 := by unfold mx; rw [if_neg hp]
      rw [e]
      exact sample_new0 _ _ _ _ w h0 h1 ha hb hn hp


/-! ### rto_Back: function 11 -/
set_option maxRecDepth 100000 in
set_option maxHeartbeats 2000000 in
theorem back_yes (a b n : Int) (c : Bool) (w : World) (h0 : 0 ≤ n) (h1 : n ≤ 2147483648) :
    Calls Try.prog 11 #[.agg #[.int .i64 a, .int .i64 b, .int .i64 n, .bool c]] w fun e w' => e = .returned (.agg #[.int .i64 a, .int .i64 b, .int .i64 (mn (mx (2 * n) 1000) 60000), .bool c]) ∧ Below w.heap.size w w' := by
  go_enter Try.func11, Try.ntmps11
  go_wp2_with (first | (go_at_call 14; (with_reducible refine (rto_right.calls n true _ (right_yes n h0 h1)).mono ?_); rintro e w' ⟨rfl, ⟨nd, rfl⟩⟩))
  go_region_with (first | (go_at_call 16; refine (btw_made 1000 60000 _).mono ?_; rintro e w' ⟨rfl, rfl⟩) | (go_at_call 18; refine (btw_close 1000 60000 _ _ _ _ ?h1 ?h2).mono ?_; (case h1 => (go_simp; done)); (case h2 => (go_simp; done)); rintro e w' ⟨rfl, rfl⟩))
  all_goals
    go_wp2
    refine bodyPost_ret (v := .agg #[.int .i64 a, .int .i64 b, .int .i64 (mn (mx (2 * n) 1000) 60000), .bool c]) (by simp [results, Try.results11, go_sem]) rfl ⟨rfl, ?_⟩
    repeat (with_reducible first | exact Below.refl _ _ | apply below_alloc | apply pw_below_drewN | apply below_drew1 | refine below_set ?_ (by omega))
set_option maxRecDepth 100000 in
set_option maxHeartbeats 2000000 in
theorem back_no (a b n : Int) (c : Bool) (w : World) (h : ¬ (0 ≤ n ∧ n ≤ 2147483648)) :
    Calls Try.prog 11 #[.agg #[.int .i64 a, .int .i64 b, .int .i64 n, .bool c]] w fun e w' => e = .returned (.agg #[.int .i64 a, .int .i64 b, .int .i64 n, .bool c]) ∧ Below w.heap.size w w' := by
  go_enter Try.func11, Try.ntmps11
  go_wp2_with (first | (go_at_call 14; (with_reducible refine (rto_right.calls n false _ (right_no n h)).mono ?_); rintro e w' ⟨rfl, ⟨nd, rfl⟩⟩))
  refine bodyPost_ret (v := .agg #[.int .i64 a, .int .i64 b, .int .i64 n, .bool c]) (by simp [results, Try.results11, go_sem]) rfl ⟨rfl, ?_⟩
  repeat (with_reducible first | exact Below.refl _ _ | apply below_alloc | apply pw_below_drewN | apply below_drew1 | refine below_set ?_ (by omega))
def rto_Back.f (a0_0 : Int) (a0_1 : Int) (a0_2 : Int) (a0_3 : Bool) : Option (Int × Int × Int × Bool) :=
  if 0 ≤ a0_2 ∧ a0_2 ≤ 2147483648 then some (a0_0, a0_1, mn (mx (2 * a0_2) 1000) 60000, a0_3) else some (a0_0, a0_1, a0_2, a0_3)
theorem rto_Back.calls (a0_0 : Int) (a0_1 : Int) (a0_2 : Int) (a0_3 : Bool) (r1 : Int) (r2 : Int) (r3 : Int) (r4 : Bool) (w : World) (h : rto_Back.f a0_0 a0_1 a0_2 a0_3 = some (r1, r2, r3, r4)) :
    Calls Try.prog 11 #[.agg #[.int .i64 a0_0, .int .i64 a0_1, .int .i64 a0_2, .bool a0_3]] w fun e w' => e = .returned (.agg #[.int .i64 r1, .int .i64 r2, .int .i64 r3, .bool r4]) ∧ Below w.heap.size w w' := by
  unfold rto_Back.f at h
  by_cases hn : 0 ≤ a0_2 ∧ a0_2 ≤ 2147483648
  · rw [if_pos hn] at h
    simp only [Option.some.injEq, Prod.mk.injEq] at h
    obtain ⟨rfl, rfl, rfl, rfl⟩ := h
    exact back_yes _ _ _ _ w hn.1 hn.2
  · rw [if_neg hn] at h
    simp only [Option.some.injEq, Prod.mk.injEq] at h
    obtain ⟨rfl, rfl, rfl, rfl⟩ := h
    exact back_no _ _ _ _ w hn


/-! ### rto_Start: function 13 -/
def rto_Start.f  : Option (Int × Int × Int × Bool) := some (0, 0, 3000, false)
set_option maxHeartbeats 8000000 in
set_option maxRecDepth 100000 in
theorem rto_Start.calls  (r1 : Int) (r2 : Int) (r3 : Int) (r4 : Bool) (w : World) (h : rto_Start.f  = some (r1, r2, r3, r4)) :
    Calls Try.prog 13 #[] w fun e w' => e = .returned (.agg #[.int .i64 r1, .int .i64 r2, .int .i64 r3, .bool r4]) ∧ Below w.heap.size w w' := by
  have hu23 := Try.underlying23
  have HB := Aside0.mk (Below.refl w.heap.size w)
  have H : (some (0, 0, 3000, false)) = some (r1, r2, r3, r4) := h
  clear h
  simp only [Option.some.injEq, Prod.mk.injEq] at H
  obtain ⟨rfl, rfl, rfl, rfl⟩ := H
  go_enter Try.func13, Try.ntmps13
  go_wp2_with (first | ((with_reducible refine gate_dst (N := 0) rfl ?_); refine box_event ?hg (N := 0) ?hd (cs := #[.int .i64 0, .int .i64 0, .int .i64 0, .bool false]) (t := 23) ?hr ?_; (case hd => rfl); (case hg => rfl); (case hr => first | (go_simp; done) | (go_simp; rfl)); intro gb101 hg w1 hbox hb; have n0_ := Aside0.mk (below_step (by repeat (first | (with_reducible first | exact HB.out | apply below_alloc | apply pw_below_drewN | apply below_drew1) | exact HB.out)) hb); have n1_ := Aside0.mk (hbox); have n2_ := Aside0.mk ((by rw [hg]; exact (below_size (by repeat (first | (with_reducible first | exact HB.out | apply below_alloc | apply pw_below_drewN | apply below_drew1) | exact HB.out))) : w.heap.size ≤ gb101)); have n3_ := Aside0.mk ((by rw [hg]; exact (below_size (by repeat (first | (with_reducible first | exact HB.out | apply below_alloc | apply pw_below_drewN | apply below_drew1) | exact HB.out))) : w.heap.size ≤ gb101)); clear HB; have HB := n0_; have BK101 := n1_; have GW101 := n2_; have GE101 := n3_; clear n0_ n1_ n2_ n3_; clear hb hbox hg; have hcz2_0 : w1.cell? ⟨gb101, 0, none⟩ = some (.int .i64 0) := (blk_cell BK101.out 0).trans rfl; have hcz2_1 : w1.cell? ⟨gb101, 1, none⟩ = some (.int .i64 0) := (blk_cell BK101.out 1).trans rfl; have hcz2_2 : w1.cell? ⟨gb101, 2, none⟩ = some (.int .i64 0) := (blk_cell BK101.out 2).trans rfl; have hcz2_3 : w1.cell? ⟨gb101, 3, none⟩ = some (.bool false) := (blk_cell BK101.out 3).trans rfl; have hfz2_0 := blk_frozen BK101.out 0; have hfz2_1 := blk_frozen BK101.out 1; have hfz2_2 := blk_frozen BK101.out 2; have hfz2_3 := blk_frozen BK101.out 3))
  refine bodyPost_ret (results_cell_row rfl _ _ gb101 23 #[.int .i64 0, .int .i64 0, .int .i64 3000, .bool false] (0, 0) _ rfl (by (with_reducible repeat (first | refine blk_drewN ?_ _ | refine blk_drew ?_ | refine blk_alloc ?_ _)); refine blk_put (cs := #[.int .i64 0, .int .i64 0, .int .i64 3000, .bool false]) ?_ 3 _ rfl; (with_reducible repeat (first | refine blk_drewN ?_ _ | refine blk_drew ?_ | refine blk_alloc ?_ _)); refine blk_put (cs := #[.int .i64 0, .int .i64 0, .int .i64 0, .bool false]) ?_ 2 _ rfl; (with_reducible repeat (first | refine blk_drewN ?_ _ | refine blk_drew ?_ | refine blk_alloc ?_ _)); refine blk_put (cs := #[.int .i64 0, .int .i64 0, .int .i64 0, .bool false]) ?_ 1 _ rfl; (with_reducible repeat (first | refine blk_drewN ?_ _ | refine blk_drew ?_ | refine blk_alloc ?_ _)); refine blk_put (cs := #[.int .i64 0, .int .i64 0, .int .i64 0, .bool false]) ?_ 0 _ rfl; (with_reducible repeat (first | refine blk_drewN ?_ _ | refine blk_drew ?_ | refine blk_alloc ?_ _)); exact BK101.out) Try.underlying23 rfl (by kernel_rfl)) rfl ?_
  exact ⟨by first | rfl | (simp [errW_none, errW_some] <;> rfl) | (simp [*, errW_none, errW_some] <;> rfl), by repeat (first | (with_reducible first | exact HB.out | apply below_alloc | apply pw_below_drewN | apply below_drew1 | refine below_set ?_ GE101.out) | exact HB.out)⟩

/-! ### bollardlaw11_awake: function 8 -/
def bollardlaw11_awake.f  : Option (Bool) := (rto_Start.f).bind fun bt102 => ((rto_Sample.f bt102.1 bt102.2.1 bt102.2.2.1 bt102.2.2.2 100).bind fun bt106 => ((rto_Start.f).bind fun bt111 => (if bt111.2.2.1 = 3000 then (if bt106.1 = 100 then (if bt106.2.1 = 50 then (if bt106.2.2.1 = 1000 then (if bt106.2.2.2 = true then ((rto_Start.f).bind fun bt115 => ((rto_Back.f bt115.1 bt115.2.1 bt115.2.2.1 bt115.2.2.2).bind fun bt119 => (some (bt119.2.2.1 == 6000)))) else (some false)) else (some false)) else (some false)) else (some false)) else (some false))))
set_option maxHeartbeats 8000000 in
set_option maxRecDepth 100000 in
theorem bollardlaw11_awake.calls  (r : Bool) (w : World) (h : bollardlaw11_awake.f  = some r) :
    Calls Try.prog 8 #[] w fun e w' => e = .returned (.bool r) ∧ Below w.heap.size w w' := by
  have hu23 := Try.underlying23
  have hfl23_2 : ∀ (c0 c1 c2 c3 : Value) (w : World), (Instr.field 23 (.agg #[c0, c1, c2, c3]) 2).run Try.prog w = .ok (c2) w := fun _ _ _ _ _ => by kernel_rfl
  have HB := Aside0.mk (Below.refl w.heap.size w)
  have H : ((rto_Start.f).bind fun bt102 => ((rto_Sample.f bt102.1 bt102.2.1 bt102.2.2.1 bt102.2.2.2 100).bind fun bt106 => ((rto_Start.f).bind fun bt111 => (if bt111.2.2.1 = 3000 then (if bt106.1 = 100 then (if bt106.2.1 = 50 then (if bt106.2.2.1 = 1000 then (if bt106.2.2.2 = true then ((rto_Start.f).bind fun bt115 => ((rto_Back.f bt115.1 bt115.2.1 bt115.2.2.1 bt115.2.2.2).bind fun bt119 => (some (bt119.2.2.1 == 6000)))) else (some false)) else (some false)) else (some false)) else (some false)) else (some false))))) = some r := h
  clear h
  replace H := Option.bind_eq_some_iff.mp H
  obtain ⟨⟨t102, t103, t104, t105⟩, A10, H⟩ := H
  replace H : ((rto_Sample.f t102 t103 t104 t105 100).bind fun bt106 => ((rto_Start.f).bind fun bt111 => (if bt111.2.2.1 = 3000 then (if bt106.1 = 100 then (if bt106.2.1 = 50 then (if bt106.2.2.1 = 1000 then (if bt106.2.2.2 = true then ((rto_Start.f).bind fun bt115 => ((rto_Back.f bt115.1 bt115.2.1 bt115.2.2.1 bt115.2.2.2).bind fun bt119 => (some (bt119.2.2.1 == 6000)))) else (some false)) else (some false)) else (some false)) else (some false)) else (some false)))) = some r := H
  have A1 := Aside0.mk A10
  clear A10
  replace H := Option.bind_eq_some_iff.mp H
  obtain ⟨⟨t106, t107, t108, t109⟩, A20, H⟩ := H
  replace H : ((rto_Start.f).bind fun bt111 => (if bt111.2.2.1 = 3000 then (if t106 = 100 then (if t107 = 50 then (if t108 = 1000 then (if t109 = true then ((rto_Start.f).bind fun bt115 => ((rto_Back.f bt115.1 bt115.2.1 bt115.2.2.1 bt115.2.2.2).bind fun bt119 => (some (bt119.2.2.1 == 6000)))) else (some false)) else (some false)) else (some false)) else (some false)) else (some false))) = some r := H
  have A2 := Aside0.mk A20
  clear A20
  replace H := Option.bind_eq_some_iff.mp H
  obtain ⟨⟨t111, t112, t113, t114⟩, A30, H⟩ := H
  replace H : (if t113 = 3000 then (if t106 = 100 then (if t107 = 50 then (if t108 = 1000 then (if t109 = true then ((rto_Start.f).bind fun bt115 => ((rto_Back.f bt115.1 bt115.2.1 bt115.2.2.1 bt115.2.2.2).bind fun bt119 => (some (bt119.2.2.1 == 6000)))) else (some false)) else (some false)) else (some false)) else (some false)) else (some false)) = some r := H
  have A3 := Aside0.mk A30
  clear A30
  by_cases c4 : t113 = 3000
  · rw [if_pos c4] at H
    have c4b0 : (t113 == 3000) = true := beq_iff_eq.mpr c4
    have c4b1 : (t113 != 3000) = false := bne_eq_false_iff_eq.mpr c4
    clear c4
    by_cases c5 : t106 = 100
    · rw [if_pos c5] at H
      have c5b0 : (t106 == 100) = true := beq_iff_eq.mpr c5
      have c5b1 : (t106 != 100) = false := bne_eq_false_iff_eq.mpr c5
      clear c5
      by_cases c6 : t107 = 50
      · rw [if_pos c6] at H
        have c6b0 : (t107 == 50) = true := beq_iff_eq.mpr c6
        have c6b1 : (t107 != 50) = false := bne_eq_false_iff_eq.mpr c6
        clear c6
        by_cases c7 : t108 = 1000
        · rw [if_pos c7] at H
          have c7b0 : (t108 == 1000) = true := beq_iff_eq.mpr c7
          have c7b1 : (t108 != 1000) = false := bne_eq_false_iff_eq.mpr c7
          clear c7
          by_cases c8 : t109 = true
          · subst c8
            have H1 : ((rto_Start.f).bind fun bt115 => ((rto_Back.f bt115.1 bt115.2.1 bt115.2.2.1 bt115.2.2.2).bind fun bt119 => (some (bt119.2.2.1 == 6000)))) = some r := by rw [if_pos rfl] at H; exact H
            clear H
            have H := H1
            clear H1
            replace H := Option.bind_eq_some_iff.mp H
            obtain ⟨⟨t115, t116, t117, t118⟩, A90, H⟩ := H
            replace H : ((rto_Back.f t115 t116 t117 t118).bind fun bt119 => (some (bt119.2.2.1 == 6000))) = some r := H
            have A9 := Aside0.mk A90
            clear A90
            replace H := Option.bind_eq_some_iff.mp H
            obtain ⟨⟨t119, t120, t121, t122⟩, A100, H⟩ := H
            replace H : (some (t121 == 6000)) = some r := H
            have A10 := Aside0.mk A100
            clear A100
            obtain rfl := Option.some.inj H
            go_enter Try.func8, Try.ntmps8
            go_wp2_with (first | ((with_reducible refine gate_callee (f := 13) rfl ?_); refine goesL_ (some 2) rfl rfl Try.func13 (by kernel_rfl) rfl #[] rfl (by (try simp only [List.map_toArray, List.map_cons, List.map_nil]); first | done | rfl | (simp only [List.length_drop, List.length_take]; rfl)) ?_; (with_reducible refine (rto_Start.calls  t102 t103 t104 t105 _ A1.out).mono ?_); rintro e w11 ⟨rfl, hb⟩; refine ⟨_, rfl, ?_⟩; have n0_ := Aside0.mk (below_step (by repeat (first | (with_reducible first | exact HB.out | apply below_alloc | apply pw_below_drewN | apply below_drew1) | exact HB.out)) hb); clear HB; have HB := n0_; clear n0_; (try clear hb); (try clear hb2); (try clear hk); (try clear hi)) | ((with_reducible refine gate_callee (f := 9) rfl ?_); refine goesL_ (some 3) rfl rfl Try.func9 (by kernel_rfl) rfl #[.agg #[.int .i64 t102, .int .i64 t103, .int .i64 t104, .bool t105], .int .i64 100] rfl (by (try simp only [List.map_toArray, List.map_cons, List.map_nil]); first | done | rfl | (simp only [List.length_drop, List.length_take]; rfl)) ?_; (with_reducible refine (rto_Sample.calls t102 t103 t104 t105 100 t106 t107 t108 true _ A2.out).mono ?_); rintro e w12 ⟨rfl, hb⟩; refine ⟨_, rfl, ?_⟩; have n0_ := Aside0.mk (below_step (by repeat (first | (with_reducible first | exact HB.out | apply below_alloc | apply pw_below_drewN | apply below_drew1) | exact HB.out)) hb); clear HB; have HB := n0_; clear n0_; (try clear hb); (try clear hb2); (try clear hk); (try clear hi)) | ((with_reducible refine gate_dst (N := 1) rfl ?_); refine box_event ?hg (N := 1) ?hd (cs := #[.int .i64 0, .int .i64 0, .int .i64 0, .bool false]) (t := 23) ?hr ?_; (case hd => rfl); (case hg => rfl); (case hr => first | (go_simp; done) | (go_simp; rfl)); intro gb110 hg w13 hbox hb; have n0_ := Aside0.mk (below_step (by repeat (first | (with_reducible first | exact HB.out | apply below_alloc | apply pw_below_drewN | apply below_drew1) | exact HB.out)) hb); have n1_ := Aside0.mk (hbox); have n2_ := Aside0.mk ((by rw [hg]; exact (below_size (by repeat (first | (with_reducible first | exact HB.out | apply below_alloc | apply pw_below_drewN | apply below_drew1) | exact HB.out))) : w.heap.size ≤ gb110)); have n3_ := Aside0.mk ((by rw [hg]; exact (below_size (by repeat (first | (with_reducible first | exact HB.out | apply below_alloc | apply pw_below_drewN | apply below_drew1) | exact HB.out))) : w.heap.size ≤ gb110)); clear HB; have HB := n0_; have BK110 := n1_; have GW110 := n2_; have GE110 := n3_; clear n0_ n1_ n2_ n3_; clear hb hbox hg; have hcz14_0 : w13.cell? ⟨gb110, 0, none⟩ = some (.int .i64 0) := (blk_cell BK110.out 0).trans rfl; have hcz14_1 : w13.cell? ⟨gb110, 1, none⟩ = some (.int .i64 0) := (blk_cell BK110.out 1).trans rfl; have hcz14_2 : w13.cell? ⟨gb110, 2, none⟩ = some (.int .i64 0) := (blk_cell BK110.out 2).trans rfl; have hcz14_3 : w13.cell? ⟨gb110, 3, none⟩ = some (.bool false) := (blk_cell BK110.out 3).trans rfl; have hfz14_0 := blk_frozen BK110.out 0; have hfz14_1 := blk_frozen BK110.out 1; have hfz14_2 := blk_frozen BK110.out 2; have hfz14_3 := blk_frozen BK110.out 3) | ((with_reducible refine gate_callee (f := 13) rfl ?_); refine goesL_ (some 4) rfl rfl Try.func13 (by kernel_rfl) rfl #[] rfl (by (try simp only [List.map_toArray, List.map_cons, List.map_nil]); first | done | rfl | (simp only [List.length_drop, List.length_take]; rfl)) ?_; (with_reducible refine (rto_Start.calls  t111 t112 t113 t114 _ A3.out).mono ?_); rintro e w15 ⟨rfl, hb⟩; refine ⟨_, rfl, ?_⟩; have n0_ := Aside0.mk (blk_below (g := gb110) (o := .cells #[.int .i64 t106, .int .i64 t107, .int .i64 t108, .bool true] 23 (0, 0)) (by (with_reducible repeat (first | refine blk_drewN ?_ _ | refine blk_drew ?_ | refine blk_alloc ?_ _)); refine blk_put (cs := #[.int .i64 t106, .int .i64 t107, .int .i64 t108, .bool false]) ?_ 3 _ rfl; (with_reducible repeat (first | refine blk_drewN ?_ _ | refine blk_drew ?_ | refine blk_alloc ?_ _)); refine blk_put (cs := #[.int .i64 t106, .int .i64 t107, .int .i64 0, .bool false]) ?_ 2 _ rfl; (with_reducible repeat (first | refine blk_drewN ?_ _ | refine blk_drew ?_ | refine blk_alloc ?_ _)); refine blk_put (cs := #[.int .i64 t106, .int .i64 0, .int .i64 0, .bool false]) ?_ 1 _ rfl; (with_reducible repeat (first | refine blk_drewN ?_ _ | refine blk_drew ?_ | refine blk_alloc ?_ _)); refine blk_put (cs := #[.int .i64 0, .int .i64 0, .int .i64 0, .bool false]) ?_ 0 _ rfl; (with_reducible repeat (first | refine blk_drewN ?_ _ | refine blk_drew ?_ | refine blk_alloc ?_ _)); exact BK110.out) hb); have n1_ := Aside0.mk (below_step (by repeat (first | (with_reducible first | exact HB.out | apply below_alloc | apply pw_below_drewN | apply below_drew1 | refine below_set ?_ GE110.out) | exact HB.out)) hb); clear BK110; clear HB; have BK110 := n0_; have HB := n1_; clear n0_ n1_; (try clear hb); (try clear hb2); (try clear hk); (try clear hi); have hcz16_0 : w15.cell? ⟨gb110, 0, none⟩ = some (.int .i64 t106) := (blk_cell BK110.out 0).trans rfl; have hcz16_1 : w15.cell? ⟨gb110, 1, none⟩ = some (.int .i64 t107) := (blk_cell BK110.out 1).trans rfl; have hcz16_2 : w15.cell? ⟨gb110, 2, none⟩ = some (.int .i64 t108) := (blk_cell BK110.out 2).trans rfl; have hcz16_3 : w15.cell? ⟨gb110, 3, none⟩ = some (.bool true) := (blk_cell BK110.out 3).trans rfl; have hfz16_0 := blk_frozen BK110.out 0; have hfz16_1 := blk_frozen BK110.out 1; have hfz16_2 := blk_frozen BK110.out 2; have hfz16_3 := blk_frozen BK110.out 3) | (go_at_call 13; (with_reducible refine (rto_Start.calls  t115 t116 t117 t118 _ A9.out).mono ?_); rintro e w17 ⟨rfl, hb⟩; have n0_ := Aside0.mk (blk_below (g := gb110) (o := .cells #[.int .i64 t106, .int .i64 t107, .int .i64 t108, .bool true] 23 (0, 0)) (by (with_reducible repeat (first | refine blk_drewN ?_ _ | refine blk_drew ?_ | refine blk_alloc ?_ _)); exact BK110.out) hb); have n1_ := Aside0.mk (below_step (by repeat (first | (with_reducible first | exact HB.out | apply below_alloc | apply pw_below_drewN | apply below_drew1 | refine below_set ?_ GE110.out) | exact HB.out)) hb); clear BK110; clear HB; have BK110 := n0_; have HB := n1_; clear n0_ n1_; (try clear hb); (try clear hb2); (try clear hk); (try clear hi)) | (go_at_call 11; (with_reducible refine (rto_Back.calls t115 t116 t117 t118 t119 t120 t121 t122 _ A10.out).mono ?_); rintro e w18 ⟨rfl, hb⟩; have n0_ := Aside0.mk (blk_below (g := gb110) (o := .cells #[.int .i64 t106, .int .i64 t107, .int .i64 t108, .bool true] 23 (0, 0)) (by (with_reducible repeat (first | refine blk_drewN ?_ _ | refine blk_drew ?_ | refine blk_alloc ?_ _)); exact BK110.out) hb); have n1_ := Aside0.mk (below_step (by repeat (first | (with_reducible first | exact HB.out | apply below_alloc | apply pw_below_drewN | apply below_drew1 | refine below_set ?_ GE110.out) | exact HB.out)) hb); clear BK110; clear HB; have BK110 := n0_; have HB := n1_; clear n0_ n1_; (try clear hb); (try clear hb2); (try clear hk); (try clear hi)))
            go_ret
            exact ⟨by first | rfl | (simp [errW_none, errW_some] <;> rfl) | (simp [*, errW_none, errW_some] <;> rfl), by repeat (first | (with_reducible first | exact HB.out | apply below_alloc | apply pw_below_drewN | apply below_drew1 | refine below_set ?_ GE110.out) | exact HB.out)⟩
          · replace c8 := Bool.eq_false_iff.mpr c8
            subst c8
            have H1 : (some false) = some r := by rw [if_neg (show ¬ (false = true) by decide)] at H; exact H
            clear H
            have H := H1
            clear H1
            obtain rfl := Option.some.inj H
            go_enter Try.func8, Try.ntmps8
            go_wp2_with (first | ((with_reducible refine gate_callee (f := 13) rfl ?_); refine goesL_ (some 2) rfl rfl Try.func13 (by kernel_rfl) rfl #[] rfl (by (try simp only [List.map_toArray, List.map_cons, List.map_nil]); first | done | rfl | (simp only [List.length_drop, List.length_take]; rfl)) ?_; (with_reducible refine (rto_Start.calls  t102 t103 t104 t105 _ A1.out).mono ?_); rintro e w19 ⟨rfl, hb⟩; refine ⟨_, rfl, ?_⟩; have n0_ := Aside0.mk (below_step (by repeat (first | (with_reducible first | exact HB.out | apply below_alloc | apply pw_below_drewN | apply below_drew1) | exact HB.out)) hb); clear HB; have HB := n0_; clear n0_; (try clear hb); (try clear hb2); (try clear hk); (try clear hi)) | ((with_reducible refine gate_callee (f := 9) rfl ?_); refine goesL_ (some 3) rfl rfl Try.func9 (by kernel_rfl) rfl #[.agg #[.int .i64 t102, .int .i64 t103, .int .i64 t104, .bool t105], .int .i64 100] rfl (by (try simp only [List.map_toArray, List.map_cons, List.map_nil]); first | done | rfl | (simp only [List.length_drop, List.length_take]; rfl)) ?_; (with_reducible refine (rto_Sample.calls t102 t103 t104 t105 100 t106 t107 t108 false _ A2.out).mono ?_); rintro e w20 ⟨rfl, hb⟩; refine ⟨_, rfl, ?_⟩; have n0_ := Aside0.mk (below_step (by repeat (first | (with_reducible first | exact HB.out | apply below_alloc | apply pw_below_drewN | apply below_drew1) | exact HB.out)) hb); clear HB; have HB := n0_; clear n0_; (try clear hb); (try clear hb2); (try clear hk); (try clear hi)) | ((with_reducible refine gate_dst (N := 1) rfl ?_); refine box_event ?hg (N := 1) ?hd (cs := #[.int .i64 0, .int .i64 0, .int .i64 0, .bool false]) (t := 23) ?hr ?_; (case hd => rfl); (case hg => rfl); (case hr => first | (go_simp; done) | (go_simp; rfl)); intro gb110 hg w21 hbox hb; have n0_ := Aside0.mk (below_step (by repeat (first | (with_reducible first | exact HB.out | apply below_alloc | apply pw_below_drewN | apply below_drew1) | exact HB.out)) hb); have n1_ := Aside0.mk (hbox); have n2_ := Aside0.mk ((by rw [hg]; exact (below_size (by repeat (first | (with_reducible first | exact HB.out | apply below_alloc | apply pw_below_drewN | apply below_drew1) | exact HB.out))) : w.heap.size ≤ gb110)); have n3_ := Aside0.mk ((by rw [hg]; exact (below_size (by repeat (first | (with_reducible first | exact HB.out | apply below_alloc | apply pw_below_drewN | apply below_drew1) | exact HB.out))) : w.heap.size ≤ gb110)); clear HB; have HB := n0_; have BK110 := n1_; have GW110 := n2_; have GE110 := n3_; clear n0_ n1_ n2_ n3_; clear hb hbox hg; have hcz22_0 : w21.cell? ⟨gb110, 0, none⟩ = some (.int .i64 0) := (blk_cell BK110.out 0).trans rfl; have hcz22_1 : w21.cell? ⟨gb110, 1, none⟩ = some (.int .i64 0) := (blk_cell BK110.out 1).trans rfl; have hcz22_2 : w21.cell? ⟨gb110, 2, none⟩ = some (.int .i64 0) := (blk_cell BK110.out 2).trans rfl; have hcz22_3 : w21.cell? ⟨gb110, 3, none⟩ = some (.bool false) := (blk_cell BK110.out 3).trans rfl; have hfz22_0 := blk_frozen BK110.out 0; have hfz22_1 := blk_frozen BK110.out 1; have hfz22_2 := blk_frozen BK110.out 2; have hfz22_3 := blk_frozen BK110.out 3) | ((with_reducible refine gate_callee (f := 13) rfl ?_); refine goesL_ (some 4) rfl rfl Try.func13 (by kernel_rfl) rfl #[] rfl (by (try simp only [List.map_toArray, List.map_cons, List.map_nil]); first | done | rfl | (simp only [List.length_drop, List.length_take]; rfl)) ?_; (with_reducible refine (rto_Start.calls  t111 t112 t113 t114 _ A3.out).mono ?_); rintro e w23 ⟨rfl, hb⟩; refine ⟨_, rfl, ?_⟩; have n0_ := Aside0.mk (blk_below (g := gb110) (o := .cells #[.int .i64 t106, .int .i64 t107, .int .i64 t108, .bool false] 23 (0, 0)) (by (with_reducible repeat (first | refine blk_drewN ?_ _ | refine blk_drew ?_ | refine blk_alloc ?_ _)); refine blk_put (cs := #[.int .i64 t106, .int .i64 t107, .int .i64 t108, .bool false]) ?_ 3 _ rfl; (with_reducible repeat (first | refine blk_drewN ?_ _ | refine blk_drew ?_ | refine blk_alloc ?_ _)); refine blk_put (cs := #[.int .i64 t106, .int .i64 t107, .int .i64 0, .bool false]) ?_ 2 _ rfl; (with_reducible repeat (first | refine blk_drewN ?_ _ | refine blk_drew ?_ | refine blk_alloc ?_ _)); refine blk_put (cs := #[.int .i64 t106, .int .i64 0, .int .i64 0, .bool false]) ?_ 1 _ rfl; (with_reducible repeat (first | refine blk_drewN ?_ _ | refine blk_drew ?_ | refine blk_alloc ?_ _)); refine blk_put (cs := #[.int .i64 0, .int .i64 0, .int .i64 0, .bool false]) ?_ 0 _ rfl; (with_reducible repeat (first | refine blk_drewN ?_ _ | refine blk_drew ?_ | refine blk_alloc ?_ _)); exact BK110.out) hb); have n1_ := Aside0.mk (below_step (by repeat (first | (with_reducible first | exact HB.out | apply below_alloc | apply pw_below_drewN | apply below_drew1 | refine below_set ?_ GE110.out) | exact HB.out)) hb); clear BK110; clear HB; have BK110 := n0_; have HB := n1_; clear n0_ n1_; (try clear hb); (try clear hb2); (try clear hk); (try clear hi); have hcz24_0 : w23.cell? ⟨gb110, 0, none⟩ = some (.int .i64 t106) := (blk_cell BK110.out 0).trans rfl; have hcz24_1 : w23.cell? ⟨gb110, 1, none⟩ = some (.int .i64 t107) := (blk_cell BK110.out 1).trans rfl; have hcz24_2 : w23.cell? ⟨gb110, 2, none⟩ = some (.int .i64 t108) := (blk_cell BK110.out 2).trans rfl; have hcz24_3 : w23.cell? ⟨gb110, 3, none⟩ = some (.bool false) := (blk_cell BK110.out 3).trans rfl; have hfz24_0 := blk_frozen BK110.out 0; have hfz24_1 := blk_frozen BK110.out 1; have hfz24_2 := blk_frozen BK110.out 2; have hfz24_3 := blk_frozen BK110.out 3))
            go_ret
            exact ⟨by first | rfl | (simp [errW_none, errW_some] <;> rfl) | (simp [*, errW_none, errW_some] <;> rfl), by repeat (first | (with_reducible first | exact HB.out | apply below_alloc | apply pw_below_drewN | apply below_drew1 | refine below_set ?_ GE110.out) | exact HB.out)⟩
        · rw [if_neg c7] at H
          have c7b0 : (t108 == 1000) = false := beq_eq_false_iff_ne.mpr c7
          have c7b1 : (t108 != 1000) = true := bne_iff_ne.mpr c7
          obtain rfl := Option.some.inj H
          go_enter Try.func8, Try.ntmps8
          go_wp2_with (first | ((with_reducible refine gate_callee (f := 13) rfl ?_); refine goesL_ (some 2) rfl rfl Try.func13 (by kernel_rfl) rfl #[] rfl (by (try simp only [List.map_toArray, List.map_cons, List.map_nil]); first | done | rfl | (simp only [List.length_drop, List.length_take]; rfl)) ?_; (with_reducible refine (rto_Start.calls  t102 t103 t104 t105 _ A1.out).mono ?_); rintro e w25 ⟨rfl, hb⟩; refine ⟨_, rfl, ?_⟩; have n0_ := Aside0.mk (below_step (by repeat (first | (with_reducible first | exact HB.out | apply below_alloc | apply pw_below_drewN | apply below_drew1) | exact HB.out)) hb); clear HB; have HB := n0_; clear n0_; (try clear hb); (try clear hb2); (try clear hk); (try clear hi)) | ((with_reducible refine gate_callee (f := 9) rfl ?_); refine goesL_ (some 3) rfl rfl Try.func9 (by kernel_rfl) rfl #[.agg #[.int .i64 t102, .int .i64 t103, .int .i64 t104, .bool t105], .int .i64 100] rfl (by (try simp only [List.map_toArray, List.map_cons, List.map_nil]); first | done | rfl | (simp only [List.length_drop, List.length_take]; rfl)) ?_; (with_reducible refine (rto_Sample.calls t102 t103 t104 t105 100 t106 t107 t108 t109 _ A2.out).mono ?_); rintro e w26 ⟨rfl, hb⟩; refine ⟨_, rfl, ?_⟩; have n0_ := Aside0.mk (below_step (by repeat (first | (with_reducible first | exact HB.out | apply below_alloc | apply pw_below_drewN | apply below_drew1) | exact HB.out)) hb); clear HB; have HB := n0_; clear n0_; (try clear hb); (try clear hb2); (try clear hk); (try clear hi)) | ((with_reducible refine gate_dst (N := 1) rfl ?_); refine box_event ?hg (N := 1) ?hd (cs := #[.int .i64 0, .int .i64 0, .int .i64 0, .bool false]) (t := 23) ?hr ?_; (case hd => rfl); (case hg => rfl); (case hr => first | (go_simp; done) | (go_simp; rfl)); intro gb110 hg w27 hbox hb; have n0_ := Aside0.mk (below_step (by repeat (first | (with_reducible first | exact HB.out | apply below_alloc | apply pw_below_drewN | apply below_drew1) | exact HB.out)) hb); have n1_ := Aside0.mk (hbox); have n2_ := Aside0.mk ((by rw [hg]; exact (below_size (by repeat (first | (with_reducible first | exact HB.out | apply below_alloc | apply pw_below_drewN | apply below_drew1) | exact HB.out))) : w.heap.size ≤ gb110)); have n3_ := Aside0.mk ((by rw [hg]; exact (below_size (by repeat (first | (with_reducible first | exact HB.out | apply below_alloc | apply pw_below_drewN | apply below_drew1) | exact HB.out))) : w.heap.size ≤ gb110)); clear HB; have HB := n0_; have BK110 := n1_; have GW110 := n2_; have GE110 := n3_; clear n0_ n1_ n2_ n3_; clear hb hbox hg; have hcz28_0 : w27.cell? ⟨gb110, 0, none⟩ = some (.int .i64 0) := (blk_cell BK110.out 0).trans rfl; have hcz28_1 : w27.cell? ⟨gb110, 1, none⟩ = some (.int .i64 0) := (blk_cell BK110.out 1).trans rfl; have hcz28_2 : w27.cell? ⟨gb110, 2, none⟩ = some (.int .i64 0) := (blk_cell BK110.out 2).trans rfl; have hcz28_3 : w27.cell? ⟨gb110, 3, none⟩ = some (.bool false) := (blk_cell BK110.out 3).trans rfl; have hfz28_0 := blk_frozen BK110.out 0; have hfz28_1 := blk_frozen BK110.out 1; have hfz28_2 := blk_frozen BK110.out 2; have hfz28_3 := blk_frozen BK110.out 3) | ((with_reducible refine gate_callee (f := 13) rfl ?_); refine goesL_ (some 4) rfl rfl Try.func13 (by kernel_rfl) rfl #[] rfl (by (try simp only [List.map_toArray, List.map_cons, List.map_nil]); first | done | rfl | (simp only [List.length_drop, List.length_take]; rfl)) ?_; (with_reducible refine (rto_Start.calls  t111 t112 t113 t114 _ A3.out).mono ?_); rintro e w29 ⟨rfl, hb⟩; refine ⟨_, rfl, ?_⟩; have n0_ := Aside0.mk (blk_below (g := gb110) (o := .cells #[.int .i64 t106, .int .i64 t107, .int .i64 t108, .bool t109] 23 (0, 0)) (by (with_reducible repeat (first | refine blk_drewN ?_ _ | refine blk_drew ?_ | refine blk_alloc ?_ _)); refine blk_put (cs := #[.int .i64 t106, .int .i64 t107, .int .i64 t108, .bool false]) ?_ 3 _ rfl; (with_reducible repeat (first | refine blk_drewN ?_ _ | refine blk_drew ?_ | refine blk_alloc ?_ _)); refine blk_put (cs := #[.int .i64 t106, .int .i64 t107, .int .i64 0, .bool false]) ?_ 2 _ rfl; (with_reducible repeat (first | refine blk_drewN ?_ _ | refine blk_drew ?_ | refine blk_alloc ?_ _)); refine blk_put (cs := #[.int .i64 t106, .int .i64 0, .int .i64 0, .bool false]) ?_ 1 _ rfl; (with_reducible repeat (first | refine blk_drewN ?_ _ | refine blk_drew ?_ | refine blk_alloc ?_ _)); refine blk_put (cs := #[.int .i64 0, .int .i64 0, .int .i64 0, .bool false]) ?_ 0 _ rfl; (with_reducible repeat (first | refine blk_drewN ?_ _ | refine blk_drew ?_ | refine blk_alloc ?_ _)); exact BK110.out) hb); have n1_ := Aside0.mk (below_step (by repeat (first | (with_reducible first | exact HB.out | apply below_alloc | apply pw_below_drewN | apply below_drew1 | refine below_set ?_ GE110.out) | exact HB.out)) hb); clear BK110; clear HB; have BK110 := n0_; have HB := n1_; clear n0_ n1_; (try clear hb); (try clear hb2); (try clear hk); (try clear hi); have hcz30_0 : w29.cell? ⟨gb110, 0, none⟩ = some (.int .i64 t106) := (blk_cell BK110.out 0).trans rfl; have hcz30_1 : w29.cell? ⟨gb110, 1, none⟩ = some (.int .i64 t107) := (blk_cell BK110.out 1).trans rfl; have hcz30_2 : w29.cell? ⟨gb110, 2, none⟩ = some (.int .i64 t108) := (blk_cell BK110.out 2).trans rfl; have hcz30_3 : w29.cell? ⟨gb110, 3, none⟩ = some (.bool t109) := (blk_cell BK110.out 3).trans rfl; have hfz30_0 := blk_frozen BK110.out 0; have hfz30_1 := blk_frozen BK110.out 1; have hfz30_2 := blk_frozen BK110.out 2; have hfz30_3 := blk_frozen BK110.out 3))
          go_ret
          exact ⟨by first | rfl | (simp [errW_none, errW_some] <;> rfl) | (simp [*, errW_none, errW_some] <;> rfl), by repeat (first | (with_reducible first | exact HB.out | apply below_alloc | apply pw_below_drewN | apply below_drew1 | refine below_set ?_ GE110.out) | exact HB.out)⟩
      · rw [if_neg c6] at H
        have c6b0 : (t107 == 50) = false := beq_eq_false_iff_ne.mpr c6
        have c6b1 : (t107 != 50) = true := bne_iff_ne.mpr c6
        obtain rfl := Option.some.inj H
        go_enter Try.func8, Try.ntmps8
        go_wp2_with (first | ((with_reducible refine gate_callee (f := 13) rfl ?_); refine goesL_ (some 2) rfl rfl Try.func13 (by kernel_rfl) rfl #[] rfl (by (try simp only [List.map_toArray, List.map_cons, List.map_nil]); first | done | rfl | (simp only [List.length_drop, List.length_take]; rfl)) ?_; (with_reducible refine (rto_Start.calls  t102 t103 t104 t105 _ A1.out).mono ?_); rintro e w31 ⟨rfl, hb⟩; refine ⟨_, rfl, ?_⟩; have n0_ := Aside0.mk (below_step (by repeat (first | (with_reducible first | exact HB.out | apply below_alloc | apply pw_below_drewN | apply below_drew1) | exact HB.out)) hb); clear HB; have HB := n0_; clear n0_; (try clear hb); (try clear hb2); (try clear hk); (try clear hi)) | ((with_reducible refine gate_callee (f := 9) rfl ?_); refine goesL_ (some 3) rfl rfl Try.func9 (by kernel_rfl) rfl #[.agg #[.int .i64 t102, .int .i64 t103, .int .i64 t104, .bool t105], .int .i64 100] rfl (by (try simp only [List.map_toArray, List.map_cons, List.map_nil]); first | done | rfl | (simp only [List.length_drop, List.length_take]; rfl)) ?_; (with_reducible refine (rto_Sample.calls t102 t103 t104 t105 100 t106 t107 t108 t109 _ A2.out).mono ?_); rintro e w32 ⟨rfl, hb⟩; refine ⟨_, rfl, ?_⟩; have n0_ := Aside0.mk (below_step (by repeat (first | (with_reducible first | exact HB.out | apply below_alloc | apply pw_below_drewN | apply below_drew1) | exact HB.out)) hb); clear HB; have HB := n0_; clear n0_; (try clear hb); (try clear hb2); (try clear hk); (try clear hi)) | ((with_reducible refine gate_dst (N := 1) rfl ?_); refine box_event ?hg (N := 1) ?hd (cs := #[.int .i64 0, .int .i64 0, .int .i64 0, .bool false]) (t := 23) ?hr ?_; (case hd => rfl); (case hg => rfl); (case hr => first | (go_simp; done) | (go_simp; rfl)); intro gb110 hg w33 hbox hb; have n0_ := Aside0.mk (below_step (by repeat (first | (with_reducible first | exact HB.out | apply below_alloc | apply pw_below_drewN | apply below_drew1) | exact HB.out)) hb); have n1_ := Aside0.mk (hbox); have n2_ := Aside0.mk ((by rw [hg]; exact (below_size (by repeat (first | (with_reducible first | exact HB.out | apply below_alloc | apply pw_below_drewN | apply below_drew1) | exact HB.out))) : w.heap.size ≤ gb110)); have n3_ := Aside0.mk ((by rw [hg]; exact (below_size (by repeat (first | (with_reducible first | exact HB.out | apply below_alloc | apply pw_below_drewN | apply below_drew1) | exact HB.out))) : w.heap.size ≤ gb110)); clear HB; have HB := n0_; have BK110 := n1_; have GW110 := n2_; have GE110 := n3_; clear n0_ n1_ n2_ n3_; clear hb hbox hg; have hcz34_0 : w33.cell? ⟨gb110, 0, none⟩ = some (.int .i64 0) := (blk_cell BK110.out 0).trans rfl; have hcz34_1 : w33.cell? ⟨gb110, 1, none⟩ = some (.int .i64 0) := (blk_cell BK110.out 1).trans rfl; have hcz34_2 : w33.cell? ⟨gb110, 2, none⟩ = some (.int .i64 0) := (blk_cell BK110.out 2).trans rfl; have hcz34_3 : w33.cell? ⟨gb110, 3, none⟩ = some (.bool false) := (blk_cell BK110.out 3).trans rfl; have hfz34_0 := blk_frozen BK110.out 0; have hfz34_1 := blk_frozen BK110.out 1; have hfz34_2 := blk_frozen BK110.out 2; have hfz34_3 := blk_frozen BK110.out 3) | ((with_reducible refine gate_callee (f := 13) rfl ?_); refine goesL_ (some 4) rfl rfl Try.func13 (by kernel_rfl) rfl #[] rfl (by (try simp only [List.map_toArray, List.map_cons, List.map_nil]); first | done | rfl | (simp only [List.length_drop, List.length_take]; rfl)) ?_; (with_reducible refine (rto_Start.calls  t111 t112 t113 t114 _ A3.out).mono ?_); rintro e w35 ⟨rfl, hb⟩; refine ⟨_, rfl, ?_⟩; have n0_ := Aside0.mk (blk_below (g := gb110) (o := .cells #[.int .i64 t106, .int .i64 t107, .int .i64 t108, .bool t109] 23 (0, 0)) (by (with_reducible repeat (first | refine blk_drewN ?_ _ | refine blk_drew ?_ | refine blk_alloc ?_ _)); refine blk_put (cs := #[.int .i64 t106, .int .i64 t107, .int .i64 t108, .bool false]) ?_ 3 _ rfl; (with_reducible repeat (first | refine blk_drewN ?_ _ | refine blk_drew ?_ | refine blk_alloc ?_ _)); refine blk_put (cs := #[.int .i64 t106, .int .i64 t107, .int .i64 0, .bool false]) ?_ 2 _ rfl; (with_reducible repeat (first | refine blk_drewN ?_ _ | refine blk_drew ?_ | refine blk_alloc ?_ _)); refine blk_put (cs := #[.int .i64 t106, .int .i64 0, .int .i64 0, .bool false]) ?_ 1 _ rfl; (with_reducible repeat (first | refine blk_drewN ?_ _ | refine blk_drew ?_ | refine blk_alloc ?_ _)); refine blk_put (cs := #[.int .i64 0, .int .i64 0, .int .i64 0, .bool false]) ?_ 0 _ rfl; (with_reducible repeat (first | refine blk_drewN ?_ _ | refine blk_drew ?_ | refine blk_alloc ?_ _)); exact BK110.out) hb); have n1_ := Aside0.mk (below_step (by repeat (first | (with_reducible first | exact HB.out | apply below_alloc | apply pw_below_drewN | apply below_drew1 | refine below_set ?_ GE110.out) | exact HB.out)) hb); clear BK110; clear HB; have BK110 := n0_; have HB := n1_; clear n0_ n1_; (try clear hb); (try clear hb2); (try clear hk); (try clear hi); have hcz36_0 : w35.cell? ⟨gb110, 0, none⟩ = some (.int .i64 t106) := (blk_cell BK110.out 0).trans rfl; have hcz36_1 : w35.cell? ⟨gb110, 1, none⟩ = some (.int .i64 t107) := (blk_cell BK110.out 1).trans rfl; have hcz36_2 : w35.cell? ⟨gb110, 2, none⟩ = some (.int .i64 t108) := (blk_cell BK110.out 2).trans rfl; have hcz36_3 : w35.cell? ⟨gb110, 3, none⟩ = some (.bool t109) := (blk_cell BK110.out 3).trans rfl; have hfz36_0 := blk_frozen BK110.out 0; have hfz36_1 := blk_frozen BK110.out 1; have hfz36_2 := blk_frozen BK110.out 2; have hfz36_3 := blk_frozen BK110.out 3))
        go_ret
        exact ⟨by first | rfl | (simp [errW_none, errW_some] <;> rfl) | (simp [*, errW_none, errW_some] <;> rfl), by repeat (first | (with_reducible first | exact HB.out | apply below_alloc | apply pw_below_drewN | apply below_drew1 | refine below_set ?_ GE110.out) | exact HB.out)⟩
    · rw [if_neg c5] at H
      have c5b0 : (t106 == 100) = false := beq_eq_false_iff_ne.mpr c5
      have c5b1 : (t106 != 100) = true := bne_iff_ne.mpr c5
      obtain rfl := Option.some.inj H
      go_enter Try.func8, Try.ntmps8
      go_wp2_with (first | ((with_reducible refine gate_callee (f := 13) rfl ?_); refine goesL_ (some 2) rfl rfl Try.func13 (by kernel_rfl) rfl #[] rfl (by (try simp only [List.map_toArray, List.map_cons, List.map_nil]); first | done | rfl | (simp only [List.length_drop, List.length_take]; rfl)) ?_; (with_reducible refine (rto_Start.calls  t102 t103 t104 t105 _ A1.out).mono ?_); rintro e w37 ⟨rfl, hb⟩; refine ⟨_, rfl, ?_⟩; have n0_ := Aside0.mk (below_step (by repeat (first | (with_reducible first | exact HB.out | apply below_alloc | apply pw_below_drewN | apply below_drew1) | exact HB.out)) hb); clear HB; have HB := n0_; clear n0_; (try clear hb); (try clear hb2); (try clear hk); (try clear hi)) | ((with_reducible refine gate_callee (f := 9) rfl ?_); refine goesL_ (some 3) rfl rfl Try.func9 (by kernel_rfl) rfl #[.agg #[.int .i64 t102, .int .i64 t103, .int .i64 t104, .bool t105], .int .i64 100] rfl (by (try simp only [List.map_toArray, List.map_cons, List.map_nil]); first | done | rfl | (simp only [List.length_drop, List.length_take]; rfl)) ?_; (with_reducible refine (rto_Sample.calls t102 t103 t104 t105 100 t106 t107 t108 t109 _ A2.out).mono ?_); rintro e w38 ⟨rfl, hb⟩; refine ⟨_, rfl, ?_⟩; have n0_ := Aside0.mk (below_step (by repeat (first | (with_reducible first | exact HB.out | apply below_alloc | apply pw_below_drewN | apply below_drew1) | exact HB.out)) hb); clear HB; have HB := n0_; clear n0_; (try clear hb); (try clear hb2); (try clear hk); (try clear hi)) | ((with_reducible refine gate_dst (N := 1) rfl ?_); refine box_event ?hg (N := 1) ?hd (cs := #[.int .i64 0, .int .i64 0, .int .i64 0, .bool false]) (t := 23) ?hr ?_; (case hd => rfl); (case hg => rfl); (case hr => first | (go_simp; done) | (go_simp; rfl)); intro gb110 hg w39 hbox hb; have n0_ := Aside0.mk (below_step (by repeat (first | (with_reducible first | exact HB.out | apply below_alloc | apply pw_below_drewN | apply below_drew1) | exact HB.out)) hb); have n1_ := Aside0.mk (hbox); have n2_ := Aside0.mk ((by rw [hg]; exact (below_size (by repeat (first | (with_reducible first | exact HB.out | apply below_alloc | apply pw_below_drewN | apply below_drew1) | exact HB.out))) : w.heap.size ≤ gb110)); have n3_ := Aside0.mk ((by rw [hg]; exact (below_size (by repeat (first | (with_reducible first | exact HB.out | apply below_alloc | apply pw_below_drewN | apply below_drew1) | exact HB.out))) : w.heap.size ≤ gb110)); clear HB; have HB := n0_; have BK110 := n1_; have GW110 := n2_; have GE110 := n3_; clear n0_ n1_ n2_ n3_; clear hb hbox hg; have hcz40_0 : w39.cell? ⟨gb110, 0, none⟩ = some (.int .i64 0) := (blk_cell BK110.out 0).trans rfl; have hcz40_1 : w39.cell? ⟨gb110, 1, none⟩ = some (.int .i64 0) := (blk_cell BK110.out 1).trans rfl; have hcz40_2 : w39.cell? ⟨gb110, 2, none⟩ = some (.int .i64 0) := (blk_cell BK110.out 2).trans rfl; have hcz40_3 : w39.cell? ⟨gb110, 3, none⟩ = some (.bool false) := (blk_cell BK110.out 3).trans rfl; have hfz40_0 := blk_frozen BK110.out 0; have hfz40_1 := blk_frozen BK110.out 1; have hfz40_2 := blk_frozen BK110.out 2; have hfz40_3 := blk_frozen BK110.out 3) | ((with_reducible refine gate_callee (f := 13) rfl ?_); refine goesL_ (some 4) rfl rfl Try.func13 (by kernel_rfl) rfl #[] rfl (by (try simp only [List.map_toArray, List.map_cons, List.map_nil]); first | done | rfl | (simp only [List.length_drop, List.length_take]; rfl)) ?_; (with_reducible refine (rto_Start.calls  t111 t112 t113 t114 _ A3.out).mono ?_); rintro e w41 ⟨rfl, hb⟩; refine ⟨_, rfl, ?_⟩; have n0_ := Aside0.mk (blk_below (g := gb110) (o := .cells #[.int .i64 t106, .int .i64 t107, .int .i64 t108, .bool t109] 23 (0, 0)) (by (with_reducible repeat (first | refine blk_drewN ?_ _ | refine blk_drew ?_ | refine blk_alloc ?_ _)); refine blk_put (cs := #[.int .i64 t106, .int .i64 t107, .int .i64 t108, .bool false]) ?_ 3 _ rfl; (with_reducible repeat (first | refine blk_drewN ?_ _ | refine blk_drew ?_ | refine blk_alloc ?_ _)); refine blk_put (cs := #[.int .i64 t106, .int .i64 t107, .int .i64 0, .bool false]) ?_ 2 _ rfl; (with_reducible repeat (first | refine blk_drewN ?_ _ | refine blk_drew ?_ | refine blk_alloc ?_ _)); refine blk_put (cs := #[.int .i64 t106, .int .i64 0, .int .i64 0, .bool false]) ?_ 1 _ rfl; (with_reducible repeat (first | refine blk_drewN ?_ _ | refine blk_drew ?_ | refine blk_alloc ?_ _)); refine blk_put (cs := #[.int .i64 0, .int .i64 0, .int .i64 0, .bool false]) ?_ 0 _ rfl; (with_reducible repeat (first | refine blk_drewN ?_ _ | refine blk_drew ?_ | refine blk_alloc ?_ _)); exact BK110.out) hb); have n1_ := Aside0.mk (below_step (by repeat (first | (with_reducible first | exact HB.out | apply below_alloc | apply pw_below_drewN | apply below_drew1 | refine below_set ?_ GE110.out) | exact HB.out)) hb); clear BK110; clear HB; have BK110 := n0_; have HB := n1_; clear n0_ n1_; (try clear hb); (try clear hb2); (try clear hk); (try clear hi); have hcz42_0 : w41.cell? ⟨gb110, 0, none⟩ = some (.int .i64 t106) := (blk_cell BK110.out 0).trans rfl; have hcz42_1 : w41.cell? ⟨gb110, 1, none⟩ = some (.int .i64 t107) := (blk_cell BK110.out 1).trans rfl; have hcz42_2 : w41.cell? ⟨gb110, 2, none⟩ = some (.int .i64 t108) := (blk_cell BK110.out 2).trans rfl; have hcz42_3 : w41.cell? ⟨gb110, 3, none⟩ = some (.bool t109) := (blk_cell BK110.out 3).trans rfl; have hfz42_0 := blk_frozen BK110.out 0; have hfz42_1 := blk_frozen BK110.out 1; have hfz42_2 := blk_frozen BK110.out 2; have hfz42_3 := blk_frozen BK110.out 3))
      go_ret
      exact ⟨by first | rfl | (simp [errW_none, errW_some] <;> rfl) | (simp [*, errW_none, errW_some] <;> rfl), by repeat (first | (with_reducible first | exact HB.out | apply below_alloc | apply pw_below_drewN | apply below_drew1 | refine below_set ?_ GE110.out) | exact HB.out)⟩
  · rw [if_neg c4] at H
    have c4b0 : (t113 == 3000) = false := beq_eq_false_iff_ne.mpr c4
    have c4b1 : (t113 != 3000) = true := bne_iff_ne.mpr c4
    obtain rfl := Option.some.inj H
    go_enter Try.func8, Try.ntmps8
    go_wp2_with (first | ((with_reducible refine gate_callee (f := 13) rfl ?_); refine goesL_ (some 2) rfl rfl Try.func13 (by kernel_rfl) rfl #[] rfl (by (try simp only [List.map_toArray, List.map_cons, List.map_nil]); first | done | rfl | (simp only [List.length_drop, List.length_take]; rfl)) ?_; (with_reducible refine (rto_Start.calls  t102 t103 t104 t105 _ A1.out).mono ?_); rintro e w43 ⟨rfl, hb⟩; refine ⟨_, rfl, ?_⟩; have n0_ := Aside0.mk (below_step (by repeat (first | (with_reducible first | exact HB.out | apply below_alloc | apply pw_below_drewN | apply below_drew1) | exact HB.out)) hb); clear HB; have HB := n0_; clear n0_; (try clear hb); (try clear hb2); (try clear hk); (try clear hi)) | ((with_reducible refine gate_callee (f := 9) rfl ?_); refine goesL_ (some 3) rfl rfl Try.func9 (by kernel_rfl) rfl #[.agg #[.int .i64 t102, .int .i64 t103, .int .i64 t104, .bool t105], .int .i64 100] rfl (by (try simp only [List.map_toArray, List.map_cons, List.map_nil]); first | done | rfl | (simp only [List.length_drop, List.length_take]; rfl)) ?_; (with_reducible refine (rto_Sample.calls t102 t103 t104 t105 100 t106 t107 t108 t109 _ A2.out).mono ?_); rintro e w44 ⟨rfl, hb⟩; refine ⟨_, rfl, ?_⟩; have n0_ := Aside0.mk (below_step (by repeat (first | (with_reducible first | exact HB.out | apply below_alloc | apply pw_below_drewN | apply below_drew1) | exact HB.out)) hb); clear HB; have HB := n0_; clear n0_; (try clear hb); (try clear hb2); (try clear hk); (try clear hi)) | ((with_reducible refine gate_dst (N := 1) rfl ?_); refine box_event ?hg (N := 1) ?hd (cs := #[.int .i64 0, .int .i64 0, .int .i64 0, .bool false]) (t := 23) ?hr ?_; (case hd => rfl); (case hg => rfl); (case hr => first | (go_simp; done) | (go_simp; rfl)); intro gb110 hg w45 hbox hb; have n0_ := Aside0.mk (below_step (by repeat (first | (with_reducible first | exact HB.out | apply below_alloc | apply pw_below_drewN | apply below_drew1) | exact HB.out)) hb); have n1_ := Aside0.mk (hbox); have n2_ := Aside0.mk ((by rw [hg]; exact (below_size (by repeat (first | (with_reducible first | exact HB.out | apply below_alloc | apply pw_below_drewN | apply below_drew1) | exact HB.out))) : w.heap.size ≤ gb110)); have n3_ := Aside0.mk ((by rw [hg]; exact (below_size (by repeat (first | (with_reducible first | exact HB.out | apply below_alloc | apply pw_below_drewN | apply below_drew1) | exact HB.out))) : w.heap.size ≤ gb110)); clear HB; have HB := n0_; have BK110 := n1_; have GW110 := n2_; have GE110 := n3_; clear n0_ n1_ n2_ n3_; clear hb hbox hg; have hcz46_0 : w45.cell? ⟨gb110, 0, none⟩ = some (.int .i64 0) := (blk_cell BK110.out 0).trans rfl; have hcz46_1 : w45.cell? ⟨gb110, 1, none⟩ = some (.int .i64 0) := (blk_cell BK110.out 1).trans rfl; have hcz46_2 : w45.cell? ⟨gb110, 2, none⟩ = some (.int .i64 0) := (blk_cell BK110.out 2).trans rfl; have hcz46_3 : w45.cell? ⟨gb110, 3, none⟩ = some (.bool false) := (blk_cell BK110.out 3).trans rfl; have hfz46_0 := blk_frozen BK110.out 0; have hfz46_1 := blk_frozen BK110.out 1; have hfz46_2 := blk_frozen BK110.out 2; have hfz46_3 := blk_frozen BK110.out 3) | ((with_reducible refine gate_callee (f := 13) rfl ?_); refine goesL_ (some 4) rfl rfl Try.func13 (by kernel_rfl) rfl #[] rfl (by (try simp only [List.map_toArray, List.map_cons, List.map_nil]); first | done | rfl | (simp only [List.length_drop, List.length_take]; rfl)) ?_; (with_reducible refine (rto_Start.calls  t111 t112 t113 t114 _ A3.out).mono ?_); rintro e w47 ⟨rfl, hb⟩; refine ⟨_, rfl, ?_⟩; have n0_ := Aside0.mk (blk_below (g := gb110) (o := .cells #[.int .i64 t106, .int .i64 t107, .int .i64 t108, .bool t109] 23 (0, 0)) (by (with_reducible repeat (first | refine blk_drewN ?_ _ | refine blk_drew ?_ | refine blk_alloc ?_ _)); refine blk_put (cs := #[.int .i64 t106, .int .i64 t107, .int .i64 t108, .bool false]) ?_ 3 _ rfl; (with_reducible repeat (first | refine blk_drewN ?_ _ | refine blk_drew ?_ | refine blk_alloc ?_ _)); refine blk_put (cs := #[.int .i64 t106, .int .i64 t107, .int .i64 0, .bool false]) ?_ 2 _ rfl; (with_reducible repeat (first | refine blk_drewN ?_ _ | refine blk_drew ?_ | refine blk_alloc ?_ _)); refine blk_put (cs := #[.int .i64 t106, .int .i64 0, .int .i64 0, .bool false]) ?_ 1 _ rfl; (with_reducible repeat (first | refine blk_drewN ?_ _ | refine blk_drew ?_ | refine blk_alloc ?_ _)); refine blk_put (cs := #[.int .i64 0, .int .i64 0, .int .i64 0, .bool false]) ?_ 0 _ rfl; (with_reducible repeat (first | refine blk_drewN ?_ _ | refine blk_drew ?_ | refine blk_alloc ?_ _)); exact BK110.out) hb); have n1_ := Aside0.mk (below_step (by repeat (first | (with_reducible first | exact HB.out | apply below_alloc | apply pw_below_drewN | apply below_drew1 | refine below_set ?_ GE110.out) | exact HB.out)) hb); clear BK110; clear HB; have BK110 := n0_; have HB := n1_; clear n0_ n1_; (try clear hb); (try clear hb2); (try clear hk); (try clear hi)))
    go_ret
    exact ⟨by first | rfl | (simp [errW_none, errW_some] <;> rfl) | (simp [*, errW_none, errW_some] <;> rfl), by repeat (first | (with_reducible first | exact HB.out | apply below_alloc | apply pw_below_drewN | apply below_drew1 | refine below_set ?_ GE110.out) | exact HB.out)⟩

/-! ### bollardlaw11_RtoBetween: function 7 -/
def bollardlaw11_RtoBetween.l0 : Nat → List Int → Int → Bool → Int → Int → Int → Int → Bool → Option (Bool)
  | 0, _, _, _, _, _, _, _, _ => none
  | k + 1, x0, x1, x5, x7, x129000, x129001, x129002, x129003 => if x7 < (x0.length : Int) then (if 0 ≤ x7 then ((rto_Sample.f x129000 x129001 x129002 x129003 (Go.bits .and .i64 (rd x0 x7) 1073741823)).bind fun bt130 => (bollardlaw11_RtoBetween.l0 k x0 x1 x5 (wrap64 (x7 + 1)) bt130.1 bt130.2.1 bt130.2.2.1 bt130.2.2.2)) else (none)) else ((rto_Sample.f x129000 x129001 x129002 x129003 (Go.bits .and .i64 x1 1073741823)).bind fun bt134 => (if x129003 = true then (if x5 = true then (if bt134.1 ≥ (wrap64 ((mn x129000 (Go.bits .and .i64 x1 1073741823)) - 1)) then (if bt134.1 ≤ (mx x129000 (Go.bits .and .i64 x1 1073741823)) then (some (decide (bt134.2.2.1 ≥ (mn bt134.1 60000)))) else (some false)) else (some false)) else (some false)) else (if x5 = true then (some (bt134.1 == (Go.bits .and .i64 x1 1073741823))) else (some false))))
def bollardlaw11_RtoBetween.f (k : Nat) (l0 : List Int) (a1 : Int) : Option (Bool) := (bollardlaw11_awake.f).bind fun t123 => (if (l0.length : Int) > 200 then (some t123) else ((rto_Start.f).bind fun bt124 => (bollardlaw11_RtoBetween.l0 k l0 a1 t123 0 bt124.1 bt124.2.1 bt124.2.2.1 bt124.2.2.2)))
theorem bollardlaw11_RtoBetween.mono_l : ∀ k, (∀ y0 y1 y2 y3 y4 y5 y6 y7, LeO (bollardlaw11_RtoBetween.l0 k y0 y1 y2 y3 y4 y5 y6 y7) (bollardlaw11_RtoBetween.l0 (k + 1) y0 y1 y2 y3 y4 y5 y6 y7))
  | 0 => fun _ _ _ _ _ _ _ _ r h => by simp [bollardlaw11_RtoBetween.l0] at h
  | k + 1 => by
    have ih0 := bollardlaw11_RtoBetween.mono_l k
    · intro y0 y1 y2 y3 y4 y5 y6 y7
      unfold bollardlaw11_RtoBetween.l0
      repeat' first
      | (with_reducible exact ih0 _ _ _ _ _ _ _ _)
      | (with_reducible exact LeO.refl _)
      | (with_reducible exact LeO.none _)
      | (with_reducible refine LeO.ite ?_ ?_)
      | (with_reducible refine LeO.bind ?_ (fun _ => ?_))
      | exact ih0 _ _ _ _ _ _ _ _
      | exact LeO.none _
      | refine LeO.ite ?_ ?_
      | refine LeO.bind ?_ (fun _ => ?_)
theorem bollardlaw11_RtoBetween.mono : ∀ a0 a1 k, LeO (bollardlaw11_RtoBetween.f k a0 a1) (bollardlaw11_RtoBetween.f (k + 1) a0 a1) := by
  intro a0 a1 k
  have ih0 := bollardlaw11_RtoBetween.mono_l k
  unfold bollardlaw11_RtoBetween.f
  repeat' first
      | (with_reducible exact ih0 _ _ _ _ _ _ _ _)
      | (with_reducible exact LeO.refl _)
      | (with_reducible exact LeO.none _)
      | (with_reducible refine LeO.ite ?_ ?_)
      | (with_reducible refine LeO.bind ?_ (fun _ => ?_))
      | exact ih0 _ _ _ _ _ _ _ _
      | exact LeO.none _
      | refine LeO.ite ?_ ?_
      | refine LeO.bind ?_ (fun _ => ?_)
def bollardlaw11_RtoBetween.T8 : Bool × List (List Nat × List Nat) := (true, [([], []), ([], []), ([], []), ([1, 2], [1, 2]), ([3], [3]), ([4], [4]), ([0, 5], [0, 5]), ([6, 6, 0, 1, 2, 3, 4, 5, 6], [6])])
def bollardlaw11_RtoBetween.B8 : List Nat := [0, 0, 0, 6, 14, 30, 63, 127]
theorem bollardlaw11_RtoBetween.tab8 : rtab .any (opsOf Try.f7 8) = bollardlaw11_RtoBetween.T8 := by kernel_rfl
theorem bollardlaw11_RtoBetween.bits8 : waitsOk bollardlaw11_RtoBetween.T8.2 bollardlaw11_RtoBetween.B8 = true := by kernel_rfl
set_option maxHeartbeats 8000000 in
set_option maxRecDepth 100000 in
theorem bollardlaw11_RtoBetween.calls (k : Nat) (A0 : Option Addr) (c0 : Nat) (l0 : List Int) (a1 : Int) (w : World) (hr0 : Kd.C (Kd.int .i64) w A0 l0.length l0) (hc0 : l0.length ≤ c0) (h : bollardlaw11_RtoBetween.f k l0 a1 = some true) :
    Calls Try.prog 7 #[.slice A0 l0.length c0, .int .i64 a1] w fun e w' => e = .returned (.bool true) ∧ Below w.heap.size w w' := by
  have hu23 := Try.underlying23
  have HR0 := Aside0.mk hr0
  have HC0 := Aside0.mk hc0
  clear hr0 hc0
  have HB := Aside0.mk (Below.refl w.heap.size w)
  have H : ((bollardlaw11_awake.f).bind fun t123 => (if (l0.length : Int) > 200 then (some t123) else ((rto_Start.f).bind fun bt124 => (bollardlaw11_RtoBetween.l0 k l0 a1 t123 0 bt124.1 bt124.2.1 bt124.2.2.1 bt124.2.2.2)))) = some true := h
  clear h
  replace H := Option.bind_eq_some_iff.mp H
  obtain ⟨t123, A30, H⟩ := H
  replace H : (if (l0.length : Int) > 200 then (some t123) else ((rto_Start.f).bind fun bt124 => (bollardlaw11_RtoBetween.l0 k l0 a1 t123 0 bt124.1 bt124.2.1 bt124.2.2.1 bt124.2.2.2))) = some true := H
  have A3 := Aside0.mk A30
  clear A30
  by_cases c4 : (l0.length : Int) > 200
  · rw [if_pos c4] at H
    have c4b0 : decide (200 < (l0.length : Int)) = true := decide_eq_true c4
    have c4b1 : decide (200 < l0.length) = true := decide_eq_true (by omega)
    clear c4
    have HRT := Aside0.mk (Option.some.inj H)
    clear H
    go_enter Try.func7, Try.ntmps7
    go_wp2_with (first | ((with_reducible refine gate_callee (f := 8) rfl ?_); refine goesL_ (some 10) rfl rfl Try.func8 (by kernel_rfl) rfl #[] rfl (by (try simp only [List.map_toArray, List.map_cons, List.map_nil]); first | done | rfl | (simp only [List.length_drop, List.length_take]; rfl)) ?_; (with_reducible refine (bollardlaw11_awake.calls  t123 _ A3.out).mono ?_); rintro e w5 ⟨rfl, hb⟩; refine ⟨_, rfl, ?_⟩; have n0_ := Aside0.mk (below_step (by repeat (first | (with_reducible first | exact HB.out | apply below_alloc | apply pw_below_drewN | apply below_drew1) | exact HB.out)) hb); clear HB; have HB := n0_; clear n0_; (try clear hb); (try clear hb2); (try clear hk); (try clear hi)))
    any_goals (first | (go_ret; refine ⟨?_, ?_⟩; (focus (first | rfl | (rw [HRT.out]; done) | (rw [HRT.out]; rfl) | (simp only [HRT.out]; done) | (simp [HRT.out]; done) | (simp [errW_none, errW_some] <;> rfl) | (simp [*, errW_none, errW_some] <;> rfl))); (repeat (first | (with_reducible first | exact HB.out | apply below_alloc | apply pw_below_drewN | apply below_drew1) | exact HB.out)); done) | fail)
    all_goals (exfalso; first | (simp_all; done) | ((cases t123 <;> simp_all); done))
  · rw [if_neg c4] at H
    have c4b0 : decide (200 < (l0.length : Int)) = false := decide_eq_false c4
    have c4b1 : decide (200 < l0.length) = false := decide_eq_false (by omega)
    clear c4
    replace H := Option.bind_eq_some_iff.mp H
    obtain ⟨⟨t124, t125, t126, t127⟩, A60, H⟩ := H
    replace H : (bollardlaw11_RtoBetween.l0 k l0 a1 t123 0 t124 t125 t126 t127) = some true := H
    have A6 := Aside0.mk A60
    clear A60
    have H' := Aside0.mk H
    clear H
    go_enter Try.func7, Try.ntmps7
    go_wp2_with (first | ((with_reducible refine gate_callee (f := 8) rfl ?_); refine goesL_ (some 10) rfl rfl Try.func8 (by kernel_rfl) rfl #[] rfl (by (try simp only [List.map_toArray, List.map_cons, List.map_nil]); first | done | rfl | (simp only [List.length_drop, List.length_take]; rfl)) ?_; (with_reducible refine (bollardlaw11_awake.calls  t123 _ A3.out).mono ?_); rintro e w7 ⟨rfl, hb⟩; refine ⟨_, rfl, ?_⟩; have n0_ := Aside0.mk (below_step (by repeat (first | (with_reducible first | exact HB.out | apply below_alloc | apply pw_below_drewN | apply below_drew1) | exact HB.out)) hb); clear HB; have HB := n0_; clear n0_; (try clear hb); (try clear hb2); (try clear hk); (try clear hi)) | ((with_reducible refine gate_callee (f := 13) rfl ?_); refine goesL_ (some 15) rfl rfl Try.func13 (by kernel_rfl) rfl #[] rfl (by (try simp only [List.map_toArray, List.map_cons, List.map_nil]); first | done | rfl | (simp only [List.length_drop, List.length_take]; rfl)) ?_; (with_reducible refine (rto_Start.calls  t124 t125 t126 t127 _ A6.out).mono ?_); rintro e w8 ⟨rfl, hb⟩; refine ⟨_, rfl, ?_⟩; have n0_ := Aside0.mk (below_step (by repeat (first | (with_reducible first | exact HB.out | apply below_alloc | apply pw_below_drewN | apply below_drew1) | exact HB.out)) hb); clear HB; have HB := n0_; clear n0_; (try clear hb); (try clear hb2); (try clear hk); (try clear hi)) | ((with_reducible refine gate_dst (N := 6) rfl ?_); (try (refine gate_guard (by rfl) ?_; dsimp only)); refine box_event ?hg (N := 6) ?hd (cs := #[.int .i64 0, .int .i64 0, .int .i64 0, .bool false]) (t := 23) ?hr ?_; (case hd => rfl); (case hg => rfl); (case hr => first | (go_simp; done) | (go_simp; rfl)); intro gb128 hg w9 hbox hb; have n0_ := Aside0.mk (below_step (by repeat (first | (with_reducible first | exact HB.out | apply below_alloc | apply pw_below_drewN | apply below_drew1) | exact HB.out)) hb); have n1_ := Aside0.mk (hbox); have n2_ := Aside0.mk ((by rw [hg]; exact (below_size (by repeat (first | (with_reducible first | exact HB.out | apply below_alloc | apply pw_below_drewN | apply below_drew1) | exact HB.out))) : w.heap.size ≤ gb128)); have n3_ := Aside0.mk ((by rw [hg]; exact (below_size (by repeat (first | (with_reducible first | exact HB.out | apply below_alloc | apply pw_below_drewN | apply below_drew1) | exact HB.out))) : w.heap.size ≤ gb128)); clear HB; have HB := n0_; have BK128 := n1_; have GW128 := n2_; have GE128 := n3_; clear n0_ n1_ n2_ n3_; clear hb hbox hg; have hcz10_0 : w9.cell? ⟨gb128, 0, none⟩ = some (.int .i64 0) := (blk_cell BK128.out 0).trans rfl; have hcz10_1 : w9.cell? ⟨gb128, 1, none⟩ = some (.int .i64 0) := (blk_cell BK128.out 1).trans rfl; have hcz10_2 : w9.cell? ⟨gb128, 2, none⟩ = some (.int .i64 0) := (blk_cell BK128.out 2).trans rfl; have hcz10_3 : w9.cell? ⟨gb128, 3, none⟩ = some (.bool false) := (blk_cell BK128.out 3).trans rfl; have hfz10_0 := blk_frozen BK128.out 0; have hfz10_1 := blk_frozen BK128.out 1; have hfz10_2 := blk_frozen BK128.out 2; have hfz10_3 := blk_frozen BK128.out 3))
    go_loopg [7] k (fun kq v7 w' => ∃ (x7_1 : Int) (x129000_1 : Int) (x129001_1 : Int) (x129002_1 : Int) (x129003_1 : Bool), v7 = .int .i64 x7_1 ∧ Aside0 (bollardlaw11_RtoBetween.l0 kq l0 a1 t123 x7_1 x129000_1 x129001_1 x129002_1 x129003_1 = some true) ∧ Aside0 (kq ≤ k) ∧ Aside0 (w'.heap[gb128]? = some (.cells #[.int .i64 x129000_1, .int .i64 x129001_1, .int .i64 x129002_1, .bool x129003_1] 23 (0, 0))) ∧ Aside0 (Below w.heap.size w w'))
    case atStart => exact ⟨(0), (t124), (t125), (t126), (t127), (by first | rfl | (simp; done) | (simp [*]; done)), H', ⟨Nat.le_refl _⟩, ⟨by (with_reducible repeat (first | refine blk_drewN ?_ _ | refine blk_drew ?_ | refine blk_alloc ?_ _)); refine blk_put (cs := #[.int .i64 t124, .int .i64 t125, .int .i64 t126, .bool false]) ?_ 3 _ rfl; (with_reducible repeat (first | refine blk_drewN ?_ _ | refine blk_drew ?_ | refine blk_alloc ?_ _)); refine blk_put (cs := #[.int .i64 t124, .int .i64 t125, .int .i64 0, .bool false]) ?_ 2 _ rfl; (with_reducible repeat (first | refine blk_drewN ?_ _ | refine blk_drew ?_ | refine blk_alloc ?_ _)); refine blk_put (cs := #[.int .i64 t124, .int .i64 0, .int .i64 0, .bool false]) ?_ 1 _ rfl; (with_reducible repeat (first | refine blk_drewN ?_ _ | refine blk_drew ?_ | refine blk_alloc ?_ _)); refine blk_put (cs := #[.int .i64 0, .int .i64 0, .int .i64 0, .bool false]) ?_ 0 _ rfl; (with_reducible repeat (first | refine blk_drewN ?_ _ | refine blk_drew ?_ | refine blk_alloc ?_ _)); exact BK128.out⟩, ⟨by repeat (first | (with_reducible first | exact HB.out | apply below_alloc | apply pw_below_drewN | apply below_drew1 | refine below_set ?_ GE128.out) | exact HB.out)⟩⟩
    case round =>
      clear H'
      try clear c1
      try clear p2
      try clear c4
      try clear c4b0
      try clear c4b1
      try clear c7
      try clear c8
      try clear hcz10_0
      try clear hcz10_1
      try clear hcz10_2
      try clear hcz10_3
      try clear hfz10_0
      try clear hfz10_1
      try clear hfz10_2
      try clear hfz10_3
      obtain ⟨x7_1, x129000_1, x129001_1, x129002_1, x129003_1, rfl, HA, HK1, BK128, HB⟩ := hrel
      cases gk with
      | zero => exact absurd HA.out (by simp [bollardlaw11_RtoBetween.l0])
      | succ k1 =>
        have H := HA.out
        clear HA
        simp only [bollardlaw11_RtoBetween.l0] at H
        by_cases c11 : x7_1 < (l0.length : Int)
        · rw [if_pos c11] at H
          have c11b0 : decide (x7_1 < (l0.length : Int)) = true := decide_eq_true c11
          clear c11
          by_cases c12 : 0 ≤ x7_1
          · rw [if_pos c12] at H
            have c12b0 : decide (0 ≤ x7_1) = true := decide_eq_true c12
            clear c12
            replace H := Option.bind_eq_some_iff.mp H
            obtain ⟨⟨t130, t131, t132, t133⟩, A130, H⟩ := H
            replace H : (bollardlaw11_RtoBetween.l0 k1 l0 a1 t123 (wrap64 (x7_1 + 1)) t130 t131 t132 t133) = some true := H
            have A13 := Aside0.mk A130
            clear A130
            have H' := Aside0.mk H
            clear H
            try go_wp2
            have n0_ := Aside0.mk (blk_drew BK128.out)
            have n1_ := Aside0.mk (below_drew1 HB.out)
            clear BK128
            clear HB
            have BK128 := n0_
            have HB := n1_
            clear n0_ n1_
            have p129 : 0 ≤ (x7_1 : Int) := of_decide_eq_true (by first | (with_reducible assumption) | assumption)
            have q129 : x7_1 < (l0.length : Int) := of_decide_eq_true (by first | (with_reducible assumption) | assumption)
            obtain ⟨ad129, e129, hx129_0⟩ := Kd.at_int HR0.out x7_1 p129 q129
            have hw129_0 := hx129_0
            cases e129
            replace hx129_0 := (HB.out.cell (World.block_lt_of_cell? w _ hx129_0)).trans hx129_0
            replace p129 := eq_true p129
            replace q129 := eq_true q129
            refine start_ (n := 8) (S := fun w' => w'.cell? ⟨gb128, 0, none⟩ = some (.int .i64 x129000_1) ∧ w'.cell? ⟨gb128, 1, none⟩ = some (.int .i64 x129001_1) ∧ w'.cell? ⟨gb128, 2, none⟩ = some (.int .i64 x129002_1) ∧ w'.cell? ⟨gb128, 3, none⟩ = some (.bool x129003_1) ∧ w'.cell? (ad129.add (x7_1).toNat) = some (.int .i64 (rd l0 x7_1))) (ds := [7]) #[false, false, false, false, false, false, false, false] (by kernel_rfl) rfl rfl ⟨(blk_cell BK128.out 0).trans rfl, (blk_cell BK128.out 1).trans rfl, (blk_cell BK128.out 2).trans rfl, (blk_cell BK128.out 3).trans rfl, ((HB.out.cell (World.block_lt_of_cell? w _ hw129_0)).trans hw129_0)⟩ (fun hHeld => ?_); refine with_tabW bollardlaw11_RtoBetween.tab8 bollardlaw11_RtoBetween.bits8 (fun HT_ HW_ => ?_)
            generalize wr.drew = w14 at BK128 HB hx129_0 hHeld ⊢
            refine pure_ (i := 1) (N := some 23) (v := ?_) (a' := ?_) #[false, true, false, false, false, false, false, false] rfl rfl (any_of HT_.out (by kernel_rfl)) (fun _ _ _ h => h) (Or.inl ⟨by rfl, ?_⟩) ?_ ?_
            rotate_left
            · intro w'
              go_simp
              with_reducible rfl
            rotate_left
            · simp only [Act.put, List.setIfInBounds_toArray, List.set_cons_zero, List.set_cons_succ, i64_w, i32_w]
              rfl
            refine pure_ (i := 2) (N := some 24) (v := ?_) (a' := ?_) #[false, true, true, false, false, false, false, false] rfl rfl (any_of HT_.out (by kernel_rfl)) (fun _ _ _ h => h) (Or.inl ⟨by rfl, ?_⟩) ?_ ?_
            rotate_left
            · intro w'
              go_simp
              with_reducible rfl
            rotate_left
            · simp only [Act.put, List.setIfInBounds_toArray, List.set_cons_zero, List.set_cons_succ, i64_w, i32_w]
              rfl
            refine pure_ (i := 3) (N := some 25) (v := ?_) (a' := ?_) #[false, true, true, true, false, false, false, false] rfl rfl (any_of HT_.out (by kernel_rfl)) (fun _ _ _ h => h) (Or.inl ⟨by rfl, ?_⟩) ?_ ?_
            rotate_left
            · intro w'
              go_simp
              with_reducible rfl
            rotate_left
            · simp only [Act.put, List.setIfInBounds_toArray, List.set_cons_zero, List.set_cons_succ, i64_w, i32_w]
              rfl
            refine take_ (i := 0) (N := some 22) (v := ?_) (a' := ?_) #[true, true, true, true, false, false, false, false] rfl rfl (take_ofW HT_.out HW_.out (by kernel_rfl)) (fun _ _ _ h => h) (Or.inl ⟨by rfl, ?_⟩) hHeld ?_ ?_
            rotate_left
            · rintro w' ⟨s0, s1, s2, s3, s4⟩
              go_simp
              with_reducible rfl
            rotate_left
            · simp only [Act.put, List.setIfInBounds_toArray, List.set_cons_zero, List.set_cons_succ, i64_w, i32_w]
              rfl
            refine take_ (i := 4) (N := some 26) (v := ?_) (a' := ?_) #[true, true, true, true, true, false, false, false] rfl rfl (take_ofW HT_.out HW_.out (by kernel_rfl)) (fun _ _ _ h => h) (Or.inl ⟨by rfl, ?_⟩) hHeld ?_ ?_
            rotate_left
            · rintro w' ⟨s0, s1, s2, s3, s4⟩
              go_simp
              with_reducible rfl
            rotate_left
            · simp only [Act.put, List.setIfInBounds_toArray, List.set_cons_zero, List.set_cons_succ, i64_w, i32_w]
              rfl
            refine pure_ (i := 5) (N := some 27) (v := ?_) (a' := ?_) #[true, true, true, true, true, true, false, false] rfl rfl (any_of HT_.out (by kernel_rfl)) (fun _ _ _ h => h) (Or.inl ⟨by rfl, ?_⟩) ?_ ?_
            rotate_left
            · intro w'
              go_simp
              with_reducible rfl
            rotate_left
            · simp only [Act.put, List.setIfInBounds_toArray, List.set_cons_zero, List.set_cons_succ, i64_w, i32_w]
              rfl
            refine one_ (i := 6) (N := some 28) #[true, true, true, true, true, true, true, false] rfl rfl (one_of HT_.out (by kernel_rfl)) (by decide) (fun K hK => ?_)
            refine goes_ Try.func9 (by kernel_rfl) rfl #[.agg #[.int .i64 x129000_1, .int .i64 x129001_1, .int .i64 x129002_1, .bool x129003_1], .int .i64 (Go.bits .and .i64 (rd l0 x7_1) 1073741823)] (by rfl) rfl rfl (by (try simp only [List.map_toArray, List.map_cons, List.map_nil]); first | done | rfl | (simp only [List.length_drop, List.length_take]; rfl)) ?_
            with_reducible refine (rto_Sample.calls x129000_1 x129001_1 x129002_1 x129003_1 (Go.bits .and .i64 (rd l0 x7_1) 1073741823) t130 t131 t132 t133 _ A13.out).mono ?_
            rintro e w15 ⟨rfl, hb⟩
            refine ⟨_, rfl, ?_⟩
            have n0_ := Aside0.mk (blk_below (g := gb128) (o := .cells #[.int .i64 x129000_1, .int .i64 x129001_1, .int .i64 x129002_1, .bool x129003_1] 23 (0, 0)) (by (with_reducible repeat (first | refine blk_drewN ?_ _ | refine blk_drew ?_ | refine blk_alloc ?_ _)); exact BK128.out) hb)
            have n1_ := Aside0.mk (below_step (by repeat (first | (with_reducible first | exact HB.out | apply below_alloc | apply pw_below_drewN | apply below_drew1 | refine below_set ?_ GE128.out) | exact HB.out)) hb)
            clear BK128
            clear HB
            have BK128 := n0_
            have HB := n1_
            clear n0_ n1_
            (try clear hb)
            (try clear hb2)
            (try clear hk)
            (try clear hi)
            refine hK.out _ _ ⟨(blk_cell BK128.out 0).trans rfl, (blk_cell BK128.out 1).trans rfl, (blk_cell BK128.out 2).trans rfl, (blk_cell BK128.out 3).trans rfl, ((HB.out.cell (World.block_lt_of_cell? w _ hw129_0)).trans hw129_0)⟩ (fun hHeld => ?_)
            clear hK K
            refine norm_ (a' := ?_) ?_ ?_
            rotate_left
            · show Act.put _ (some 28) _ = _
              simp only [Act.put, List.setIfInBounds_toArray, List.set_cons_zero, List.set_cons_succ, i64_w, i32_w]
              rfl
            refine last_ (i := 7) (N := none) #[true, true, true, true, true, true, true, true] rfl rfl (one_of HT_.out (by kernel_rfl)) (by decide) (fun K hK => ?_)
            have hs16 : w15.cell? ⟨gb128, 0, none⟩ = some (.int .i64 x129000_1) := (blk_cell BK128.out 0).trans rfl
            have hfs16 := blk_frozen BK128.out 0
            have hs17 : w15.cell? ⟨gb128, 1, none⟩ = some (.int .i64 x129001_1) := (blk_cell BK128.out 1).trans rfl
            have hfs17 := blk_frozen BK128.out 1
            have hs18 : w15.cell? ⟨gb128, 2, none⟩ = some (.int .i64 x129002_1) := (blk_cell BK128.out 2).trans rfl
            have hfs18 := blk_frozen BK128.out 2
            have hs19 : w15.cell? ⟨gb128, 3, none⟩ = some (.bool x129003_1) := (blk_cell BK128.out 3).trans rfl
            have hfs19 := blk_frozen BK128.out 3
            refine skip_ (w1 := ?_) (by rfl) rfl ?_ ?_
            rotate_left
            · go_simp
              rfl
            refine hK.out _ _ ?_
            clear hK K
            refine done_ (done_of HT_.out (by kernel_rfl)) ?_
            try go_wp2
            go_roundg k1
            case measure => have := HK1.out; omega
            case rel => exact ⟨(wrap64 (x7_1 + 1)), (t130), (t131), (t132), (t133), (by first | rfl | (simp; done) | (simp [*]; done)), H', ⟨by have := HK1.out; omega⟩, ⟨by (with_reducible repeat (first | refine blk_drewN ?_ _ | refine blk_drew ?_ | refine blk_alloc ?_ _)); refine blk_put (cs := #[.int .i64 t130, .int .i64 t131, .int .i64 t132, .bool x129003_1]) ?_ 3 _ rfl; (with_reducible repeat (first | refine blk_drewN ?_ _ | refine blk_drew ?_ | refine blk_alloc ?_ _)); refine blk_put (cs := #[.int .i64 t130, .int .i64 t131, .int .i64 x129002_1, .bool x129003_1]) ?_ 2 _ rfl; (with_reducible repeat (first | refine blk_drewN ?_ _ | refine blk_drew ?_ | refine blk_alloc ?_ _)); refine blk_put (cs := #[.int .i64 t130, .int .i64 x129001_1, .int .i64 x129002_1, .bool x129003_1]) ?_ 1 _ rfl; (with_reducible repeat (first | refine blk_drewN ?_ _ | refine blk_drew ?_ | refine blk_alloc ?_ _)); refine blk_put (cs := #[.int .i64 x129000_1, .int .i64 x129001_1, .int .i64 x129002_1, .bool x129003_1]) ?_ 0 _ rfl; (with_reducible repeat (first | refine blk_drewN ?_ _ | refine blk_drew ?_ | refine blk_alloc ?_ _)); exact BK128.out⟩, ⟨by repeat (first | (with_reducible first | exact HB.out | apply below_alloc | apply pw_below_drewN | apply below_drew1 | refine below_set ?_ GE128.out) | exact HB.out)⟩⟩
          · rw [if_neg c12] at H
            exact absurd H (by simp)
        · rw [if_neg c11] at H
          have c11b0 : decide (x7_1 < (l0.length : Int)) = false := decide_eq_false c11
          clear c11
          replace H := Option.bind_eq_some_iff.mp H
          obtain ⟨⟨t134, t135, t136, t137⟩, A200, H⟩ := H
          replace H : (if x129003_1 = true then (if t123 = true then (if t134 ≥ (wrap64 ((mn x129000_1 (Go.bits .and .i64 a1 1073741823)) - 1)) then (if t134 ≤ (mx x129000_1 (Go.bits .and .i64 a1 1073741823)) then (some (decide (t136 ≥ (mn t134 60000)))) else (some false)) else (some false)) else (some false)) else (if t123 = true then (some (t134 == (Go.bits .and .i64 a1 1073741823))) else (some false))) = some true := H
          have A20 := Aside0.mk A200
          clear A200
          by_cases c21 : x129003_1 = true
          · subst c21
            have H1 : (if t123 = true then (if t134 ≥ (wrap64 ((mn x129000_1 (Go.bits .and .i64 a1 1073741823)) - 1)) then (if t134 ≤ (mx x129000_1 (Go.bits .and .i64 a1 1073741823)) then (some (decide (t136 ≥ (mn t134 60000)))) else (some false)) else (some false)) else (some false)) = some true := by rw [if_pos rfl] at H; exact H
            clear H
            have H := H1
            clear H1
            by_cases c22 : t123 = true
            · subst c22
              have H1 : (if t134 ≥ (wrap64 ((mn x129000_1 (Go.bits .and .i64 a1 1073741823)) - 1)) then (if t134 ≤ (mx x129000_1 (Go.bits .and .i64 a1 1073741823)) then (some (decide (t136 ≥ (mn t134 60000)))) else (some false)) else (some false)) = some true := by rw [if_pos rfl] at H; exact H
              clear H
              have H := H1
              clear H1
              obtain ⟨ji23, hji23⟩ : ∃ j_ : Int, (mn x129000_1 (Go.bits .and .i64 a1 1073741823)) = j_ := ⟨_, rfl⟩
              replace H : (if t134 ≥ (wrap64 ((ji23) - 1)) then (if t134 ≤ (mx x129000_1 (Go.bits .and .i64 a1 1073741823)) then (some (decide (t136 ≥ (mn t134 60000)))) else (some false)) else (some false)) = some true := by first | (rw [hji23] at H; exact H) | (simp only [hji23] at H ⊢; exact H)
              (try rw [hji23] at A20)
              have hji23_ : (if (Go.bits .and .i64 a1 1073741823) < x129000_1 then (Go.bits .and .i64 a1 1073741823) else x129000_1) = ji23 := hji23
              by_cases c24 : t134 ≥ (wrap64 ((ji23) - 1))
              · rw [if_pos c24] at H
                have c24b0 : decide ((wrap64 ((ji23) - 1)) ≤ t134) = true := decide_eq_true c24
                clear c24
                obtain ⟨ji25, hji25⟩ : ∃ j_ : Int, (mx x129000_1 (Go.bits .and .i64 a1 1073741823)) = j_ := ⟨_, rfl⟩
                replace H : (if t134 ≤ (ji25) then (some (decide (t136 ≥ (mn t134 60000)))) else (some false)) = some true := by first | (rw [hji25] at H; exact H) | (simp only [hji25] at H ⊢; exact H)
                (try rw [hji25] at A20)
                have hji25_ : (if x129000_1 < (Go.bits .and .i64 a1 1073741823) then (Go.bits .and .i64 a1 1073741823) else x129000_1) = ji25 := hji25
                by_cases c26 : t134 ≤ (ji25)
                · rw [if_pos c26] at H
                  have c26b0 : decide (t134 ≤ (ji25)) = true := decide_eq_true c26
                  clear c26
                  obtain ⟨ji27, hji27⟩ : ∃ j_ : Int, (mn t134 60000) = j_ := ⟨_, rfl⟩
                  replace H : (some (decide (t136 ≥ (ji27)))) = some true := by first | (rw [hji27] at H; exact H) | (simp only [hji27] at H ⊢; exact H)
                  (try rw [hji27] at A20)
                  (try (have hji27h : ji27 ≤ 60000 := by (rw [← hji27]; unfold mn; (repeat' split) <;> omega)))
                  (try (have hji27g : ji27 ≤ 64 := by omega))
                  have hji27_ : (if 60000 < t134 then 60000 else t134) = ji27 := hji27
                  have HRT := Aside0.mk (Option.some.inj H)
                  clear H
                  have hcz28_0 : wr.cell? ⟨gb128, 0, none⟩ = some (.int .i64 x129000_1) := (blk_cell BK128.out 0).trans rfl
                  have hcz28_1 : wr.cell? ⟨gb128, 1, none⟩ = some (.int .i64 x129001_1) := (blk_cell BK128.out 1).trans rfl
                  have hcz28_2 : wr.cell? ⟨gb128, 2, none⟩ = some (.int .i64 x129002_1) := (blk_cell BK128.out 2).trans rfl
                  have hcz28_3 : wr.cell? ⟨gb128, 3, none⟩ = some (.bool true) := (blk_cell BK128.out 3).trans rfl
                  have hfz28_0 := blk_frozen BK128.out 0
                  have hfz28_1 := blk_frozen BK128.out 1
                  have hfz28_2 := blk_frozen BK128.out 2
                  have hfz28_3 := blk_frozen BK128.out 3
                  go_wp2_with (first | ((with_reducible refine gate_callee (f := 9) rfl ?_); refine goesL_ (some 33) rfl rfl Try.func9 (by kernel_rfl) rfl #[.agg #[.int .i64 x129000_1, .int .i64 x129001_1, .int .i64 x129002_1, .bool true], .int .i64 (Go.bits .and .i64 a1 1073741823)] rfl (by (try simp only [List.map_toArray, List.map_cons, List.map_nil]); first | done | rfl | (simp only [List.length_drop, List.length_take]; rfl)) ?_; (with_reducible refine (rto_Sample.calls x129000_1 x129001_1 x129002_1 true (Go.bits .and .i64 a1 1073741823) t134 t135 t136 t137 _ A20.out).mono ?_); rintro e w29 ⟨rfl, hb⟩; refine ⟨_, rfl, ?_⟩; have n0_ := Aside0.mk (blk_below (g := gb128) (o := .cells #[.int .i64 x129000_1, .int .i64 x129001_1, .int .i64 x129002_1, .bool true] 23 (0, 0)) (by (with_reducible repeat (first | refine blk_drewN ?_ _ | refine blk_drew ?_ | refine blk_alloc ?_ _)); exact BK128.out) hb); have n1_ := Aside0.mk (below_step (by repeat (first | (with_reducible first | exact HB.out | apply below_alloc | apply pw_below_drewN | apply below_drew1 | refine below_set ?_ GE128.out) | exact HB.out)) hb); clear BK128; clear HB; have BK128 := n0_; have HB := n1_; clear n0_ n1_; (try clear hb); (try clear hb2); (try clear hk); (try clear hi)) | ((with_reducible refine gate_dst (N := 9) rfl ?_); (try (refine gate_guard (by rfl) ?_; dsimp only)); refine box_event ?hg (N := 9) ?hd (cs := #[.int .i64 0, .int .i64 0, .int .i64 0, .bool false]) (t := 23) ?hr ?_; (case hd => rfl); (case hg => rfl); (case hr => first | (go_simp; done) | (go_simp; rfl)); intro gb138 hg w30 hbox hb; have n0_ := Aside0.mk (blk_below (g := gb128) (o := .cells #[.int .i64 x129000_1, .int .i64 x129001_1, .int .i64 x129002_1, .bool true] 23 (0, 0)) (by (with_reducible repeat (first | refine blk_drewN ?_ _ | refine blk_drew ?_ | refine blk_alloc ?_ _)); exact BK128.out) hb); have n1_ := Aside0.mk (below_step (by repeat (first | (with_reducible first | exact HB.out | apply below_alloc | apply pw_below_drewN | apply below_drew1 | refine below_set ?_ GE128.out) | exact HB.out)) hb); have n2_ := Aside0.mk (hbox); have n3_ := Aside0.mk ((by rw [hg]; exact (below_size (by repeat (first | (with_reducible first | exact HB.out | apply below_alloc | apply pw_below_drewN | apply below_drew1 | refine below_set ?_ GE128.out) | exact HB.out))) : w.heap.size ≤ gb138)); have n4_ := Aside0.mk ((by rw [hg]; exact (below_size (by repeat (first | (with_reducible first | exact HB.out | apply below_alloc | apply pw_below_drewN | apply below_drew1 | refine below_set ?_ GE128.out) | exact HB.out))) : w.heap.size ≤ gb138)); have n5_ := Aside0.mk ((by rw [hg]; exact Nat.ne_of_lt (blk_lt (g := gb128) (o := .cells #[.int .i64 x129000_1, .int .i64 x129001_1, .int .i64 x129002_1, .bool true] 23 (0, 0)) (by (with_reducible repeat (first | refine blk_drewN ?_ _ | refine blk_drew ?_ | refine blk_alloc ?_ _)); exact BK128.out)) : gb128 ≠ gb138)); have n6_ := Aside0.mk ((by rw [hg]; exact Nat.ne_of_gt (blk_lt (g := gb128) (o := .cells #[.int .i64 x129000_1, .int .i64 x129001_1, .int .i64 x129002_1, .bool true] 23 (0, 0)) (by (with_reducible repeat (first | refine blk_drewN ?_ _ | refine blk_drew ?_ | refine blk_alloc ?_ _)); exact BK128.out)) : gb138 ≠ gb128)); clear BK128; clear HB; have BK128 := n0_; have HB := n1_; have BK138 := n2_; have GW138 := n3_; have GE138 := n4_; have NB128_138 := n5_; have NB138_128 := n6_; clear n0_ n1_ n2_ n3_ n4_ n5_ n6_; clear hb hbox hg; have hnb31 := NB138_128.out; have hnc31 := NB128_138.out; have hcz32_0 : w30.cell? ⟨gb138, 0, none⟩ = some (.int .i64 0) := (blk_cell BK138.out 0).trans rfl; have hcz32_1 : w30.cell? ⟨gb138, 1, none⟩ = some (.int .i64 0) := (blk_cell BK138.out 1).trans rfl; have hcz32_2 : w30.cell? ⟨gb138, 2, none⟩ = some (.int .i64 0) := (blk_cell BK138.out 2).trans rfl; have hcz32_3 : w30.cell? ⟨gb138, 3, none⟩ = some (.bool false) := (blk_cell BK138.out 3).trans rfl; have hfz32_0 := blk_frozen BK138.out 0; have hfz32_1 := blk_frozen BK138.out 1; have hfz32_2 := blk_frozen BK138.out 2; have hfz32_3 := blk_frozen BK138.out 3; have hcz33_0 : w30.cell? ⟨gb128, 0, none⟩ = some (.int .i64 x129000_1) := (blk_cell BK128.out 0).trans rfl; have hcz33_1 : w30.cell? ⟨gb128, 1, none⟩ = some (.int .i64 x129001_1) := (blk_cell BK128.out 1).trans rfl; have hcz33_2 : w30.cell? ⟨gb128, 2, none⟩ = some (.int .i64 x129002_1) := (blk_cell BK128.out 2).trans rfl; have hcz33_3 : w30.cell? ⟨gb128, 3, none⟩ = some (.bool true) := (blk_cell BK128.out 3).trans rfl; have hfz33_0 := blk_frozen BK128.out 0; have hfz33_1 := blk_frozen BK128.out 1; have hfz33_2 := blk_frozen BK128.out 2; have hfz33_3 := blk_frozen BK128.out 3))
                  any_goals (first | (go_ret; refine ⟨?_, ?_⟩; (focus (first | rfl | (rw [HRT.out]; done) | (rw [HRT.out]; rfl) | (simp only [HRT.out]; done) | (simp [HRT.out]; done) | (simp [errW_none, errW_some] <;> rfl) | (simp only [← hji23, ← hji25, ← hji27]; first | rfl | (simp [errW_none, errW_some] <;> rfl)) | (simp [*, errW_none, errW_some] <;> rfl))); (repeat (first | (with_reducible first | exact HB.out | apply below_alloc | apply pw_below_drewN | apply below_drew1 | refine below_set ?_ GE128.out | refine below_set ?_ GE138.out) | exact HB.out)); done) | fail)
                  all_goals (exfalso; first | (simp_all; done) | ((cases t137 <;> simp_all); done))
                · rw [if_neg c26] at H
                  have c26b0 : decide (t134 ≤ (ji25)) = false := decide_eq_false c26
                  clear c26
                  exact absurd H (by decide)
              · rw [if_neg c24] at H
                have c24b0 : decide ((wrap64 ((ji23) - 1)) ≤ t134) = false := decide_eq_false c24
                clear c24
                exact absurd H (by decide)
            · replace c22 := Bool.eq_false_iff.mpr c22
              subst c22
              have H1 : (some false) = some true := by rw [if_neg (show ¬ (false = true) by decide)] at H; exact H
              clear H
              have H := H1
              clear H1
              exact absurd H (by decide)
          · replace c21 := Bool.eq_false_iff.mpr c21
            subst c21
            have H1 : (if t123 = true then (some (t134 == (Go.bits .and .i64 a1 1073741823))) else (some false)) = some true := by rw [if_neg (show ¬ (false = true) by decide)] at H; exact H
            clear H
            have H := H1
            clear H1
            by_cases c34 : t123 = true
            · subst c34
              have H1 : (some (t134 == (Go.bits .and .i64 a1 1073741823))) = some true := by rw [if_pos rfl] at H; exact H
              clear H
              have H := H1
              clear H1
              have HRT := Aside0.mk (Option.some.inj H)
              clear H
              have hcz35_0 : wr.cell? ⟨gb128, 0, none⟩ = some (.int .i64 x129000_1) := (blk_cell BK128.out 0).trans rfl
              have hcz35_1 : wr.cell? ⟨gb128, 1, none⟩ = some (.int .i64 x129001_1) := (blk_cell BK128.out 1).trans rfl
              have hcz35_2 : wr.cell? ⟨gb128, 2, none⟩ = some (.int .i64 x129002_1) := (blk_cell BK128.out 2).trans rfl
              have hcz35_3 : wr.cell? ⟨gb128, 3, none⟩ = some (.bool false) := (blk_cell BK128.out 3).trans rfl
              have hfz35_0 := blk_frozen BK128.out 0
              have hfz35_1 := blk_frozen BK128.out 1
              have hfz35_2 := blk_frozen BK128.out 2
              have hfz35_3 := blk_frozen BK128.out 3
              go_wp2_with (first | ((with_reducible refine gate_callee (f := 9) rfl ?_); refine goesL_ (some 33) rfl rfl Try.func9 (by kernel_rfl) rfl #[.agg #[.int .i64 x129000_1, .int .i64 x129001_1, .int .i64 x129002_1, .bool false], .int .i64 (Go.bits .and .i64 a1 1073741823)] rfl (by (try simp only [List.map_toArray, List.map_cons, List.map_nil]); first | done | rfl | (simp only [List.length_drop, List.length_take]; rfl)) ?_; (with_reducible refine (rto_Sample.calls x129000_1 x129001_1 x129002_1 false (Go.bits .and .i64 a1 1073741823) t134 t135 t136 t137 _ A20.out).mono ?_); rintro e w36 ⟨rfl, hb⟩; refine ⟨_, rfl, ?_⟩; have n0_ := Aside0.mk (blk_below (g := gb128) (o := .cells #[.int .i64 x129000_1, .int .i64 x129001_1, .int .i64 x129002_1, .bool false] 23 (0, 0)) (by (with_reducible repeat (first | refine blk_drewN ?_ _ | refine blk_drew ?_ | refine blk_alloc ?_ _)); exact BK128.out) hb); have n1_ := Aside0.mk (below_step (by repeat (first | (with_reducible first | exact HB.out | apply below_alloc | apply pw_below_drewN | apply below_drew1 | refine below_set ?_ GE128.out) | exact HB.out)) hb); clear BK128; clear HB; have BK128 := n0_; have HB := n1_; clear n0_ n1_; (try clear hb); (try clear hb2); (try clear hk); (try clear hi)) | ((with_reducible refine gate_dst (N := 9) rfl ?_); (try (refine gate_guard (by rfl) ?_; dsimp only)); refine box_event ?hg (N := 9) ?hd (cs := #[.int .i64 0, .int .i64 0, .int .i64 0, .bool false]) (t := 23) ?hr ?_; (case hd => rfl); (case hg => rfl); (case hr => first | (go_simp; done) | (go_simp; rfl)); intro gb138 hg w37 hbox hb; have n0_ := Aside0.mk (blk_below (g := gb128) (o := .cells #[.int .i64 x129000_1, .int .i64 x129001_1, .int .i64 x129002_1, .bool false] 23 (0, 0)) (by (with_reducible repeat (first | refine blk_drewN ?_ _ | refine blk_drew ?_ | refine blk_alloc ?_ _)); exact BK128.out) hb); have n1_ := Aside0.mk (below_step (by repeat (first | (with_reducible first | exact HB.out | apply below_alloc | apply pw_below_drewN | apply below_drew1 | refine below_set ?_ GE128.out) | exact HB.out)) hb); have n2_ := Aside0.mk (hbox); have n3_ := Aside0.mk ((by rw [hg]; exact (below_size (by repeat (first | (with_reducible first | exact HB.out | apply below_alloc | apply pw_below_drewN | apply below_drew1 | refine below_set ?_ GE128.out) | exact HB.out))) : w.heap.size ≤ gb138)); have n4_ := Aside0.mk ((by rw [hg]; exact (below_size (by repeat (first | (with_reducible first | exact HB.out | apply below_alloc | apply pw_below_drewN | apply below_drew1 | refine below_set ?_ GE128.out) | exact HB.out))) : w.heap.size ≤ gb138)); have n5_ := Aside0.mk ((by rw [hg]; exact Nat.ne_of_lt (blk_lt (g := gb128) (o := .cells #[.int .i64 x129000_1, .int .i64 x129001_1, .int .i64 x129002_1, .bool false] 23 (0, 0)) (by (with_reducible repeat (first | refine blk_drewN ?_ _ | refine blk_drew ?_ | refine blk_alloc ?_ _)); exact BK128.out)) : gb128 ≠ gb138)); have n6_ := Aside0.mk ((by rw [hg]; exact Nat.ne_of_gt (blk_lt (g := gb128) (o := .cells #[.int .i64 x129000_1, .int .i64 x129001_1, .int .i64 x129002_1, .bool false] 23 (0, 0)) (by (with_reducible repeat (first | refine blk_drewN ?_ _ | refine blk_drew ?_ | refine blk_alloc ?_ _)); exact BK128.out)) : gb138 ≠ gb128)); clear BK128; clear HB; have BK128 := n0_; have HB := n1_; have BK138 := n2_; have GW138 := n3_; have GE138 := n4_; have NB128_138 := n5_; have NB138_128 := n6_; clear n0_ n1_ n2_ n3_ n4_ n5_ n6_; clear hb hbox hg; have hnb38 := NB138_128.out; have hnc38 := NB128_138.out; have hcz39_0 : w37.cell? ⟨gb138, 0, none⟩ = some (.int .i64 0) := (blk_cell BK138.out 0).trans rfl; have hcz39_1 : w37.cell? ⟨gb138, 1, none⟩ = some (.int .i64 0) := (blk_cell BK138.out 1).trans rfl; have hcz39_2 : w37.cell? ⟨gb138, 2, none⟩ = some (.int .i64 0) := (blk_cell BK138.out 2).trans rfl; have hcz39_3 : w37.cell? ⟨gb138, 3, none⟩ = some (.bool false) := (blk_cell BK138.out 3).trans rfl; have hfz39_0 := blk_frozen BK138.out 0; have hfz39_1 := blk_frozen BK138.out 1; have hfz39_2 := blk_frozen BK138.out 2; have hfz39_3 := blk_frozen BK138.out 3; have hcz40_0 : w37.cell? ⟨gb128, 0, none⟩ = some (.int .i64 x129000_1) := (blk_cell BK128.out 0).trans rfl; have hcz40_1 : w37.cell? ⟨gb128, 1, none⟩ = some (.int .i64 x129001_1) := (blk_cell BK128.out 1).trans rfl; have hcz40_2 : w37.cell? ⟨gb128, 2, none⟩ = some (.int .i64 x129002_1) := (blk_cell BK128.out 2).trans rfl; have hcz40_3 : w37.cell? ⟨gb128, 3, none⟩ = some (.bool false) := (blk_cell BK128.out 3).trans rfl; have hfz40_0 := blk_frozen BK128.out 0; have hfz40_1 := blk_frozen BK128.out 1; have hfz40_2 := blk_frozen BK128.out 2; have hfz40_3 := blk_frozen BK128.out 3))
              any_goals (first | (go_ret; refine ⟨?_, ?_⟩; (focus (first | rfl | (rw [HRT.out]; done) | (rw [HRT.out]; rfl) | (simp only [HRT.out]; done) | (simp [HRT.out]; done) | (simp [errW_none, errW_some] <;> rfl) | (simp [*, errW_none, errW_some] <;> rfl))); (repeat (first | (with_reducible first | exact HB.out | apply below_alloc | apply pw_below_drewN | apply below_drew1 | refine below_set ?_ GE128.out | refine below_set ?_ GE138.out) | exact HB.out)); done) | fail)
              all_goals (exfalso; first | (simp_all; done) | ((cases t137 <;> simp_all); done))
            · replace c34 := Bool.eq_false_iff.mpr c34
              subst c34
              have H1 : (some false) = some true := by rw [if_neg (show ¬ (false = true) by decide)] at H; exact H
              clear H
              have H := H1
              clear H1
              exact absurd H (by decide)

/-- THE ONE PURE STATEMENT of bollardlaw11_RtoBetween: yours. -/
def bollardlaw11_RtoBetween.Pure : Prop := ∀ (l0 : List Int) (a1 : Int), l0.length ≤ maxLen → l0.length * 8 ≤ 140737488351232 → (∀ x ∈ l0, (Lit.int .i64 x).wf = true) → (Lit.int .i64 a1).wf = true → ∃ k, bollardlaw11_RtoBetween.f k l0 a1 = some true
theorem bollardlaw11_RtoBetween.walk (P : bollardlaw11_RtoBetween.Pure) (a0 : Option Addr) (len0 cap0 : Nat) (z0 : List Int) (a1 : Int) (w : World) (w0 : (a0 = none ∧ len0 = 0 ∧ cap0 = 0 ∧ z0 = []) ∨ ∃ x, a0 = some x ∧ len0 ≤ cap0 ∧ cap0 ≤ maxLen ∧ z0.length = cap0 ∧ (∀ i, i < z0.length → w.cell? (x.add i) = some (.int .i64 (z0.getD i 0))) ∧ ∀ n ∈ z0, (Lit.int .i64 n).wf = true) (y0 : len0 * 8 ≤ 140737488351232) (w1 : (Lit.int .i64 a1).wf = true) :
    Calls Try.prog 7 #[.slice a0 len0 cap0, .int .i64 a1] w fun e w' => e = .returned (.bool true) ∧ Below w.heap.size w w' := by
  obtain ⟨l0, rfl, hr0, hm0, hw0, hc0⟩ := ReadsInt.ofRowC w0
  obtain ⟨k, h⟩ := P l0 a1 hm0 y0 hw0 w1
  refine (bollardlaw11_RtoBetween.calls k _ _ l0 a1 w (Kd.C_of_reads (d := (0 : Int)) (h1 := fun _ => rfl) hr0) hc0 h).mono ?_
  rintro e w' ⟨rfl, hd⟩
  exact ⟨rfl, hd⟩

end Go.Proofs.Ytoahajcjlknbfaa.PRtoBetween
