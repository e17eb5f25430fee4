/- The machine side of one law (contracts of functions, or its row), for every input, without conditions; written by a program of this session, wip/mprint.py. -/
import Derived.Test.YtjnceigeejdleaaPWindowRoomx0
import Derived.Test.YtjnceigeejdleaaPWindowRoomx1
namespace Go.Proofs.Ytjnceigeejdleaa.PWindowRoom
open Go.RowKit Go.Proofs.YtjnceigeejdleaaW.PrintWords Go.Proofs.YtjnceigeejdleaaW.PrintLast Go.Proofs.YtjnceigeejdleaaW.PrintMore
attribute [local go_sem] max2_int min2_int max_two min_two max_three min_three max_four min_four   -- for this text's walks alone
set_option linter.unusedVariables false
set_option linter.unusedSimpArgs false

/-! ### window_Room: function 15 -/
def window_Room.j0 : Nat → Int → Int → Bool → Int → Int → Int → Int → Bool → Int → Option (Int)
  | 0, _, _, _, _, _, _, _, _, _ => none
  | k + 1, x1, x2, x18, x139000, x139001, x139002, x139003, x139004, x139005 => if x18 = true then (some 0) else (if x1 = 0 then (some (mx (mx 0 (mn (wrap64 (x139000 - x1)) x2)) x139003)) else (some (mx 0 (mn (wrap64 (x139000 - x1)) x2))))
def window_Room.f (k : Nat) (a0_0 : Int) (a0_1 : Int) (a0_2 : Int) (a0_3 : Int) (a0_4 : Bool) (a0_5 : Int) (a1 : Int) (a2 : Int) : Option (Int) := (window_State_may.f a0_0 a0_1 a0_2 a0_3 a0_4 a0_5).bind fun t139 => (if t139 = true then (if a1 < 0 then (window_Room.j0 k a1 a2 true a0_0 a0_1 a0_2 a0_3 a0_4 a0_5) else (window_Room.j0 k a1 a2 (decide (a2 < 0)) a0_0 a0_1 a0_2 a0_3 a0_4 a0_5)) else (window_Room.j0 k a1 a2 true a0_0 a0_1 a0_2 a0_3 a0_4 a0_5))
theorem window_Room.mono_l : ∀ k, (∀ y0 y1 y2 y3 y4 y5 y6 y7 y8, LeO (window_Room.j0 k y0 y1 y2 y3 y4 y5 y6 y7 y8) (window_Room.j0 (k + 1) y0 y1 y2 y3 y4 y5 y6 y7 y8))
  | 0 => fun _ _ _ _ _ _ _ _ _ r h => by simp [window_Room.j0] at h
  | k + 1 => by
    have ih0 := window_Room.mono_l k
    · intro y0 y1 y2 y3 y4 y5 y6 y7 y8
      unfold window_Room.j0
      repeat' first
      | (with_reducible exact ih0 _ _ _ _ _ _ _ _ _)
      | (with_reducible exact LeO.refl _)
      | (with_reducible exact LeO.none _)
      | (with_reducible refine LeO.ite ?_ ?_)
      | (with_reducible refine LeO.bind ?_ (fun _ => ?_))
      | exact ih0 _ _ _ _ _ _ _ _ _
      | exact LeO.none _
      | refine LeO.ite ?_ ?_
      | refine LeO.bind ?_ (fun _ => ?_)
theorem window_Room.mono : ∀ a0 a1 a2 a3 a4 a5 a6 a7 k, LeO (window_Room.f k a0 a1 a2 a3 a4 a5 a6 a7) (window_Room.f (k + 1) a0 a1 a2 a3 a4 a5 a6 a7) := by
  intro a0 a1 a2 a3 a4 a5 a6 a7 k
  have ih0 := window_Room.mono_l k
  unfold window_Room.f
  repeat' first
      | (with_reducible exact ih0 _ _ _ _ _ _ _ _ _)
      | (with_reducible exact LeO.refl _)
      | (with_reducible exact LeO.none _)
      | (with_reducible refine LeO.ite ?_ ?_)
      | (with_reducible refine LeO.bind ?_ (fun _ => ?_))
      | exact ih0 _ _ _ _ _ _ _ _ _
      | exact LeO.none _
      | refine LeO.ite ?_ ?_
      | refine LeO.bind ?_ (fun _ => ?_)
set_option maxHeartbeats 8000000 in
set_option maxRecDepth 100000 in
theorem window_Room.calls (k : Nat) (a0_0 : Int) (a0_1 : Int) (a0_2 : Int) (a0_3 : Int) (a0_4 : Bool) (a0_5 : Int) (a1 : Int) (a2 : Int) (r : Int) (w : World) (h : window_Room.f k a0_0 a0_1 a0_2 a0_3 a0_4 a0_5 a1 a2 = some r) :
    Calls Try.prog 15 #[.agg #[.int .i64 a0_0, .int .i64 a0_1, .int .i64 a0_2, .int .i64 a0_3, .bool a0_4, .int .u32 a0_5], .int .i64 a1, .int .i64 a2] w fun e w' => e = .returned (.int .i64 r) ∧ Below w.heap.size w w' := by
  have hu26 := Try.underlying26
  have HB := Aside0.mk (Below.refl w.heap.size w)
  have H : ((window_State_may.f a0_0 a0_1 a0_2 a0_3 a0_4 a0_5).bind fun t139 => (if t139 = true then (if a1 < 0 then (window_Room.j0 k a1 a2 true a0_0 a0_1 a0_2 a0_3 a0_4 a0_5) else (window_Room.j0 k a1 a2 (decide (a2 < 0)) a0_0 a0_1 a0_2 a0_3 a0_4 a0_5)) else (window_Room.j0 k a1 a2 true a0_0 a0_1 a0_2 a0_3 a0_4 a0_5))) = some r := h
  clear h
  have HC4 := Aside0.mk H
  clear H
  go_enter Try.func15, Try.ntmps15
  go_upto_region 1 with (first | ((with_reducible refine gate_dst (N := 3) rfl ?_); refine box_event ?hg (N := 3) ?hd (cs := #[.int .i64 a0_0, .int .i64 a0_1, .int .i64 a0_2, .int .i64 a0_3, .bool a0_4, .int .u32 a0_5]) (t := 26) ?hr ?_; (case hd => rfl); (case hg => rfl); (case hr => first | (go_simp; done) | (go_simp; rfl)); intro gb138 hg w5 hbox hb; have n0_ := Aside0.mk (below_step (by repeat (first | (with_reducible first | exact HB.out | apply below_alloc | apply pw_below_drewN | apply below_drew1) | exact HB.out)) hb); have n1_ := Aside0.mk (hbox); have n2_ := Aside0.mk ((by rw [hg]; exact (below_size (by repeat (first | (with_reducible first | exact HB.out | apply below_alloc | apply pw_below_drewN | apply below_drew1) | exact HB.out))) : w.heap.size ≤ gb138)); have n3_ := Aside0.mk ((by rw [hg]; exact (below_size (by repeat (first | (with_reducible first | exact HB.out | apply below_alloc | apply pw_below_drewN | apply below_drew1) | exact HB.out))) : w.heap.size ≤ gb138)); clear HB; have HB := n0_; have BK138 := n1_; have GW138 := n2_; have GE138 := n3_; clear n0_ n1_ n2_ n3_; clear hb hbox hg))
  (try simp only [Act.put, List.setIfInBounds_toArray, List.set_cons_zero, List.set_cons_succ])
  go_cut [18] (fun v18 wc => ∃ (kq : Nat) (x18_3 : Bool), v18 = .bool x18_3 ∧ Aside0 (window_Room.j0 kq a1 a2 x18_3 a0_0 a0_1 a0_2 a0_3 a0_4 a0_5 = some r) ∧ Aside0 (kq ≤ k) ∧ Aside0 (wc.heap[gb138]? = some (.cells #[.int .i64 a0_0, .int .i64 a0_1, .int .i64 a0_2, .int .i64 a0_3, .bool a0_4, .int .u32 a0_5] 26 (0, 0))) ∧ Aside0 (Below w.heap.size w wc))
  case first =>
    have H := HC4.out
    clear HC4
    replace H := Option.bind_eq_some_iff.mp H
    obtain ⟨t139, A60, H⟩ := H
    replace H : (if t139 = true then (if a1 < 0 then (window_Room.j0 k a1 a2 true a0_0 a0_1 a0_2 a0_3 a0_4 a0_5) else (window_Room.j0 k a1 a2 (decide (a2 < 0)) a0_0 a0_1 a0_2 a0_3 a0_4 a0_5)) else (window_Room.j0 k a1 a2 true a0_0 a0_1 a0_2 a0_3 a0_4 a0_5)) = some r := H
    have A6 := Aside0.mk A60
    clear A60
    by_cases c7 : t139 = true
    · subst c7
      have H1 : (if a1 < 0 then (window_Room.j0 k a1 a2 true a0_0 a0_1 a0_2 a0_3 a0_4 a0_5) else (window_Room.j0 k a1 a2 (decide (a2 < 0)) a0_0 a0_1 a0_2 a0_3 a0_4 a0_5)) = some r := by rw [if_pos rfl] at H; exact H
      clear H
      have H := H1
      clear H1
      by_cases c8 : a1 < 0
      · rw [if_pos c8] at H
        have c8b0 : decide (a1 < 0) = true := decide_eq_true c8
        clear c8
        (first | rw [c8b0] | (simp only [i64_w, i32_w]; rw [c8b0]) | skip)
        have H' := Aside0.mk H
        clear H
        have hcz9_0 : w5.cell? ⟨gb138, 0, none⟩ = some (.int .i64 a0_0) := (blk_cell BK138.out 0).trans rfl
        have hcz9_1 : w5.cell? ⟨gb138, 1, none⟩ = some (.int .i64 a0_1) := (blk_cell BK138.out 1).trans rfl
        have hcz9_2 : w5.cell? ⟨gb138, 2, none⟩ = some (.int .i64 a0_2) := (blk_cell BK138.out 2).trans rfl
        have hcz9_3 : w5.cell? ⟨gb138, 3, none⟩ = some (.int .i64 a0_3) := (blk_cell BK138.out 3).trans rfl
        have hcz9_4 : w5.cell? ⟨gb138, 4, none⟩ = some (.bool a0_4) := (blk_cell BK138.out 4).trans rfl
        have hcz9_5 : w5.cell? ⟨gb138, 5, none⟩ = some (.int .u32 a0_5) := (blk_cell BK138.out 5).trans rfl
        have hfz9_0 := blk_frozen BK138.out 0
        have hfz9_1 := blk_frozen BK138.out 1
        have hfz9_2 := blk_frozen BK138.out 2
        have hfz9_3 := blk_frozen BK138.out 3
        have hfz9_4 := blk_frozen BK138.out 4
        have hfz9_5 := blk_frozen BK138.out 5
        go_wp2_with (first | ((with_reducible refine gate_callee (f := 17) rfl ?_); refine goesL_ (some 9) rfl rfl Try.func17 (by kernel_rfl) rfl #[.agg #[.int .i64 a0_0, .int .i64 a0_1, .int .i64 a0_2, .int .i64 a0_3, .bool a0_4, .int .u32 a0_5]] rfl (by (try simp only [List.map_toArray, List.map_cons, List.map_nil]); first | done | rfl | (simp only [List.length_drop, List.length_take]; rfl)) ?_; (with_reducible refine (window_State_may.calls a0_0 a0_1 a0_2 a0_3 a0_4 a0_5 true _ A6.out).mono ?_); rintro e w10 ⟨rfl, hb⟩; refine ⟨_, rfl, ?_⟩; have n0_ := Aside0.mk (blk_below (g := gb138) (o := .cells #[.int .i64 a0_0, .int .i64 a0_1, .int .i64 a0_2, .int .i64 a0_3, .bool a0_4, .int .u32 a0_5] 26 (0, 0)) (by (with_reducible repeat (first | refine blk_drewN ?_ _ | refine blk_drew ?_ | refine blk_alloc ?_ _)); exact BK138.out) hb); have n1_ := Aside0.mk (below_step (by repeat (first | (with_reducible first | exact HB.out | apply below_alloc | apply pw_below_drewN | apply below_drew1 | refine below_set ?_ GE138.out) | exact HB.out)) hb); clear BK138; clear HB; have BK138 := n0_; have HB := n1_; clear n0_ n1_; (try clear hb); (try clear hb2); (try clear hk); (try clear hi)))
        go_meet
        case rel => exact ⟨_, (true), (by first | rfl | (simp; done) | (simp [*]; done)), H', ⟨by first | omega | exact Nat.le_refl _⟩, ⟨by (with_reducible repeat (first | refine blk_drewN ?_ _ | refine blk_drew ?_ | refine blk_alloc ?_ _)); exact BK138.out⟩, ⟨by repeat (first | (with_reducible first | exact HB.out | apply below_alloc | apply pw_below_drewN | apply below_drew1 | refine below_set ?_ GE138.out) | exact HB.out)⟩⟩
      · rw [if_neg c8] at H
        have c8b0 : decide (a1 < 0) = false := decide_eq_false c8
        clear c8
        (first | rw [c8b0] | (simp only [i64_w, i32_w]; rw [c8b0]) | skip)
        have H' := Aside0.mk H
        clear H
        have hcz11_0 : w5.cell? ⟨gb138, 0, none⟩ = some (.int .i64 a0_0) := (blk_cell BK138.out 0).trans rfl
        have hcz11_1 : w5.cell? ⟨gb138, 1, none⟩ = some (.int .i64 a0_1) := (blk_cell BK138.out 1).trans rfl
        have hcz11_2 : w5.cell? ⟨gb138, 2, none⟩ = some (.int .i64 a0_2) := (blk_cell BK138.out 2).trans rfl
        have hcz11_3 : w5.cell? ⟨gb138, 3, none⟩ = some (.int .i64 a0_3) := (blk_cell BK138.out 3).trans rfl
        have hcz11_4 : w5.cell? ⟨gb138, 4, none⟩ = some (.bool a0_4) := (blk_cell BK138.out 4).trans rfl
        have hcz11_5 : w5.cell? ⟨gb138, 5, none⟩ = some (.int .u32 a0_5) := (blk_cell BK138.out 5).trans rfl
        have hfz11_0 := blk_frozen BK138.out 0
        have hfz11_1 := blk_frozen BK138.out 1
        have hfz11_2 := blk_frozen BK138.out 2
        have hfz11_3 := blk_frozen BK138.out 3
        have hfz11_4 := blk_frozen BK138.out 4
        have hfz11_5 := blk_frozen BK138.out 5
        go_wp2_with (first | ((with_reducible refine gate_callee (f := 17) rfl ?_); refine goesL_ (some 9) rfl rfl Try.func17 (by kernel_rfl) rfl #[.agg #[.int .i64 a0_0, .int .i64 a0_1, .int .i64 a0_2, .int .i64 a0_3, .bool a0_4, .int .u32 a0_5]] rfl (by (try simp only [List.map_toArray, List.map_cons, List.map_nil]); first | done | rfl | (simp only [List.length_drop, List.length_take]; rfl)) ?_; (with_reducible refine (window_State_may.calls a0_0 a0_1 a0_2 a0_3 a0_4 a0_5 true _ A6.out).mono ?_); rintro e w12 ⟨rfl, hb⟩; refine ⟨_, rfl, ?_⟩; have n0_ := Aside0.mk (blk_below (g := gb138) (o := .cells #[.int .i64 a0_0, .int .i64 a0_1, .int .i64 a0_2, .int .i64 a0_3, .bool a0_4, .int .u32 a0_5] 26 (0, 0)) (by (with_reducible repeat (first | refine blk_drewN ?_ _ | refine blk_drew ?_ | refine blk_alloc ?_ _)); exact BK138.out) hb); have n1_ := Aside0.mk (below_step (by repeat (first | (with_reducible first | exact HB.out | apply below_alloc | apply pw_below_drewN | apply below_drew1 | refine below_set ?_ GE138.out) | exact HB.out)) hb); clear BK138; clear HB; have BK138 := n0_; have HB := n1_; clear n0_ n1_; (try clear hb); (try clear hb2); (try clear hk); (try clear hi)))
        go_meet
        case rel => exact ⟨_, (decide (a2 < 0)), (by first | rfl | (simp; done) | (simp [*]; done)), H', ⟨by first | omega | exact Nat.le_refl _⟩, ⟨by (with_reducible repeat (first | refine blk_drewN ?_ _ | refine blk_drew ?_ | refine blk_alloc ?_ _)); exact BK138.out⟩, ⟨by repeat (first | (with_reducible first | exact HB.out | apply below_alloc | apply pw_below_drewN | apply below_drew1 | refine below_set ?_ GE138.out) | exact HB.out)⟩⟩
    · replace c7 := Bool.eq_false_iff.mpr c7
      subst c7
      have H1 : (window_Room.j0 k a1 a2 true a0_0 a0_1 a0_2 a0_3 a0_4 a0_5) = some r := by rw [if_neg (show ¬ (false = true) by decide)] at H; exact H
      clear H
      have H := H1
      clear H1
      have H' := Aside0.mk H
      clear H
      have hcz13_0 : w5.cell? ⟨gb138, 0, none⟩ = some (.int .i64 a0_0) := (blk_cell BK138.out 0).trans rfl
      have hcz13_1 : w5.cell? ⟨gb138, 1, none⟩ = some (.int .i64 a0_1) := (blk_cell BK138.out 1).trans rfl
      have hcz13_2 : w5.cell? ⟨gb138, 2, none⟩ = some (.int .i64 a0_2) := (blk_cell BK138.out 2).trans rfl
      have hcz13_3 : w5.cell? ⟨gb138, 3, none⟩ = some (.int .i64 a0_3) := (blk_cell BK138.out 3).trans rfl
      have hcz13_4 : w5.cell? ⟨gb138, 4, none⟩ = some (.bool a0_4) := (blk_cell BK138.out 4).trans rfl
      have hcz13_5 : w5.cell? ⟨gb138, 5, none⟩ = some (.int .u32 a0_5) := (blk_cell BK138.out 5).trans rfl
      have hfz13_0 := blk_frozen BK138.out 0
      have hfz13_1 := blk_frozen BK138.out 1
      have hfz13_2 := blk_frozen BK138.out 2
      have hfz13_3 := blk_frozen BK138.out 3
      have hfz13_4 := blk_frozen BK138.out 4
      have hfz13_5 := blk_frozen BK138.out 5
      go_wp2_with (first | ((with_reducible refine gate_callee (f := 17) rfl ?_); refine goesL_ (some 9) rfl rfl Try.func17 (by kernel_rfl) rfl #[.agg #[.int .i64 a0_0, .int .i64 a0_1, .int .i64 a0_2, .int .i64 a0_3, .bool a0_4, .int .u32 a0_5]] rfl (by (try simp only [List.map_toArray, List.map_cons, List.map_nil]); first | done | rfl | (simp only [List.length_drop, List.length_take]; rfl)) ?_; (with_reducible refine (window_State_may.calls a0_0 a0_1 a0_2 a0_3 a0_4 a0_5 false _ A6.out).mono ?_); rintro e w14 ⟨rfl, hb⟩; refine ⟨_, rfl, ?_⟩; have n0_ := Aside0.mk (blk_below (g := gb138) (o := .cells #[.int .i64 a0_0, .int .i64 a0_1, .int .i64 a0_2, .int .i64 a0_3, .bool a0_4, .int .u32 a0_5] 26 (0, 0)) (by (with_reducible repeat (first | refine blk_drewN ?_ _ | refine blk_drew ?_ | refine blk_alloc ?_ _)); exact BK138.out) hb); have n1_ := Aside0.mk (below_step (by repeat (first | (with_reducible first | exact HB.out | apply below_alloc | apply pw_below_drewN | apply below_drew1 | refine below_set ?_ GE138.out) | exact HB.out)) hb); clear BK138; clear HB; have BK138 := n0_; have HB := n1_; clear n0_ n1_; (try clear hb); (try clear hb2); (try clear hk); (try clear hi)))
      go_meet
      case rel => exact ⟨_, (true), (by first | rfl | (simp; done) | (simp [*]; done)), H', ⟨by first | omega | exact Nat.le_refl _⟩, ⟨by (with_reducible repeat (first | refine blk_drewN ?_ _ | refine blk_drew ?_ | refine blk_alloc ?_ _)); exact BK138.out⟩, ⟨by repeat (first | (with_reducible first | exact HB.out | apply below_alloc | apply pw_below_drewN | apply below_drew1 | refine below_set ?_ GE138.out) | exact HB.out)⟩⟩
  case rest =>
    clear HC4
    try clear c1
    try clear p2
    try clear c7
    try clear c8
    try clear c8b0
    try clear hcz11_0
    try clear hcz11_1
    try clear hcz11_2
    try clear hcz11_3
    try clear hcz11_4
    try clear hcz11_5
    try clear hcz13_0
    try clear hcz13_1
    try clear hcz13_2
    try clear hcz13_3
    try clear hcz13_4
    try clear hcz13_5
    try clear hcz9_0
    try clear hcz9_1
    try clear hcz9_2
    try clear hcz9_3
    try clear hcz9_4
    try clear hcz9_5
    try clear hfz11_0
    try clear hfz11_1
    try clear hfz11_2
    try clear hfz11_3
    try clear hfz11_4
    try clear hfz11_5
    try clear hfz13_0
    try clear hfz13_1
    try clear hfz13_2
    try clear hfz13_3
    try clear hfz13_4
    try clear hfz13_5
    try clear hfz9_0
    try clear hfz9_1
    try clear hfz9_2
    try clear hfz9_3
    try clear hfz9_4
    try clear hfz9_5
    obtain ⟨kq, x18_3, rfl, HA, HJ3, BK138, HB⟩ := hcut
    cases kq with
    | zero => exact absurd HA.out (by simp [window_Room.j0])
    | succ kj3 =>
      have H := HA.out
      clear HA
      simp only [window_Room.j0] at H
      by_cases c15 : x18_3 = true
      · subst c15
        have H1 : (some 0) = some r := by rw [if_pos rfl] at H; exact H
        clear H
        have H := H1
        clear H1
        obtain rfl := Option.some.inj H
        go_wp2
        go_ret
        exact ⟨by first | rfl | (simp [errW_none, errW_some] <;> rfl) | (simp [*, errW_none, errW_some] <;> rfl), by repeat (first | (with_reducible first | exact HB.out | apply below_alloc | apply pw_below_drewN | apply below_drew1 | refine below_set ?_ GE138.out) | exact HB.out)⟩
      · replace c15 := Bool.eq_false_iff.mpr c15
        subst c15
        have H1 : (if a1 = 0 then (some (mx (mx 0 (mn (wrap64 (a0_0 - a1)) a2)) a0_3)) else (some (mx 0 (mn (wrap64 (a0_0 - a1)) a2)))) = some r := by rw [if_neg (show ¬ (false = true) by decide)] at H; exact H
        clear H
        have H := H1
        clear H1
        obtain ⟨ji16, hji16⟩ : ∃ j_ : Int, (mn (wrap64 (a0_0 - a1)) a2) = j_ := ⟨_, rfl⟩
        replace H : (if a1 = 0 then (some (mx (mx 0 (ji16)) a0_3)) else (some (mx 0 (ji16)))) = some r := by first | (rw [hji16] at H; exact H) | (simp only [hji16] at H ⊢; exact H)
        have hji16_ : (if a2 < (wrap64 (a0_0 - a1)) then a2 else (wrap64 (a0_0 - a1))) = ji16 := hji16
        obtain ⟨ji17, hji17⟩ : ∃ j_ : Int, (mx 0 (ji16)) = j_ := ⟨_, rfl⟩
        replace H : (if a1 = 0 then (some (mx (ji17) a0_3)) else (some ji17)) = some r := by first | (rw [hji17] at H; exact H) | (simp only [hji17] at H ⊢; exact H)
        have hji17_ : (if 0 < (ji16) then (ji16) else 0) = ji17 := hji17
        by_cases c18 : a1 = 0
        · rw [if_pos c18] at H
          have c18b0 : (a1 == 0) = true := beq_iff_eq.mpr c18
          have c18b1 : (a1 != 0) = false := bne_eq_false_iff_eq.mpr c18
          clear c18
          obtain ⟨ji19, hji19⟩ : ∃ j_ : Int, (mx (ji17) a0_3) = j_ := ⟨_, rfl⟩
          replace H : (some ji19) = some r := by first | (rw [hji19] at H; exact H) | (simp only [hji19] at H ⊢; exact H)
          have hji19_ : (if (ji17) < a0_3 then a0_3 else (ji17)) = ji19 := hji19
          obtain rfl := Option.some.inj H
          have hcz20_0 : wc.cell? ⟨gb138, 0, none⟩ = some (.int .i64 a0_0) := (blk_cell BK138.out 0).trans rfl
          have hcz20_1 : wc.cell? ⟨gb138, 1, none⟩ = some (.int .i64 a0_1) := (blk_cell BK138.out 1).trans rfl
          have hcz20_2 : wc.cell? ⟨gb138, 2, none⟩ = some (.int .i64 a0_2) := (blk_cell BK138.out 2).trans rfl
          have hcz20_3 : wc.cell? ⟨gb138, 3, none⟩ = some (.int .i64 a0_3) := (blk_cell BK138.out 3).trans rfl
          have hcz20_4 : wc.cell? ⟨gb138, 4, none⟩ = some (.bool a0_4) := (blk_cell BK138.out 4).trans rfl
          have hcz20_5 : wc.cell? ⟨gb138, 5, none⟩ = some (.int .u32 a0_5) := (blk_cell BK138.out 5).trans rfl
          have hfz20_0 := blk_frozen BK138.out 0
          have hfz20_1 := blk_frozen BK138.out 1
          have hfz20_2 := blk_frozen BK138.out 2
          have hfz20_3 := blk_frozen BK138.out 3
          have hfz20_4 := blk_frozen BK138.out 4
          have hfz20_5 := blk_frozen BK138.out 5
          go_wp2
          go_ret
          exact ⟨by first | rfl | (simp [errW_none, errW_some] <;> rfl) | (simp only [← hji16, ← hji17, ← hji19]; first | rfl | (simp [errW_none, errW_some] <;> rfl)) | (simp [*, errW_none, errW_some] <;> rfl), by repeat (first | (with_reducible first | exact HB.out | apply below_alloc | apply pw_below_drewN | apply below_drew1 | refine below_set ?_ GE138.out) | exact HB.out)⟩
        · rw [if_neg c18] at H
          have c18b0 : (a1 == 0) = false := beq_eq_false_iff_ne.mpr c18
          have c18b1 : (a1 != 0) = true := bne_iff_ne.mpr c18
          obtain rfl := Option.some.inj H
          have hcz21_0 : wc.cell? ⟨gb138, 0, none⟩ = some (.int .i64 a0_0) := (blk_cell BK138.out 0).trans rfl
          have hcz21_1 : wc.cell? ⟨gb138, 1, none⟩ = some (.int .i64 a0_1) := (blk_cell BK138.out 1).trans rfl
          have hcz21_2 : wc.cell? ⟨gb138, 2, none⟩ = some (.int .i64 a0_2) := (blk_cell BK138.out 2).trans rfl
          have hcz21_3 : wc.cell? ⟨gb138, 3, none⟩ = some (.int .i64 a0_3) := (blk_cell BK138.out 3).trans rfl
          have hcz21_4 : wc.cell? ⟨gb138, 4, none⟩ = some (.bool a0_4) := (blk_cell BK138.out 4).trans rfl
          have hcz21_5 : wc.cell? ⟨gb138, 5, none⟩ = some (.int .u32 a0_5) := (blk_cell BK138.out 5).trans rfl
          have hfz21_0 := blk_frozen BK138.out 0
          have hfz21_1 := blk_frozen BK138.out 1
          have hfz21_2 := blk_frozen BK138.out 2
          have hfz21_3 := blk_frozen BK138.out 3
          have hfz21_4 := blk_frozen BK138.out 4
          have hfz21_5 := blk_frozen BK138.out 5
          go_wp2
          go_ret
          exact ⟨by first | rfl | (simp [errW_none, errW_some] <;> rfl) | (simp only [← hji16, ← hji17]; first | rfl | (simp [errW_none, errW_some] <;> rfl)) | (simp [*, errW_none, errW_some] <;> rfl), by repeat (first | (with_reducible first | exact HB.out | apply below_alloc | apply pw_below_drewN | apply below_drew1 | refine below_set ?_ GE138.out) | exact HB.out)⟩

/-! ### bollardlaw12_WindowRoom: function 5 -/
def bollardlaw12_WindowRoom.j0 : Nat → Int → Int → Bool → Int → Bool → Int → Int → Int → Int → Bool → Int → Option (Bool)
  | 0, _, _, _, _, _, _, _, _, _, _, _ => none
  | k + 1, x1, x2, x7, x8, x25, x141000, x141001, x141002, x141003, x141004, x141005 => if x25 = true then (if x7 = true then (some (x8 == 0)) else (some false)) else (if x1 = 0 then (if x7 = true then (if x8 ≥ x141003 then (if x8 ≤ (mx x141000 x141003) then (some (decide (x8 ≤ (mx x2 x141003)))) else (some false)) else (some false)) else (some false)) else (if x7 = true then (if x8 ≥ 0 then (if x8 = 0 then (some true) else (if x8 ≤ (wrap64 (x141000 - x1)) then (some (decide (x8 ≤ x2))) else (some false))) else (some false)) else (some false)))
def bollardlaw12_WindowRoom.f (k : Nat) (a0_0 : Int) (a0_1 : Int) (a0_2 : Int) (a0_3 : Int) (a0_4 : Bool) (a0_5 : Int) (a1 : Int) (a2 : Int) : Option (Bool) := (bollardlaw12_awake.f).bind fun t141 => ((window_Room.f k a0_0 a0_1 a0_2 a0_3 a0_4 a0_5 a1 a2).bind fun t142 => ((bollardlaw12_theirs.f a0_0 a0_1 a0_2 a0_3 a0_4 a0_5).bind fun bt143 => ((bollardref12_May.f bt143.1 bt143.2.1 bt143.2.2.1 bt143.2.2.2.1 bt143.2.2.2.2.1 bt143.2.2.2.2.2).bind fun t149 => (if t149 = true then (if a1 < 0 then (bollardlaw12_WindowRoom.j0 k a1 a2 t141 t142 true a0_0 a0_1 a0_2 a0_3 a0_4 a0_5) else (bollardlaw12_WindowRoom.j0 k a1 a2 t141 t142 (decide (a2 < 0)) a0_0 a0_1 a0_2 a0_3 a0_4 a0_5)) else (bollardlaw12_WindowRoom.j0 k a1 a2 t141 t142 true a0_0 a0_1 a0_2 a0_3 a0_4 a0_5)))))
theorem bollardlaw12_WindowRoom.mono_l : ∀ k, (∀ y0 y1 y2 y3 y4 y5 y6 y7 y8 y9 y10, LeO (bollardlaw12_WindowRoom.j0 k y0 y1 y2 y3 y4 y5 y6 y7 y8 y9 y10) (bollardlaw12_WindowRoom.j0 (k + 1) y0 y1 y2 y3 y4 y5 y6 y7 y8 y9 y10))
  | 0 => fun _ _ _ _ _ _ _ _ _ _ _ r h => by simp [bollardlaw12_WindowRoom.j0] at h
  | k + 1 => by
    have ih0 := bollardlaw12_WindowRoom.mono_l k
    · intro y0 y1 y2 y3 y4 y5 y6 y7 y8 y9 y10
      unfold bollardlaw12_WindowRoom.j0
      repeat' first
      | (with_reducible exact ih0 _ _ _ _ _ _ _ _ _ _ _)
      | (with_reducible exact window_Room.mono _ _ _ _ _ _ _ _ _)
      | (with_reducible exact LeO.refl _)
      | (with_reducible exact LeO.none _)
      | (with_reducible refine LeO.ite ?_ ?_)
      | (with_reducible refine LeO.bind ?_ (fun _ => ?_))
      | exact ih0 _ _ _ _ _ _ _ _ _ _ _
      | exact window_Room.mono _ _ _ _ _ _ _ _ _
      | exact LeO.none _
      | refine LeO.ite ?_ ?_
      | refine LeO.bind ?_ (fun _ => ?_)
theorem bollardlaw12_WindowRoom.mono : ∀ a0 a1 a2 a3 a4 a5 a6 a7 k, LeO (bollardlaw12_WindowRoom.f k a0 a1 a2 a3 a4 a5 a6 a7) (bollardlaw12_WindowRoom.f (k + 1) a0 a1 a2 a3 a4 a5 a6 a7) := by
  intro a0 a1 a2 a3 a4 a5 a6 a7 k
  have ih0 := bollardlaw12_WindowRoom.mono_l k
  unfold bollardlaw12_WindowRoom.f
  repeat' first
      | (with_reducible exact ih0 _ _ _ _ _ _ _ _ _ _ _)
      | (with_reducible exact window_Room.mono _ _ _ _ _ _ _ _ _)
      | (with_reducible exact LeO.refl _)
      | (with_reducible exact LeO.none _)
      | (with_reducible refine LeO.ite ?_ ?_)
      | (with_reducible refine LeO.bind ?_ (fun _ => ?_))
      | exact ih0 _ _ _ _ _ _ _ _ _ _ _
      | exact window_Room.mono _ _ _ _ _ _ _ _ _
      | exact LeO.none _
      | refine LeO.ite ?_ ?_
      | refine LeO.bind ?_ (fun _ => ?_)
set_option maxHeartbeats 8000000 in
set_option maxRecDepth 100000 in
theorem bollardlaw12_WindowRoom.calls (k : Nat) (a0_0 : Int) (a0_1 : Int) (a0_2 : Int) (a0_3 : Int) (a0_4 : Bool) (a0_5 : Int) (a1 : Int) (a2 : Int) (w : World) (h : bollardlaw12_WindowRoom.f k a0_0 a0_1 a0_2 a0_3 a0_4 a0_5 a1 a2 = some true) :
    Calls Try.prog 5 #[.agg #[.int .i64 a0_0, .int .i64 a0_1, .int .i64 a0_2, .int .i64 a0_3, .bool a0_4, .int .u32 a0_5], .int .i64 a1, .int .i64 a2] w fun e w' => e = .returned (.bool true) ∧ Below w.heap.size w w' := by
  have hu26 := Try.underlying26
  have HB := Aside0.mk (Below.refl w.heap.size w)
  have H : ((bollardlaw12_awake.f).bind fun t141 => ((window_Room.f k a0_0 a0_1 a0_2 a0_3 a0_4 a0_5 a1 a2).bind fun t142 => ((bollardlaw12_theirs.f a0_0 a0_1 a0_2 a0_3 a0_4 a0_5).bind fun bt143 => ((bollardref12_May.f bt143.1 bt143.2.1 bt143.2.2.1 bt143.2.2.2.1 bt143.2.2.2.2.1 bt143.2.2.2.2.2).bind fun t149 => (if t149 = true then (if a1 < 0 then (bollardlaw12_WindowRoom.j0 k a1 a2 t141 t142 true a0_0 a0_1 a0_2 a0_3 a0_4 a0_5) else (bollardlaw12_WindowRoom.j0 k a1 a2 t141 t142 (decide (a2 < 0)) a0_0 a0_1 a0_2 a0_3 a0_4 a0_5)) else (bollardlaw12_WindowRoom.j0 k a1 a2 t141 t142 true a0_0 a0_1 a0_2 a0_3 a0_4 a0_5)))))) = some true := h
  clear h
  replace H := Option.bind_eq_some_iff.mp H
  obtain ⟨t141, A40, H⟩ := H
  replace H : ((window_Room.f k a0_0 a0_1 a0_2 a0_3 a0_4 a0_5 a1 a2).bind fun t142 => ((bollardlaw12_theirs.f a0_0 a0_1 a0_2 a0_3 a0_4 a0_5).bind fun bt143 => ((bollardref12_May.f bt143.1 bt143.2.1 bt143.2.2.1 bt143.2.2.2.1 bt143.2.2.2.2.1 bt143.2.2.2.2.2).bind fun t149 => (if t149 = true then (if a1 < 0 then (bollardlaw12_WindowRoom.j0 k a1 a2 t141 t142 true a0_0 a0_1 a0_2 a0_3 a0_4 a0_5) else (bollardlaw12_WindowRoom.j0 k a1 a2 t141 t142 (decide (a2 < 0)) a0_0 a0_1 a0_2 a0_3 a0_4 a0_5)) else (bollardlaw12_WindowRoom.j0 k a1 a2 t141 t142 true a0_0 a0_1 a0_2 a0_3 a0_4 a0_5))))) = some true := H
  have A4 := Aside0.mk A40
  clear A40
  replace H := Option.bind_eq_some_iff.mp H
  obtain ⟨t142, A50, H⟩ := H
  replace H : ((bollardlaw12_theirs.f a0_0 a0_1 a0_2 a0_3 a0_4 a0_5).bind fun bt143 => ((bollardref12_May.f bt143.1 bt143.2.1 bt143.2.2.1 bt143.2.2.2.1 bt143.2.2.2.2.1 bt143.2.2.2.2.2).bind fun t149 => (if t149 = true then (if a1 < 0 then (bollardlaw12_WindowRoom.j0 k a1 a2 t141 t142 true a0_0 a0_1 a0_2 a0_3 a0_4 a0_5) else (bollardlaw12_WindowRoom.j0 k a1 a2 t141 t142 (decide (a2 < 0)) a0_0 a0_1 a0_2 a0_3 a0_4 a0_5)) else (bollardlaw12_WindowRoom.j0 k a1 a2 t141 t142 true a0_0 a0_1 a0_2 a0_3 a0_4 a0_5)))) = some true := H
  have A5 := Aside0.mk A50
  clear A50
  have HC6 := Aside0.mk H
  clear H
  go_enter Try.func5, Try.ntmps5
  go_upto_region 3 with (first | ((with_reducible refine gate_dst (N := 3) rfl ?_); (try (refine gate_guard (by rfl) ?_; dsimp only)); refine box_event ?hg (N := 3) ?hd (cs := #[.int .i64 a0_0, .int .i64 a0_1, .int .i64 a0_2, .int .i64 a0_3, .bool a0_4, .int .u32 a0_5]) (t := 26) ?hr ?_; (case hd => rfl); (case hg => rfl); (case hr => first | (go_simp; done) | (go_simp; rfl)); intro gb140 hg w7 hbox hb; have n0_ := Aside0.mk (below_step (by repeat (first | (with_reducible first | exact HB.out | apply below_alloc | apply pw_below_drewN | apply below_drew1) | exact HB.out)) hb); have n1_ := Aside0.mk (hbox); have n2_ := Aside0.mk ((by rw [hg]; exact (below_size (by repeat (first | (with_reducible first | exact HB.out | apply below_alloc | apply pw_below_drewN | apply below_drew1) | exact HB.out))) : w.heap.size ≤ gb140)); have n3_ := Aside0.mk ((by rw [hg]; exact (below_size (by repeat (first | (with_reducible first | exact HB.out | apply below_alloc | apply pw_below_drewN | apply below_drew1) | exact HB.out))) : w.heap.size ≤ gb140)); clear HB; have HB := n0_; have BK140 := n1_; have GW140 := n2_; have GE140 := n3_; clear n0_ n1_ n2_ n3_; clear hb hbox hg) | ((with_reducible refine gate_callee (f := 7) rfl ?_); refine goesL_ (some 9) rfl rfl Try.func7 (by kernel_rfl) rfl #[] rfl (by (try simp only [List.map_toArray, List.map_cons, List.map_nil]); first | done | rfl | (simp only [List.length_drop, List.length_take]; rfl)) ?_; (with_reducible refine (bollardlaw12_awake.calls  t141 _ A4.out).mono ?_); rintro e w8 ⟨rfl, hb⟩; refine ⟨_, rfl, ?_⟩; have n0_ := Aside0.mk (blk_below (g := gb140) (o := .cells #[.int .i64 a0_0, .int .i64 a0_1, .int .i64 a0_2, .int .i64 a0_3, .bool a0_4, .int .u32 a0_5] 26 (0, 0)) (by (with_reducible repeat (first | refine blk_drewN ?_ _ | refine blk_drew ?_ | refine blk_alloc ?_ _)); exact BK140.out) hb); have n1_ := Aside0.mk (below_step (by repeat (first | (with_reducible first | exact HB.out | apply below_alloc | apply pw_below_drewN | apply below_drew1 | refine below_set ?_ GE140.out) | exact HB.out)) hb); clear BK140; clear HB; have BK140 := n0_; have HB := n1_; clear n0_ n1_; (try clear hb); (try clear hb2); (try clear hk); (try clear hi); have hcz9_0 : w8.cell? ⟨gb140, 0, none⟩ = some (.int .i64 a0_0) := (blk_cell BK140.out 0).trans rfl; have hcz9_1 : w8.cell? ⟨gb140, 1, none⟩ = some (.int .i64 a0_1) := (blk_cell BK140.out 1).trans rfl; have hcz9_2 : w8.cell? ⟨gb140, 2, none⟩ = some (.int .i64 a0_2) := (blk_cell BK140.out 2).trans rfl; have hcz9_3 : w8.cell? ⟨gb140, 3, none⟩ = some (.int .i64 a0_3) := (blk_cell BK140.out 3).trans rfl; have hcz9_4 : w8.cell? ⟨gb140, 4, none⟩ = some (.bool a0_4) := (blk_cell BK140.out 4).trans rfl; have hcz9_5 : w8.cell? ⟨gb140, 5, none⟩ = some (.int .u32 a0_5) := (blk_cell BK140.out 5).trans rfl; have hfz9_0 := blk_frozen BK140.out 0; have hfz9_1 := blk_frozen BK140.out 1; have hfz9_2 := blk_frozen BK140.out 2; have hfz9_3 := blk_frozen BK140.out 3; have hfz9_4 := blk_frozen BK140.out 4; have hfz9_5 := blk_frozen BK140.out 5) | ((with_reducible refine gate_callee (f := 15) rfl ?_); refine goesL_ (some 13) rfl rfl Try.func15 (by kernel_rfl) rfl #[.agg #[.int .i64 a0_0, .int .i64 a0_1, .int .i64 a0_2, .int .i64 a0_3, .bool a0_4, .int .u32 a0_5], .int .i64 a1, .int .i64 a2] rfl (by (try simp only [List.map_toArray, List.map_cons, List.map_nil]); first | done | rfl | (simp only [List.length_drop, List.length_take]; rfl)) ?_; (with_reducible refine (window_Room.calls k a0_0 a0_1 a0_2 a0_3 a0_4 a0_5 a1 a2 t142 _ A5.out).mono ?_); rintro e w10 ⟨rfl, hb⟩; refine ⟨_, rfl, ?_⟩; have n0_ := Aside0.mk (blk_below (g := gb140) (o := .cells #[.int .i64 a0_0, .int .i64 a0_1, .int .i64 a0_2, .int .i64 a0_3, .bool a0_4, .int .u32 a0_5] 26 (0, 0)) (by (with_reducible repeat (first | refine blk_drewN ?_ _ | refine blk_drew ?_ | refine blk_alloc ?_ _)); exact BK140.out) hb); have n1_ := Aside0.mk (below_step (by repeat (first | (with_reducible first | exact HB.out | apply below_alloc | apply pw_below_drewN | apply below_drew1 | refine below_set ?_ GE140.out) | exact HB.out)) hb); clear BK140; clear HB; have BK140 := n0_; have HB := n1_; clear n0_ n1_; (try clear hb); (try clear hb2); (try clear hk); (try clear hi)))
  (try simp only [Act.put, List.setIfInBounds_toArray, List.set_cons_zero, List.set_cons_succ])
  go_cut [25] (fun v25 wc => ∃ (kq : Nat) (x25_5 : Bool), v25 = .bool x25_5 ∧ Aside0 (bollardlaw12_WindowRoom.j0 kq a1 a2 t141 t142 x25_5 a0_0 a0_1 a0_2 a0_3 a0_4 a0_5 = some true) ∧ Aside0 (kq ≤ k) ∧ Aside0 (wc.heap[gb140]? = some (.cells #[.int .i64 a0_0, .int .i64 a0_1, .int .i64 a0_2, .int .i64 a0_3, .bool a0_4, .int .u32 a0_5] 26 (0, 0))) ∧ Aside0 (Below w.heap.size w wc))
  case first =>
    have H := HC6.out
    clear HC6
    replace H := Option.bind_eq_some_iff.mp H
    obtain ⟨⟨t143, t144, t145, t146, t147, t148⟩, A110, H⟩ := H
    replace H : ((bollardref12_May.f t143 t144 t145 t146 t147 t148).bind fun t149 => (if t149 = true then (if a1 < 0 then (bollardlaw12_WindowRoom.j0 k a1 a2 t141 t142 true a0_0 a0_1 a0_2 a0_3 a0_4 a0_5) else (bollardlaw12_WindowRoom.j0 k a1 a2 t141 t142 (decide (a2 < 0)) a0_0 a0_1 a0_2 a0_3 a0_4 a0_5)) else (bollardlaw12_WindowRoom.j0 k a1 a2 t141 t142 true a0_0 a0_1 a0_2 a0_3 a0_4 a0_5))) = some true := H
    have A11 := Aside0.mk A110
    clear A110
    replace H := Option.bind_eq_some_iff.mp H
    obtain ⟨t149, A120, H⟩ := H
    replace H : (if t149 = true then (if a1 < 0 then (bollardlaw12_WindowRoom.j0 k a1 a2 t141 t142 true a0_0 a0_1 a0_2 a0_3 a0_4 a0_5) else (bollardlaw12_WindowRoom.j0 k a1 a2 t141 t142 (decide (a2 < 0)) a0_0 a0_1 a0_2 a0_3 a0_4 a0_5)) else (bollardlaw12_WindowRoom.j0 k a1 a2 t141 t142 true a0_0 a0_1 a0_2 a0_3 a0_4 a0_5)) = some true := H
    have A12 := Aside0.mk A120
    clear A120
    by_cases c13 : t149 = true
    · subst c13
      have H1 : (if a1 < 0 then (bollardlaw12_WindowRoom.j0 k a1 a2 t141 t142 true a0_0 a0_1 a0_2 a0_3 a0_4 a0_5) else (bollardlaw12_WindowRoom.j0 k a1 a2 t141 t142 (decide (a2 < 0)) a0_0 a0_1 a0_2 a0_3 a0_4 a0_5)) = some true := by rw [if_pos rfl] at H; exact H
      clear H
      have H := H1
      clear H1
      by_cases c14 : a1 < 0
      · rw [if_pos c14] at H
        have c14b0 : decide (a1 < 0) = true := decide_eq_true c14
        clear c14
        (first | rw [c14b0] | (simp only [i64_w, i32_w]; rw [c14b0]) | skip)
        have H' := Aside0.mk H
        clear H
        have hcz15_0 : w10.cell? ⟨gb140, 0, none⟩ = some (.int .i64 a0_0) := (blk_cell BK140.out 0).trans rfl
        have hcz15_1 : w10.cell? ⟨gb140, 1, none⟩ = some (.int .i64 a0_1) := (blk_cell BK140.out 1).trans rfl
        have hcz15_2 : w10.cell? ⟨gb140, 2, none⟩ = some (.int .i64 a0_2) := (blk_cell BK140.out 2).trans rfl
        have hcz15_3 : w10.cell? ⟨gb140, 3, none⟩ = some (.int .i64 a0_3) := (blk_cell BK140.out 3).trans rfl
        have hcz15_4 : w10.cell? ⟨gb140, 4, none⟩ = some (.bool a0_4) := (blk_cell BK140.out 4).trans rfl
        have hcz15_5 : w10.cell? ⟨gb140, 5, none⟩ = some (.int .u32 a0_5) := (blk_cell BK140.out 5).trans rfl
        have hfz15_0 := blk_frozen BK140.out 0
        have hfz15_1 := blk_frozen BK140.out 1
        have hfz15_2 := blk_frozen BK140.out 2
        have hfz15_3 := blk_frozen BK140.out 3
        have hfz15_4 := blk_frozen BK140.out 4
        have hfz15_5 := blk_frozen BK140.out 5
        go_wp2_with (first | ((with_reducible refine gate_callee (f := 13) rfl ?_); refine goesL_ (some 15) rfl rfl Try.func13 (by kernel_rfl) rfl #[.agg #[.int .i64 a0_0, .int .i64 a0_1, .int .i64 a0_2, .int .i64 a0_3, .bool a0_4, .int .u32 a0_5]] rfl (by (try simp only [List.map_toArray, List.map_cons, List.map_nil]); first | done | rfl | (simp only [List.length_drop, List.length_take]; rfl)) ?_; (with_reducible refine (bollardlaw12_theirs.calls a0_0 a0_1 a0_2 a0_3 a0_4 a0_5 t143 t144 t145 t146 t147 t148 _ A11.out).mono ?_); rintro e w16 ⟨rfl, hb⟩; refine ⟨_, rfl, ?_⟩; have n0_ := Aside0.mk (blk_below (g := gb140) (o := .cells #[.int .i64 a0_0, .int .i64 a0_1, .int .i64 a0_2, .int .i64 a0_3, .bool a0_4, .int .u32 a0_5] 26 (0, 0)) (by (with_reducible repeat (first | refine blk_drewN ?_ _ | refine blk_drew ?_ | refine blk_alloc ?_ _)); exact BK140.out) hb); have n1_ := Aside0.mk (below_step (by repeat (first | (with_reducible first | exact HB.out | apply below_alloc | apply pw_below_drewN | apply below_drew1 | refine below_set ?_ GE140.out) | exact HB.out)) hb); clear BK140; clear HB; have BK140 := n0_; have HB := n1_; clear n0_ n1_; (try clear hb); (try clear hb2); (try clear hk); (try clear hi)) | ((with_reducible refine gate_callee (f := 12) rfl ?_); refine goesL_ (some 16) rfl rfl Try.func12 (by kernel_rfl) rfl #[.agg #[.int .i64 t143, .int .i64 t144, .int .i64 t145, .int .i64 t146, .bool t147, .int .u32 t148]] rfl (by (try simp only [List.map_toArray, List.map_cons, List.map_nil]); first | done | rfl | (simp only [List.length_drop, List.length_take]; rfl)) ?_; (with_reducible refine (bollardref12_May.calls t143 t144 t145 t146 t147 t148 true _ A12.out).mono ?_); rintro e w17 ⟨rfl, hb⟩; refine ⟨_, rfl, ?_⟩; have n0_ := Aside0.mk (blk_below (g := gb140) (o := .cells #[.int .i64 a0_0, .int .i64 a0_1, .int .i64 a0_2, .int .i64 a0_3, .bool a0_4, .int .u32 a0_5] 26 (0, 0)) (by (with_reducible repeat (first | refine blk_drewN ?_ _ | refine blk_drew ?_ | refine blk_alloc ?_ _)); exact BK140.out) hb); have n1_ := Aside0.mk (below_step (by repeat (first | (with_reducible first | exact HB.out | apply below_alloc | apply pw_below_drewN | apply below_drew1 | refine below_set ?_ GE140.out) | exact HB.out)) hb); clear BK140; clear HB; have BK140 := n0_; have HB := n1_; clear n0_ n1_; (try clear hb); (try clear hb2); (try clear hk); (try clear hi)))
        go_meet
        case rel => exact ⟨_, (true), (by first | rfl | (simp; done) | (simp [*]; done)), H', ⟨by first | omega | exact Nat.le_refl _⟩, ⟨by (with_reducible repeat (first | refine blk_drewN ?_ _ | refine blk_drew ?_ | refine blk_alloc ?_ _)); exact BK140.out⟩, ⟨by repeat (first | (with_reducible first | exact HB.out | apply below_alloc | apply pw_below_drewN | apply below_drew1 | refine below_set ?_ GE140.out) | exact HB.out)⟩⟩
      · rw [if_neg c14] at H
        have c14b0 : decide (a1 < 0) = false := decide_eq_false c14
        clear c14
        (first | rw [c14b0] | (simp only [i64_w, i32_w]; rw [c14b0]) | skip)
        have H' := Aside0.mk H
        clear H
        have hcz18_0 : w10.cell? ⟨gb140, 0, none⟩ = some (.int .i64 a0_0) := (blk_cell BK140.out 0).trans rfl
        have hcz18_1 : w10.cell? ⟨gb140, 1, none⟩ = some (.int .i64 a0_1) := (blk_cell BK140.out 1).trans rfl
        have hcz18_2 : w10.cell? ⟨gb140, 2, none⟩ = some (.int .i64 a0_2) := (blk_cell BK140.out 2).trans rfl
        have hcz18_3 : w10.cell? ⟨gb140, 3, none⟩ = some (.int .i64 a0_3) := (blk_cell BK140.out 3).trans rfl
        have hcz18_4 : w10.cell? ⟨gb140, 4, none⟩ = some (.bool a0_4) := (blk_cell BK140.out 4).trans rfl
        have hcz18_5 : w10.cell? ⟨gb140, 5, none⟩ = some (.int .u32 a0_5) := (blk_cell BK140.out 5).trans rfl
        have hfz18_0 := blk_frozen BK140.out 0
        have hfz18_1 := blk_frozen BK140.out 1
        have hfz18_2 := blk_frozen BK140.out 2
        have hfz18_3 := blk_frozen BK140.out 3
        have hfz18_4 := blk_frozen BK140.out 4
        have hfz18_5 := blk_frozen BK140.out 5
        go_wp2_with (first | ((with_reducible refine gate_callee (f := 13) rfl ?_); refine goesL_ (some 15) rfl rfl Try.func13 (by kernel_rfl) rfl #[.agg #[.int .i64 a0_0, .int .i64 a0_1, .int .i64 a0_2, .int .i64 a0_3, .bool a0_4, .int .u32 a0_5]] rfl (by (try simp only [List.map_toArray, List.map_cons, List.map_nil]); first | done | rfl | (simp only [List.length_drop, List.length_take]; rfl)) ?_; (with_reducible refine (bollardlaw12_theirs.calls a0_0 a0_1 a0_2 a0_3 a0_4 a0_5 t143 t144 t145 t146 t147 t148 _ A11.out).mono ?_); rintro e w19 ⟨rfl, hb⟩; refine ⟨_, rfl, ?_⟩; have n0_ := Aside0.mk (blk_below (g := gb140) (o := .cells #[.int .i64 a0_0, .int .i64 a0_1, .int .i64 a0_2, .int .i64 a0_3, .bool a0_4, .int .u32 a0_5] 26 (0, 0)) (by (with_reducible repeat (first | refine blk_drewN ?_ _ | refine blk_drew ?_ | refine blk_alloc ?_ _)); exact BK140.out) hb); have n1_ := Aside0.mk (below_step (by repeat (first | (with_reducible first | exact HB.out | apply below_alloc | apply pw_below_drewN | apply below_drew1 | refine below_set ?_ GE140.out) | exact HB.out)) hb); clear BK140; clear HB; have BK140 := n0_; have HB := n1_; clear n0_ n1_; (try clear hb); (try clear hb2); (try clear hk); (try clear hi)) | ((with_reducible refine gate_callee (f := 12) rfl ?_); refine goesL_ (some 16) rfl rfl Try.func12 (by kernel_rfl) rfl #[.agg #[.int .i64 t143, .int .i64 t144, .int .i64 t145, .int .i64 t146, .bool t147, .int .u32 t148]] rfl (by (try simp only [List.map_toArray, List.map_cons, List.map_nil]); first | done | rfl | (simp only [List.length_drop, List.length_take]; rfl)) ?_; (with_reducible refine (bollardref12_May.calls t143 t144 t145 t146 t147 t148 true _ A12.out).mono ?_); rintro e w20 ⟨rfl, hb⟩; refine ⟨_, rfl, ?_⟩; have n0_ := Aside0.mk (blk_below (g := gb140) (o := .cells #[.int .i64 a0_0, .int .i64 a0_1, .int .i64 a0_2, .int .i64 a0_3, .bool a0_4, .int .u32 a0_5] 26 (0, 0)) (by (with_reducible repeat (first | refine blk_drewN ?_ _ | refine blk_drew ?_ | refine blk_alloc ?_ _)); exact BK140.out) hb); have n1_ := Aside0.mk (below_step (by repeat (first | (with_reducible first | exact HB.out | apply below_alloc | apply pw_below_drewN | apply below_drew1 | refine below_set ?_ GE140.out) | exact HB.out)) hb); clear BK140; clear HB; have BK140 := n0_; have HB := n1_; clear n0_ n1_; (try clear hb); (try clear hb2); (try clear hk); (try clear hi)))
        go_meet
        case rel => exact ⟨_, (decide (a2 < 0)), (by first | rfl | (simp; done) | (simp [*]; done)), H', ⟨by first | omega | exact Nat.le_refl _⟩, ⟨by (with_reducible repeat (first | refine blk_drewN ?_ _ | refine blk_drew ?_ | refine blk_alloc ?_ _)); exact BK140.out⟩, ⟨by repeat (first | (with_reducible first | exact HB.out | apply below_alloc | apply pw_below_drewN | apply below_drew1 | refine below_set ?_ GE140.out) | exact HB.out)⟩⟩
    · replace c13 := Bool.eq_false_iff.mpr c13
      subst c13
      have H1 : (bollardlaw12_WindowRoom.j0 k a1 a2 t141 t142 true a0_0 a0_1 a0_2 a0_3 a0_4 a0_5) = some true := by rw [if_neg (show ¬ (false = true) by decide)] at H; exact H
      clear H
      have H := H1
      clear H1
      have H' := Aside0.mk H
      clear H
      have hcz21_0 : w10.cell? ⟨gb140, 0, none⟩ = some (.int .i64 a0_0) := (blk_cell BK140.out 0).trans rfl
      have hcz21_1 : w10.cell? ⟨gb140, 1, none⟩ = some (.int .i64 a0_1) := (blk_cell BK140.out 1).trans rfl
      have hcz21_2 : w10.cell? ⟨gb140, 2, none⟩ = some (.int .i64 a0_2) := (blk_cell BK140.out 2).trans rfl
      have hcz21_3 : w10.cell? ⟨gb140, 3, none⟩ = some (.int .i64 a0_3) := (blk_cell BK140.out 3).trans rfl
      have hcz21_4 : w10.cell? ⟨gb140, 4, none⟩ = some (.bool a0_4) := (blk_cell BK140.out 4).trans rfl
      have hcz21_5 : w10.cell? ⟨gb140, 5, none⟩ = some (.int .u32 a0_5) := (blk_cell BK140.out 5).trans rfl
      have hfz21_0 := blk_frozen BK140.out 0
      have hfz21_1 := blk_frozen BK140.out 1
      have hfz21_2 := blk_frozen BK140.out 2
      have hfz21_3 := blk_frozen BK140.out 3
      have hfz21_4 := blk_frozen BK140.out 4
      have hfz21_5 := blk_frozen BK140.out 5
      go_wp2_with (first | ((with_reducible refine gate_callee (f := 13) rfl ?_); refine goesL_ (some 15) rfl rfl Try.func13 (by kernel_rfl) rfl #[.agg #[.int .i64 a0_0, .int .i64 a0_1, .int .i64 a0_2, .int .i64 a0_3, .bool a0_4, .int .u32 a0_5]] rfl (by (try simp only [List.map_toArray, List.map_cons, List.map_nil]); first | done | rfl | (simp only [List.length_drop, List.length_take]; rfl)) ?_; (with_reducible refine (bollardlaw12_theirs.calls a0_0 a0_1 a0_2 a0_3 a0_4 a0_5 t143 t144 t145 t146 t147 t148 _ A11.out).mono ?_); rintro e w22 ⟨rfl, hb⟩; refine ⟨_, rfl, ?_⟩; have n0_ := Aside0.mk (blk_below (g := gb140) (o := .cells #[.int .i64 a0_0, .int .i64 a0_1, .int .i64 a0_2, .int .i64 a0_3, .bool a0_4, .int .u32 a0_5] 26 (0, 0)) (by (with_reducible repeat (first | refine blk_drewN ?_ _ | refine blk_drew ?_ | refine blk_alloc ?_ _)); exact BK140.out) hb); have n1_ := Aside0.mk (below_step (by repeat (first | (with_reducible first | exact HB.out | apply below_alloc | apply pw_below_drewN | apply below_drew1 | refine below_set ?_ GE140.out) | exact HB.out)) hb); clear BK140; clear HB; have BK140 := n0_; have HB := n1_; clear n0_ n1_; (try clear hb); (try clear hb2); (try clear hk); (try clear hi)) | ((with_reducible refine gate_callee (f := 12) rfl ?_); refine goesL_ (some 16) rfl rfl Try.func12 (by kernel_rfl) rfl #[.agg #[.int .i64 t143, .int .i64 t144, .int .i64 t145, .int .i64 t146, .bool t147, .int .u32 t148]] rfl (by (try simp only [List.map_toArray, List.map_cons, List.map_nil]); first | done | rfl | (simp only [List.length_drop, List.length_take]; rfl)) ?_; (with_reducible refine (bollardref12_May.calls t143 t144 t145 t146 t147 t148 false _ A12.out).mono ?_); rintro e w23 ⟨rfl, hb⟩; refine ⟨_, rfl, ?_⟩; have n0_ := Aside0.mk (blk_below (g := gb140) (o := .cells #[.int .i64 a0_0, .int .i64 a0_1, .int .i64 a0_2, .int .i64 a0_3, .bool a0_4, .int .u32 a0_5] 26 (0, 0)) (by (with_reducible repeat (first | refine blk_drewN ?_ _ | refine blk_drew ?_ | refine blk_alloc ?_ _)); exact BK140.out) hb); have n1_ := Aside0.mk (below_step (by repeat (first | (with_reducible first | exact HB.out | apply below_alloc | apply pw_below_drewN | apply below_drew1 | refine below_set ?_ GE140.out) | exact HB.out)) hb); clear BK140; clear HB; have BK140 := n0_; have HB := n1_; clear n0_ n1_; (try clear hb); (try clear hb2); (try clear hk); (try clear hi)))
      go_meet
      case rel => exact ⟨_, (true), (by first | rfl | (simp; done) | (simp [*]; done)), H', ⟨by first | omega | exact Nat.le_refl _⟩, ⟨by (with_reducible repeat (first | refine blk_drewN ?_ _ | refine blk_drew ?_ | refine blk_alloc ?_ _)); exact BK140.out⟩, ⟨by repeat (first | (with_reducible first | exact HB.out | apply below_alloc | apply pw_below_drewN | apply below_drew1 | refine below_set ?_ GE140.out) | exact HB.out)⟩⟩
  case rest =>
    clear HC6
    try clear c1
    try clear p2
    try clear c5
    try clear c7
    try clear c12
    try clear c13
    try clear c14
    try clear c14b0
    try clear c15
    try clear hcz15_0
    try clear hcz15_1
    try clear hcz15_2
    try clear hcz15_3
    try clear hcz15_4
    try clear hcz15_5
    try clear hcz18_0
    try clear hcz18_1
    try clear hcz18_2
    try clear hcz18_3
    try clear hcz18_4
    try clear hcz18_5
    try clear hcz21_0
    try clear hcz21_1
    try clear hcz21_2
    try clear hcz21_3
    try clear hcz21_4
    try clear hcz21_5
    try clear hcz9_0
    try clear hcz9_1
    try clear hcz9_2
    try clear hcz9_3
    try clear hcz9_4
    try clear hcz9_5
    try clear hfz15_0
    try clear hfz15_1
    try clear hfz15_2
    try clear hfz15_3
    try clear hfz15_4
    try clear hfz15_5
    try clear hfz18_0
    try clear hfz18_1
    try clear hfz18_2
    try clear hfz18_3
    try clear hfz18_4
    try clear hfz18_5
    try clear hfz21_0
    try clear hfz21_1
    try clear hfz21_2
    try clear hfz21_3
    try clear hfz21_4
    try clear hfz21_5
    try clear hfz9_0
    try clear hfz9_1
    try clear hfz9_2
    try clear hfz9_3
    try clear hfz9_4
    try clear hfz9_5
    obtain ⟨kq, x25_5, rfl, HA, HJ5, BK140, HB⟩ := hcut
    cases kq with
    | zero => exact absurd HA.out (by simp [bollardlaw12_WindowRoom.j0])
    | succ kj5 =>
      have H := HA.out
      clear HA
      simp only [bollardlaw12_WindowRoom.j0] at H
      by_cases c24 : x25_5 = true
      · subst c24
        have H1 : (if t141 = true then (some (t142 == 0)) else (some false)) = some true := by rw [if_pos rfl] at H; exact H
        clear H
        have H := H1
        clear H1
        by_cases c25 : t141 = true
        · subst c25
          have H1 : (some (t142 == 0)) = some true := by rw [if_pos rfl] at H; exact H
          clear H
          have H := H1
          clear H1
          have HRT := Aside0.mk (Option.some.inj H)
          clear H
          go_wp2
          any_goals (first | (go_ret; refine ⟨?_, ?_⟩; (focus (first | rfl | (rw [HRT.out]; done) | (rw [HRT.out]; rfl) | (simp only [HRT.out]; done) | (simp [HRT.out]; done) | (simp [errW_none, errW_some] <;> rfl) | (simp [*, errW_none, errW_some] <;> rfl))); (repeat (first | (with_reducible first | exact HB.out | apply below_alloc | apply pw_below_drewN | apply below_drew1 | refine below_set ?_ GE140.out) | exact HB.out)); done) | fail)
          all_goals (exfalso; first | omega | (simp_all; done) | (simp_all; omega))
        · replace c25 := Bool.eq_false_iff.mpr c25
          subst c25
          have H1 : (some false) = some true := by rw [if_neg (show ¬ (false = true) by decide)] at H; exact H
          clear H
          have H := H1
          clear H1
          exact absurd H (by decide)
      · replace c24 := Bool.eq_false_iff.mpr c24
        subst c24
        have H1 : (if a1 = 0 then (if t141 = true then (if t142 ≥ a0_3 then (if t142 ≤ (mx a0_0 a0_3) then (some (decide (t142 ≤ (mx a2 a0_3)))) else (some false)) else (some false)) else (some false)) else (if t141 = true then (if t142 ≥ 0 then (if t142 = 0 then (some true) else (if t142 ≤ (wrap64 (a0_0 - a1)) then (some (decide (t142 ≤ a2))) else (some false))) else (some false)) else (some false))) = some true := by rw [if_neg (show ¬ (false = true) by decide)] at H; exact H
        clear H
        have H := H1
        clear H1
        by_cases c26 : a1 = 0
        · rw [if_pos c26] at H
          have c26b0 : (a1 == 0) = true := beq_iff_eq.mpr c26
          have c26b1 : (a1 != 0) = false := bne_eq_false_iff_eq.mpr c26
          clear c26
          by_cases c27 : t141 = true
          · subst c27
            have H1 : (if t142 ≥ a0_3 then (if t142 ≤ (mx a0_0 a0_3) then (some (decide (t142 ≤ (mx a2 a0_3)))) else (some false)) else (some false)) = some true := by rw [if_pos rfl] at H; exact H
            clear H
            have H := H1
            clear H1
            by_cases c28 : t142 ≥ a0_3
            · rw [if_pos c28] at H
              have c28b0 : decide (a0_3 ≤ t142) = true := decide_eq_true c28
              clear c28
              obtain ⟨ji29, hji29⟩ : ∃ j_ : Int, (mx a0_0 a0_3) = j_ := ⟨_, rfl⟩
              replace H : (if t142 ≤ (ji29) then (some (decide (t142 ≤ (mx a2 a0_3)))) else (some false)) = some true := by first | (rw [hji29] at H; exact H) | (simp only [hji29] at H ⊢; exact H)
              have hji29_ : (if a0_0 < a0_3 then a0_3 else a0_0) = ji29 := hji29
              by_cases c30 : t142 ≤ (ji29)
              · rw [if_pos c30] at H
                have c30b0 : decide (t142 ≤ (ji29)) = true := decide_eq_true c30
                clear c30
                obtain ⟨ji31, hji31⟩ : ∃ j_ : Int, (mx a2 a0_3) = j_ := ⟨_, rfl⟩
                replace H : (some (decide (t142 ≤ (ji31)))) = some true := by first | (rw [hji31] at H; exact H) | (simp only [hji31] at H ⊢; exact H)
                have hji31_ : (if a2 < a0_3 then a0_3 else a2) = ji31 := hji31
                have HRT := Aside0.mk (Option.some.inj H)
                clear H
                have hcz32_0 : wc.cell? ⟨gb140, 0, none⟩ = some (.int .i64 a0_0) := (blk_cell BK140.out 0).trans rfl
                have hcz32_1 : wc.cell? ⟨gb140, 1, none⟩ = some (.int .i64 a0_1) := (blk_cell BK140.out 1).trans rfl
                have hcz32_2 : wc.cell? ⟨gb140, 2, none⟩ = some (.int .i64 a0_2) := (blk_cell BK140.out 2).trans rfl
                have hcz32_3 : wc.cell? ⟨gb140, 3, none⟩ = some (.int .i64 a0_3) := (blk_cell BK140.out 3).trans rfl
                have hcz32_4 : wc.cell? ⟨gb140, 4, none⟩ = some (.bool a0_4) := (blk_cell BK140.out 4).trans rfl
                have hcz32_5 : wc.cell? ⟨gb140, 5, none⟩ = some (.int .u32 a0_5) := (blk_cell BK140.out 5).trans rfl
                have hfz32_0 := blk_frozen BK140.out 0
                have hfz32_1 := blk_frozen BK140.out 1
                have hfz32_2 := blk_frozen BK140.out 2
                have hfz32_3 := blk_frozen BK140.out 3
                have hfz32_4 := blk_frozen BK140.out 4
                have hfz32_5 := blk_frozen BK140.out 5
                go_wp2
                any_goals (first | (go_ret; refine ⟨?_, ?_⟩; (focus (first | rfl | (rw [HRT.out]; done) | (rw [HRT.out]; rfl) | (simp only [HRT.out]; done) | (simp [HRT.out]; done) | (simp [errW_none, errW_some] <;> rfl) | (simp only [← hji29, ← hji31]; first | rfl | (simp [errW_none, errW_some] <;> rfl)) | (simp [*, errW_none, errW_some] <;> rfl))); (repeat (first | (with_reducible first | exact HB.out | apply below_alloc | apply pw_below_drewN | apply below_drew1 | refine below_set ?_ GE140.out) | exact HB.out)); done) | fail)
                all_goals (exfalso; first | omega | (simp_all; done) | (simp_all; omega))
              · rw [if_neg c30] at H
                have c30b0 : decide (t142 ≤ (ji29)) = false := decide_eq_false c30
                clear c30
                exact absurd H (by decide)
            · rw [if_neg c28] at H
              have c28b0 : decide (a0_3 ≤ t142) = false := decide_eq_false c28
              clear c28
              exact absurd H (by decide)
          · replace c27 := Bool.eq_false_iff.mpr c27
            subst c27
            have H1 : (some false) = some true := by rw [if_neg (show ¬ (false = true) by decide)] at H; exact H
            clear H
            have H := H1
            clear H1
            exact absurd H (by decide)
        · rw [if_neg c26] at H
          have c26b0 : (a1 == 0) = false := beq_eq_false_iff_ne.mpr c26
          have c26b1 : (a1 != 0) = true := bne_iff_ne.mpr c26
          by_cases c33 : t141 = true
          · subst c33
            have H1 : (if t142 ≥ 0 then (if t142 = 0 then (some true) else (if t142 ≤ (wrap64 (a0_0 - a1)) then (some (decide (t142 ≤ a2))) else (some false))) else (some false)) = some true := by rw [if_pos rfl] at H; exact H
            clear H
            have H := H1
            clear H1
            by_cases c34 : t142 ≥ 0
            · rw [if_pos c34] at H
              have c34b0 : decide (0 ≤ t142) = true := decide_eq_true c34
              clear c34
              by_cases c35 : t142 = 0
              · rw [if_pos c35] at H
                have c35b0 : (t142 == 0) = true := beq_iff_eq.mpr c35
                have c35b1 : (t142 != 0) = false := bne_eq_false_iff_eq.mpr c35
                clear c35
                clear H
                go_wp2
                any_goals (first | (go_ret; refine ⟨?_, ?_⟩; (focus (first | rfl | (rw [HRT.out]; done) | (rw [HRT.out]; rfl) | (simp only [HRT.out]; done) | (simp [HRT.out]; done) | (simp [errW_none, errW_some] <;> rfl) | (simp [*, errW_none, errW_some] <;> rfl))); (repeat (first | (with_reducible first | exact HB.out | apply below_alloc | apply pw_below_drewN | apply below_drew1 | refine below_set ?_ GE140.out) | exact HB.out)); done) | fail)
                all_goals (exfalso; first | omega | (simp_all; done) | (simp_all; omega))
              · rw [if_neg c35] at H
                have c35b0 : (t142 == 0) = false := beq_eq_false_iff_ne.mpr c35
                have c35b1 : (t142 != 0) = true := bne_iff_ne.mpr c35
                by_cases c36 : t142 ≤ (wrap64 (a0_0 - a1))
                · rw [if_pos c36] at H
                  have c36b0 : decide (t142 ≤ (wrap64 (a0_0 - a1))) = true := decide_eq_true c36
                  clear c36
                  have HRT := Aside0.mk (Option.some.inj H)
                  clear H
                  have hcz37_0 : wc.cell? ⟨gb140, 0, none⟩ = some (.int .i64 a0_0) := (blk_cell BK140.out 0).trans rfl
                  have hcz37_1 : wc.cell? ⟨gb140, 1, none⟩ = some (.int .i64 a0_1) := (blk_cell BK140.out 1).trans rfl
                  have hcz37_2 : wc.cell? ⟨gb140, 2, none⟩ = some (.int .i64 a0_2) := (blk_cell BK140.out 2).trans rfl
                  have hcz37_3 : wc.cell? ⟨gb140, 3, none⟩ = some (.int .i64 a0_3) := (blk_cell BK140.out 3).trans rfl
                  have hcz37_4 : wc.cell? ⟨gb140, 4, none⟩ = some (.bool a0_4) := (blk_cell BK140.out 4).trans rfl
                  have hcz37_5 : wc.cell? ⟨gb140, 5, none⟩ = some (.int .u32 a0_5) := (blk_cell BK140.out 5).trans rfl
                  have hfz37_0 := blk_frozen BK140.out 0
                  have hfz37_1 := blk_frozen BK140.out 1
                  have hfz37_2 := blk_frozen BK140.out 2
                  have hfz37_3 := blk_frozen BK140.out 3
                  have hfz37_4 := blk_frozen BK140.out 4
                  have hfz37_5 := blk_frozen BK140.out 5
                  go_wp2
                  any_goals (first | (go_ret; refine ⟨?_, ?_⟩; (focus (first | rfl | (rw [HRT.out]; done) | (rw [HRT.out]; rfl) | (simp only [HRT.out]; done) | (simp [HRT.out]; done) | (simp [errW_none, errW_some] <;> rfl) | (simp [*, errW_none, errW_some] <;> rfl))); (repeat (first | (with_reducible first | exact HB.out | apply below_alloc | apply pw_below_drewN | apply below_drew1 | refine below_set ?_ GE140.out) | exact HB.out)); done) | fail)
                  all_goals (exfalso; first | omega | (simp_all; done) | (simp_all; omega))
                · rw [if_neg c36] at H
                  have c36b0 : decide (t142 ≤ (wrap64 (a0_0 - a1))) = false := decide_eq_false c36
                  clear c36
                  exact absurd H (by decide)
            · rw [if_neg c34] at H
              have c34b0 : decide (0 ≤ t142) = false := decide_eq_false c34
              clear c34
              exact absurd H (by decide)
          · replace c33 := Bool.eq_false_iff.mpr c33
            subst c33
            have H1 : (some false) = some true := by rw [if_neg (show ¬ (false = true) by decide)] at H; exact H
            clear H
            have H := H1
            clear H1
            exact absurd H (by decide)

/-- THE ONE PURE STATEMENT of bollardlaw12_WindowRoom: yours. -/
def bollardlaw12_WindowRoom.Pure : Prop := ∀ (a0_0 : Int) (a0_1 : Int) (a0_2 : Int) (a0_3 : Int) (a0_4 : Bool) (a0_5 : Int) (a1 : Int) (a2 : Int), (Lit.int .i64 a0_0).wf = true → (Lit.int .i64 a0_1).wf = true → (Lit.int .i64 a0_2).wf = true → (Lit.int .i64 a0_3).wf = true → (Lit.int .u32 a0_5).wf = true → (Lit.int .i64 a1).wf = true → (Lit.int .i64 a2).wf = true → ∃ k, bollardlaw12_WindowRoom.f k a0_0 a0_1 a0_2 a0_3 a0_4 a0_5 a1 a2 = some true
theorem bollardlaw12_WindowRoom.walk (P : bollardlaw12_WindowRoom.Pure) (a0_0 : Int) (a0_1 : Int) (a0_2 : Int) (a0_3 : Int) (a0_4 : Bool) (a0_5 : Int) (a1 : Int) (a2 : Int) (w : World) (w0_0 : (Lit.int .i64 a0_0).wf = true) (w0_1 : (Lit.int .i64 a0_1).wf = true) (w0_2 : (Lit.int .i64 a0_2).wf = true) (w0_3 : (Lit.int .i64 a0_3).wf = true) (w0_5 : (Lit.int .u32 a0_5).wf = true) (w1 : (Lit.int .i64 a1).wf = true) (w2 : (Lit.int .i64 a2).wf = true) :
    Calls Try.prog 5 #[.agg #[.int .i64 a0_0, .int .i64 a0_1, .int .i64 a0_2, .int .i64 a0_3, .bool a0_4, .int .u32 a0_5], .int .i64 a1, .int .i64 a2] w fun e w' => e = .returned (.bool true) ∧ Below w.heap.size w w' := by
  obtain ⟨k, h⟩ := P a0_0 a0_1 a0_2 a0_3 a0_4 a0_5 a1 a2 w0_0 w0_1 w0_2 w0_3 w0_5 w1 w2
  refine (bollardlaw12_WindowRoom.calls k a0_0 a0_1 a0_2 a0_3 a0_4 a0_5 a1 a2 w h).mono ?_
  rintro e w' ⟨rfl, hd⟩
  exact ⟨rfl, hd⟩

end Go.Proofs.Ytjnceigeejdleaa.PWindowRoom
