/- The machine side of one law (contracts of functions, or its row), for every input, without conditions; written by a program of this session, wip/mprint.py. -/
import Derived.Test.YtdmlkjenopmdlaaPCrcLinearx0
namespace Go.Proofs.Ytdmlkjenopmdlaa.PCrcLinear
open Go.RowKit Go.Proofs.YtdmlkjenopmdlaaW.PrintWords Go.Proofs.YtdmlkjenopmdlaaW.PrintLast Go.Proofs.YtdmlkjenopmdlaaW.PrintMore
attribute [local go_sem] max2_int min2_int max_two min_two max_three min_three max_four min_four   -- for this text's walks alone
set_option linter.unusedVariables false
set_option linter.unusedSimpArgs false

/-! ### crc_Table: function 11 -/
-- HAND
/-- The cells of the table when its first k numbers are laid. -/
def cellsAt (k : Nat) : Array Value := ((List.range 256).map (fun i => Value.int .u32 (if i < k then (Crc.L8 i : Int) else 0))).toArray
theorem stepL (v : Nat) (h : v < 4294967296) : Go.bits .xor .u32 ((v : Int) / 2) (Go.bits .and .u32 2197175160 ((-Go.bits .and .u32 (v : Int) 1) % 4294967296)) = (Crc.L v : Int) := by
  have e1 : Go.bits .and .u32 (v : Int) 1 = ((v % 2 : Nat) : Int) := by
    have := u32_and_nat v 1 h (by decide)
    rw [show ((1 : Nat) : Int) = 1 from rfl] at this
    rw [this, Nat.and_one_is_mod]
  rw [e1]
  rcases Nat.mod_two_eq_zero_or_one v with hv | hv
  · rw [hv]
    have e2 : Go.bits .and .u32 2197175160 ((-((0 : Nat) : Int)) % 4294967296) = ((0 : Nat) : Int) := by decide
    rw [e2]
    have e3 := u32_xor_nat (v / 2) 0 (by omega) (by decide)
    have e4 : (((v / 2 : Nat)) : Int) = (v : Int) / 2 := by omega
    rw [e4] at e3
    rw [e3]; unfold Crc.L; rw [if_neg (by omega)]
  · rw [hv]
    have e2 : Go.bits .and .u32 2197175160 ((-((1 : Nat) : Int)) % 4294967296) = ((2197175160 : Nat) : Int) := by decide
    rw [e2]
    have e3 := u32_xor_nat (v / 2) 2197175160 (by omega) (by decide)
    have e4 : (((v / 2 : Nat)) : Int) = (v : Int) / 2 := by omega
    rw [e4] at e3
    rw [e3]; unfold Crc.L; rw [if_pos (by omega)]
def iter : Nat → Nat → Nat
  | 0, v => v
  | j + 1, v => Crc.L (iter j v)
theorem iter_lt (j v : Nat) (h : v < 4294967296) : iter j v < 4294967296 := by
  induction j with
  | zero => exact h
  | succ j ih => exact Crc.L_lt _ ih
theorem cells_get (k i : Nat) (hi : i < 256) : (cellsAt k)[i]? = some (Value.int .u32 (if i < k then (Crc.L8 i : Int) else 0)) := by
  unfold cellsAt
  simp [hi]
theorem cells_set (k : Nat) (hk : k < 256) : (cellsAt k).setIfInBounds k (.int .u32 (Crc.L8 k : Int)) = cellsAt (k + 1) := by
  apply Array.ext_getElem?
  intro i
  by_cases hi : i < 256
  · rw [cells_get _ _ hi, Array.getElem?_setIfInBounds]
    have hs : (cellsAt k).size = 256 := by unfold cellsAt; simp
    by_cases h : k = i
    · subst h; rw [if_pos rfl, if_pos (by omega), if_pos (by omega)]
    · rw [if_neg h, cells_get _ _ hi]
      by_cases h2 : i < k
      · rw [if_pos h2, if_pos (by omega)]
      · rw [if_neg h2, if_neg (by omega)]
  · have hs : ∀ m, (cellsAt m).size = 256 := by intro m; unfold cellsAt; simp
    rw [Array.getElem?_eq_none (by simp [hs]; omega), Array.getElem?_eq_none (by rw [hs]; omega)]
set_option maxRecDepth 100000 in
set_option maxHeartbeats 2000000 in
theorem table_walk (w : World) :
    Calls Try.prog 11 #[] w fun e w' => ∃ g, w.heap.size ≤ g ∧ e = .returned (.slice (some ⟨g, 0, none⟩) 256 256) ∧ w'.heap[g]? = some (.cells (cellsAt 256) 39 (0, 0)) ∧ Below w.heap.size w w' := by
  go_enter Try.func11, Try.ntmps11
  go_wp2_with (first | ((with_reducible refine gate_dst (N := 1) rfl ?_); refine box_event ?hg (N := 1) ?hd (cs := cellsAt 0) (t := 39) ?hr ?_; (case hd => rfl); (case hg => rfl); (case hr => kernel_rfl); intro g hg w1 hbox hb))
  obtain ⟨g0, rfl⟩ : ∃ g0, w.heap.size = g0 := ⟨_, rfl⟩
  go_loopw [4] (fun v wr => ∃ k : Nat, k ≤ 256 ∧ v = .int .i64 k ∧ wr.heap[w.heap.size]? = some (.cells (cellsAt k) 39 (0, 0)) ∧ Below w.heap.size w wr) (fun v _ => 256 - (intOf v).toNat)
  case atStart => exact ⟨0, by omega, rfl, by rw [← hg]; exact hbox, hb⟩
  case round =>
    obtain ⟨k, hk, rfl, hbk, hB⟩ := hrel
    by_cases hlt : k < 256
    · have hl' : (k : Int) < 256 := by omega
      go_wp2
      go_loop [3, 9] (fun v i => ∃ j : Nat, j ≤ 8 ∧ i = .int .i64 j ∧ v = .int .u32 (iter j k)) (fun _ i => 8 - (intOf i).toNat)
      case atStart => exact ⟨0, by omega, rfl, by first | rfl | (simp [iter]; omega)⟩
      case round =>
        obtain ⟨j, hj, rfl, rfl⟩ := hrel
        by_cases hj8 : j < 8
        · have hj' : (j : Int) < 8 := by omega
          have hs := Lib.hid (stepL (iter j k) (iter_lt j k (by omega)))
          go_wp2
          go_round
          case rel => exact ⟨j + 1, by omega, by go_num, by rw [hs.out]; rfl⟩
          case measure => simp [intOf]; omega
        · have hj' : ¬ (j : Int) < 8 := by omega
          obtain rfl : j = 8 := by omega
          have hcell : wr.cell? ⟨w.heap.size, k, none⟩ = some (.int .u32 0) := by rw [blk_cell hbk, cells_get _ _ hlt, if_neg (by omega)]
          have hfr := blk_frozen hbk k
          go_wp2
          go_roundw
          case rel => exact ⟨k + 1, by omega, by go_num, blk_put hbk k _ (cells_set k hlt), below_set hB (Nat.le_refl _)⟩
          case measure => simp [intOf]; omega
    · have hl' : ¬ (k : Int) < 256 := by omega
      obtain rfl : k = 256 := by omega
      go_wp2
      go_ret
      exact ⟨w.heap.size, Nat.le_refl _, rfl, hbk, hB⟩
def crc_Table.f : Option (List Int) := some ((List.range 256).map fun i => (Crc.L8 i : Int))
theorem tab_reads (W : World) (g : Nat) (hb : W.heap[g]? = some (.cells (cellsAt 256) 39 (0, 0))) : ReadsInt W .u32 (some ⟨g, 0, none⟩) 256 ((List.range 256).map fun i => (Crc.L8 i : Int)) := by
  refine ⟨by simp, by decide, fun _ => ⟨_, rfl, fun j hj => ?_⟩⟩
  have e : (⟨g, 0, none⟩ : Addr).add j = ⟨g, j, none⟩ := by simp [Addr.add]; exact fun h => h.symm
  have e2 : ((List.range 256).map fun i => (Crc.L8 i : Int)).getD j 0 = (Crc.L8 j : Int) := by
    rw [List.getD_eq_getElem?_getD, List.getElem?_map, List.getElem?_range hj]; rfl
  rw [e, blk_cell hb, cells_get _ _ hj, if_pos hj, e2]
theorem crc_Table.calls (r : List Int) (w : World) (h : crc_Table.f = some r) :
    Calls Try.prog 11 #[] w fun e w' => ∃ v0_ : Value, e = .returned (v0_) ∧ Kd.V (Kd.int .u32) 25 w' w.heap.size (fun k_ => (w.heap.size ≤ k_)) v0_ r ∧ Below w.heap.size w w' := by
  obtain rfl := Option.some.inj h
  refine (table_walk w).mono ?_
  rintro e w' ⟨g, hg, rfl, hb, hB⟩
  have hl : ((List.range 256).map fun i => (Crc.L8 i : Int)).length = 256 := by simp
  refine ⟨_, rfl, ⟨some ⟨g, 0, none⟩, 256, by rw [hl], by rw [hl]; omega, fun W' hW' => ?_⟩, hB⟩
  have hb' : W'.heap[g]? = some (.cells (cellsAt 256) 39 (0, 0)) := (hW' g hg (blk_lt hb)).trans hb
  rw [hl]
  exact Kd.C_of_reads (d := (0 : Int)) (h1 := fun _ => rfl) (tab_reads W' g hb')


/-! ### crc_Step: function 15 -/
def crc_Step.l0 : Nat → List Int → Int → List Int → Int → Int → Option (Int)
  | 0, _, _, _, _, _ => none
  | k + 1, x0, x1, x12, x13, x14 => if x14 < x13 then (if 0 ≤ x14 then (if x14 < (x12.length : Int) then (if 0 ≤ (Go.bits .xor .u8 ((x1) % 256) (rd x12 x14)) then (if (Go.bits .xor .u8 ((x1) % 256) (rd x12 x14)) < (x0.length : Int) then (crc_Step.l0 k x0 (Go.bits .xor .u32 (x1 / 256) (rd x0 (Go.bits .xor .u8 ((x1) % 256) (rd x12 x14)))) x12 x13 (wrap64 (x14 + 1))) else (none)) else (none)) else (none)) else (none)) else (some x1)
def crc_Step.f (k : Nat) (l0 : List Int) (a1 : Int) (l2 : List Int) : Option (Int) := if (l0.length : Int) = 256 then (crc_Step.l0 k l0 a1 l2 (l2.length : Int) 0) else (some 0)
theorem crc_Step.mono_l : ∀ k, (∀ y0 y1 y2 y3 y4, LeO (crc_Step.l0 k y0 y1 y2 y3 y4) (crc_Step.l0 (k + 1) y0 y1 y2 y3 y4))
  | 0 => fun _ _ _ _ _ r h => by simp [crc_Step.l0] at h
  | k + 1 => by
    have ih0 := crc_Step.mono_l k
    · intro y0 y1 y2 y3 y4
      unfold crc_Step.l0
      repeat' first
      | (with_reducible exact ih0 _ _ _ _ _)
      | (with_reducible exact LeO.refl _)
      | (with_reducible exact LeO.none _)
      | (with_reducible refine LeO.ite ?_ ?_)
      | (with_reducible refine LeO.bind ?_ (fun _ => ?_))
      | exact ih0 _ _ _ _ _
      | exact LeO.none _
      | refine LeO.ite ?_ ?_
      | refine LeO.bind ?_ (fun _ => ?_)
theorem crc_Step.mono : ∀ a0 a1 a2 k, LeO (crc_Step.f k a0 a1 a2) (crc_Step.f (k + 1) a0 a1 a2) := by
  intro a0 a1 a2 k
  have ih0 := crc_Step.mono_l k
  unfold crc_Step.f
  repeat' first
      | (with_reducible exact ih0 _ _ _ _ _)
      | (with_reducible exact LeO.refl _)
      | (with_reducible exact LeO.none _)
      | (with_reducible refine LeO.ite ?_ ?_)
      | (with_reducible refine LeO.bind ?_ (fun _ => ?_))
      | exact ih0 _ _ _ _ _
      | exact LeO.none _
      | refine LeO.ite ?_ ?_
      | refine LeO.bind ?_ (fun _ => ?_)
set_option maxHeartbeats 8000000 in
set_option maxRecDepth 100000 in
theorem crc_Step.calls (k : Nat) (A0 : Option Addr) (c0 : Nat) (l0 : List Int) (a1 : Int) (A2 : Option Addr) (c2 : Nat) (l2 : List Int) (r : Int) (w : World) (hr0 : Kd.C (Kd.int .u32) w A0 l0.length l0) (hc0 : l0.length ≤ c0) (hr2 : Kd.C (Kd.int .u8) w A2 l2.length l2) (hc2 : l2.length ≤ c2) (h : crc_Step.f k l0 a1 l2 = some r) :
    Calls Try.prog 15 #[.slice A0 l0.length c0, .int .u32 a1, .slice A2 l2.length c2] w fun e w' => e = .returned (.int .u32 r) ∧ Drawn0 w w' := by
  have HR0 := Aside0.mk hr0
  have HC0 := Aside0.mk hc0
  clear hr0 hc0
  have HR2 := Aside0.mk hr2
  have HC2 := Aside0.mk hc2
  clear hr2 hc2
  have H : (if (l0.length : Int) = 256 then (crc_Step.l0 k l0 a1 l2 (l2.length : Int) 0) else (some 0)) = some r := h
  clear h
  by_cases c4 : (l0.length : Int) = 256
  · rw [if_pos c4] at H
    have c4b0 : ((l0.length : Int) == 256) = true := beq_iff_eq.mpr c4
    have c4b1 : ((l0.length : Int) != 256) = false := bne_eq_false_iff_eq.mpr c4
    clear c4
    have H' := Aside0.mk H
    clear H
    go_enter Try.func15, Try.ntmps15
    go_wp2
    go_loopg [1, 14] k (fun kq v1 v14 w' => ∃ (x1_1 : Int) (x14_1 : Int), v1 = .int .u32 x1_1 ∧ v14 = .int .i64 x14_1 ∧ Aside0 (crc_Step.l0 kq l0 x1_1 l2 (l2.length : Int) x14_1 = some r) ∧ Aside0 (kq ≤ k) ∧ Drawn0 w w')
    case atStart => exact ⟨(a1), (0), (by first | rfl | (simp; done) | (simp [*]; done)), (by first | rfl | (simp; done) | (simp [*]; done)), H', ⟨Nat.le_refl _⟩, by repeat (first | exact Drawn0.refl _ | apply Drawn0.step)⟩
    case round =>
      clear H'
      try clear c1
      try clear c2
      try clear p2
      try clear c4
      try clear c4b0
      try clear c4b1
      obtain ⟨x1_1, x14_1, rfl, rfl, HA, HK1, ⟨m1, rfl⟩⟩ := hrel
      cases gk with
      | zero => exact absurd HA.out (by simp [crc_Step.l0])
      | succ k1 =>
        have H := HA.out
        clear HA
        simp only [crc_Step.l0] at H
        by_cases c5 : x14_1 < (l2.length : Int)
        · rw [if_pos c5] at H
          have c5b0 : decide (x14_1 < (l2.length : Int)) = true := decide_eq_true c5
          clear c5
          by_cases c6 : 0 ≤ x14_1
          · rw [if_pos c6] at H
            have c6b0 : decide (0 ≤ x14_1) = true := decide_eq_true c6
            clear c6
            by_cases c7 : x14_1 < (l2.length : Int)
            · rw [if_pos c7] at H
              have c7b0 : decide (x14_1 < (l2.length : Int)) = true := decide_eq_true c7
              clear c7
              obtain ⟨ji8, hji8⟩ : ∃ j_ : Int, (Go.bits .xor .u8 ((x1_1) % 256) (rd l2 x14_1)) = j_ := ⟨_, rfl⟩
              replace H : (if 0 ≤ (ji8) then (if (ji8) < (l0.length : Int) then (crc_Step.l0 k1 l0 (Go.bits .xor .u32 (x1_1 / 256) (rd l0 (ji8))) l2 (l2.length : Int) (wrap64 (x14_1 + 1))) else (none)) else (none)) = some r := by first | (rw [hji8] at H; exact H) | (simp only [hji8] at H ⊢; exact H)
              by_cases c9 : 0 ≤ (ji8)
              · rw [if_pos c9] at H
                have c9b0 : decide (0 ≤ (ji8)) = true := decide_eq_true c9
                clear c9
                by_cases c10 : (ji8) < (l0.length : Int)
                · rw [if_pos c10] at H
                  have c10b0 : decide ((ji8) < (l0.length : Int)) = true := decide_eq_true c10
                  clear c10
                  have H' := Aside0.mk H
                  clear H
                  have p101 : 0 ≤ (x14_1 : Int) := of_decide_eq_true (by first | (with_reducible assumption) | assumption)
                  have q101 : x14_1 < (l2.length : Int) := of_decide_eq_true (by first | (with_reducible assumption) | assumption)
                  obtain ⟨ad101, e101, hx101_0⟩ := Kd.at_int HR2.out x14_1 p101 q101
                  cases e101
                  replace p101 := eq_true p101
                  replace q101 := eq_true q101
                  have p102 : 0 ≤ ((ji8) : Int) := of_decide_eq_true (by first | (with_reducible assumption) | assumption)
                  have q102 : (ji8) < (l0.length : Int) := of_decide_eq_true (by first | (with_reducible assumption) | assumption)
                  obtain ⟨ad102, e102, hx102_0⟩ := Kd.at_int HR0.out (ji8) p102 q102
                  cases e102
                  replace p102 := eq_true p102
                  replace q102 := eq_true q102
                  go_wp2
                  go_roundg k1
                  case measure => have := HK1.out; omega
                  case rel => exact ⟨(Go.bits .xor .u32 (x1_1 / 256) (rd l0 (ji8))), (wrap64 (x14_1 + 1)), (by first | rfl | (simp; done) | (simp only [← hji8] <;> (first | rfl | simp)) | (simp [*]; done)), (by first | rfl | (simp; done) | (simp [*]; done)), H', ⟨by have := HK1.out; omega⟩, by repeat (first | exact Drawn0.refl _ | apply Drawn0.step)⟩
                · rw [if_neg c10] at H
                  exact absurd H (by simp)
              · rw [if_neg c9] at H
                exact absurd H (by simp)
            · rw [if_neg c7] at H
              exact absurd H (by simp)
          · rw [if_neg c6] at H
            exact absurd H (by simp)
        · rw [if_neg c5] at H
          have c5b0 : decide (x14_1 < (l2.length : Int)) = false := decide_eq_false c5
          clear c5
          obtain rfl := Option.some.inj H
          go_wp2
          go_ret
          exact ⟨by first | rfl | (simp; done) | (simp [*]; done), by repeat (first | exact Drawn0.refl _ | apply Drawn0.step)⟩
  · rw [if_neg c4] at H
    have c4b0 : ((l0.length : Int) == 256) = false := beq_eq_false_iff_ne.mpr c4
    have c4b1 : ((l0.length : Int) != 256) = true := bne_iff_ne.mpr c4
    obtain rfl := Option.some.inj H
    go_enter Try.func15, Try.ntmps15
    go_wp2
    go_ret
    exact ⟨by first | rfl | (simp; done) | (simp [*]; done), by repeat (first | exact Drawn0.refl _ | apply Drawn0.step)⟩

/-! ### crc_Sum: function 13 -/
def crc_Sum.f (k : Nat) (l0 : List Int) (l1 : List Int) : Option (Int) := if (l0.length : Int) = 256 then ((crc_Step.f k l0 4294967295 l1).bind fun t103 => (some (Go.bits .xor .u32 4294967295 t103))) else (some 0)
theorem crc_Sum.mono : ∀ a0 a1 k, LeO (crc_Sum.f k a0 a1) (crc_Sum.f (k + 1) a0 a1) := by
  intro a0 a1 k
  unfold crc_Sum.f
  repeat' first
      | (with_reducible exact crc_Step.mono _ _ _ _)
      | (with_reducible exact LeO.refl _)
      | (with_reducible exact LeO.none _)
      | (with_reducible refine LeO.ite ?_ ?_)
      | (with_reducible refine LeO.bind ?_ (fun _ => ?_))
      | exact crc_Step.mono _ _ _ _
      | exact LeO.none _
      | refine LeO.ite ?_ ?_
      | refine LeO.bind ?_ (fun _ => ?_)
set_option maxHeartbeats 8000000 in
set_option maxRecDepth 100000 in
theorem crc_Sum.calls (k : Nat) (A0 : Option Addr) (c0 : Nat) (l0 : List Int) (A1 : Option Addr) (c1 : Nat) (l1 : List Int) (r : Int) (w : World) (hr0 : Kd.C (Kd.int .u32) w A0 l0.length l0) (hc0 : l0.length ≤ c0) (hr1 : Kd.C (Kd.int .u8) w A1 l1.length l1) (hc1 : l1.length ≤ c1) (h : crc_Sum.f k l0 l1 = some r) :
    Calls Try.prog 13 #[.slice A0 l0.length c0, .slice A1 l1.length c1] w fun e w' => e = .returned (.int .u32 r) ∧ Drawn0 w w' := by
  have HR0 := Aside0.mk hr0
  have HC0 := Aside0.mk hc0
  clear hr0 hc0
  have HR1 := Aside0.mk hr1
  have HC1 := Aside0.mk hc1
  clear hr1 hc1
  have H : (if (l0.length : Int) = 256 then ((crc_Step.f k l0 4294967295 l1).bind fun t103 => (some (Go.bits .xor .u32 4294967295 t103))) else (some 0)) = some r := h
  clear h
  by_cases c3 : (l0.length : Int) = 256
  · rw [if_pos c3] at H
    have c3b0 : ((l0.length : Int) == 256) = true := beq_iff_eq.mpr c3
    have c3b1 : ((l0.length : Int) != 256) = false := bne_eq_false_iff_eq.mpr c3
    clear c3
    replace H := Option.bind_eq_some_iff.mp H
    obtain ⟨t103, A40, H⟩ := H
    replace H : (some (Go.bits .xor .u32 4294967295 t103)) = some r := H
    have A4 := Aside0.mk A40
    clear A40
    obtain rfl := Option.some.inj H
    go_enter Try.func13, Try.ntmps13
    go_wp2_with (first | ((with_reducible refine gate_callee (f := 15) rfl ?_); refine goesL_ (some 10) rfl rfl Try.func15 (by kernel_rfl) rfl #[.slice A0 l0.length c0, .int .u32 4294967295, .slice A1 l1.length c1] rfl (by (try simp only [List.map_toArray, List.map_cons, List.map_nil]); first | done | rfl | (simp only [List.length_drop, List.length_take]; rfl)) ?_; (with_reducible refine (crc_Step.calls k _ _ l0 4294967295 _ _ l1 t103 _ ?side1 ?side2 ?side3 ?side4 A4.out).mono ?_); (case side1 => repeat (first | exact HR0.out | (with_reducible refine Kd.C_alloc ?_ _) | (with_reducible refine Kd.C_drewN ?_ _) | (with_reducible refine Kd.C_drew ?_))); (case side2 => exact HC0.out); (case side3 => repeat (first | exact HR1.out | (with_reducible refine Kd.C_alloc ?_ _) | (with_reducible refine Kd.C_drewN ?_ _) | (with_reducible refine Kd.C_drew ?_))); (case side4 => exact HC1.out); rintro e w' ⟨rfl, ⟨nd, rfl⟩⟩; refine ⟨_, rfl, ?_⟩))
    go_ret
    exact ⟨by first | rfl | (simp; done) | (simp [*]; done), by repeat (first | exact Drawn0.refl _ | apply Drawn0.step)⟩
  · rw [if_neg c3] at H
    have c3b0 : ((l0.length : Int) == 256) = false := beq_eq_false_iff_ne.mpr c3
    have c3b1 : ((l0.length : Int) != 256) = true := bne_iff_ne.mpr c3
    obtain rfl := Option.some.inj H
    go_enter Try.func13, Try.ntmps13
    go_wp2
    go_ret
    exact ⟨by first | rfl | (simp; done) | (simp [*]; done), by repeat (first | exact Drawn0.refl _ | apply Drawn0.step)⟩

/-! ### bollardlaw03_awake: function 10 -/
-- HAND
def digits : List Int := [49, 50, 51, 52, 53, 54, 55, 56, 57]
def tab : List Int := (List.range 256).map fun i => (Crc.L8 i : Int)
theorem tab_len : tab.length = 256 := by unfold tab; simp
theorem sum_digits : crc_Sum.f 20 tab digits = some 3808858755 := by decide +kernel
theorem sum_none : crc_Sum.f 20 tab [] = some 0 := by decide +kernel
theorem sum1 (A0 A1 : Option Addr) (w : World) (hr0 : Kd.C (Kd.int .u32) w A0 256 tab) (hr1 : Kd.C (Kd.int .u8) w A1 9 digits) :
    Calls Try.prog 13 #[.slice A0 256 256, .slice A1 9 9] w fun e w' => e = .returned (.int .u32 3808858755) ∧ Drawn0 w w' := by
  have h := crc_Sum.calls 20 A0 256 tab A1 9 digits 3808858755 w (by rw [tab_len]; exact hr0) (by rw [tab_len]; omega) hr1 (by decide) sum_digits
  rw [tab_len] at h
  exact h
theorem sum2 (A0 : Option Addr) (w : World) (hr0 : Kd.C (Kd.int .u32) w A0 256 tab) :
    Calls Try.prog 13 #[.slice A0 256 256, .slice none 0 0] w fun e w' => e = .returned (.int .u32 0) ∧ Drawn0 w w' := by
  have h := crc_Sum.calls 20 A0 256 tab none 0 [] 0 w (by rw [tab_len]; exact hr0) (by rw [tab_len]; omega) (Kd.C_nil _ _) (by decide) sum_none
  rw [tab_len] at h
  exact h
theorem tab_C (W : World) (g : Nat) (hb : W.heap[g]? = some (.cells (cellsAt 256) 39 (0, 0))) : Kd.C (Kd.int .u32) W (some ⟨g, 0, none⟩) 256 tab :=
  Kd.C_of_reads (d := (0 : Int)) (h1 := fun _ => rfl) (tab_reads W g hb)
theorem dig_C (W : World) (fr : Nat × Nat) (n : Nat) (hn : n = W.heap.size) : Kd.C (Kd.int .u8) (W.alloc (.cells #[.int .u8 49, .int .u8 50, .int .u8 51, .int .u8 52, .int .u8 53, .int .u8 54, .int .u8 55, .int .u8 56, .int .u8 57] 5 fr)) (some ⟨n, 0, none⟩) 9 digits := by
  subst hn
  refine Kd.C_of_reads (d := (0 : Int)) (h1 := fun _ => rfl) ⟨rfl, by decide, fun _ => ⟨_, rfl, fun j hj => ?_⟩⟩
  have e : (⟨W.heap.size, 0, none⟩ : Addr).add j = ⟨W.heap.size, j, none⟩ := by simp [Addr.add]; exact fun h => h.symm
  rw [e, World.cell?_alloc_mark]
  match j, hj with
  | 0, _ => rfl
  | 1, _ => rfl
  | 2, _ => rfl
  | 3, _ => rfl
  | 4, _ => rfl
  | 5, _ => rfl
  | 6, _ => rfl
  | 7, _ => rfl
  | 8, _ => rfl
def bollardlaw03_awake.f : Option Bool := some true
set_option maxRecDepth 100000 in
set_option maxHeartbeats 2000000 in
theorem awake_true (w : World) : Calls Try.prog 10 #[] w fun e w' => e = .returned (.bool true) ∧ Below w.heap.size w w' := by
  have kc := fun (w : World) (C : Array Value) (n c : Nat) => Lib.run_convert_bytes_const (P := Try.prog) w 28 5 C n c Try.underlying28 Try.underlying5
  have L1 : (Crc.L8 1 : Int) = 4067132163 := by decide +kernel
  go_enter Try.func10, Try.ntmps10
  go_wp2_with fail
  refine (table_walk w).mono ?_
  rintro e w1 ⟨g, hg, rfl, hb, hB⟩
  have hx : w1.cell? ⟨g, 1, none⟩ = some (.int .u32 4067132163) := by rw [blk_cell hb, cells_get _ _ (by omega), if_pos (by omega), L1]
  have HB := Lib.hid hb
  clear hb L1 hg
  go_wp2_with fail
  refine (sum1 _ _ _ ?_ ?_).mono ?_
  · exact tab_C _ g (blk_alloc HB.out _)
  · exact dig_C w1 _ _ rfl
  rintro e w2 ⟨rfl, ⟨nd, rfl⟩⟩
  go_wp2_with fail
  refine (sum2 _ _ ?_).mono ?_
  · exact tab_C _ g (blk_drewN (blk_alloc HB.out _) _)
  rintro e w3 ⟨rfl, ⟨nd2, rfl⟩⟩
  go_wp2
  go_ret
  exact ⟨rfl, by repeat (with_reducible first | exact hB | apply below_alloc | apply pw_below_drewN)⟩
theorem bollardlaw03_awake.calls (r : Bool) (w : World) (h : bollardlaw03_awake.f = some r) :
    Calls Try.prog 10 #[] w fun e w' => e = .returned (.bool r) ∧ Below w.heap.size w w' := by
  obtain rfl := Option.some.inj h
  exact awake_true w


end Go.Proofs.Ytdmlkjenopmdlaa.PCrcLinear
