/- The machine side of one law (contracts of functions, or its row), for every input, without conditions; written by a program of this session, wip/mprint.py. -/
import Derived.Test.YtdmlkjenopmdlaaPCrcBytesx0
namespace Go.Proofs.Ytdmlkjenopmdlaa.PCrcBytes
open Go.RowKit Go.Proofs.YtdmlkjenopmdlaaW.PrintWords Go.Proofs.YtdmlkjenopmdlaaW.PrintLast Go.Proofs.YtdmlkjenopmdlaaW.PrintMore
attribute [local go_sem] max2_int min2_int max_two min_two max_three min_three max_four min_four   -- for this text's walks alone
set_option linter.unusedVariables false
set_option linter.unusedSimpArgs false

/-! ### crc_Table: function 11 -/
-- HAND
/-- The cells of the table when its first k numbers are laid. -/
def cellsAt (k : Nat) : Array Value := ((List.range 256).map (fun i => Value.int .u32 (if i < k then (Crc.L8 i : Int) else 0))).toArray
theorem stepL (v : Nat) (h : v < 4294967296) : Go.bits .xor .u32 ((v : Int) / 2) (Go.bits .and .u32 2197175160 ((-Go.bits .and .u32 (v : Int) 1) % 4294967296)) = (Crc.L v : Int) := by
  have e1 : Go.bits .and .u32 (v : Int) 1 = ((v % 2 : Nat) : Int) := by
    have := u32_and_nat v 1 h (by decide)
    rw [show ((1 : Nat) : Int) = 1 from rfl] at this
    rw [this, Nat.and_one_is_mod]
  rw [e1]
  rcases Nat.mod_two_eq_zero_or_one v with hv | hv
  · rw [hv]
    have e2 : Go.bits .and .u32 2197175160 ((-((0 : Nat) : Int)) % 4294967296) = ((0 : Nat) : Int) := by decide
    rw [e2]
    have e3 := u32_xor_nat (v / 2) 0 (by omega) (by decide)
    have e4 : (((v / 2 : Nat)) : Int) = (v : Int) / 2 := by omega
    rw [e4] at e3
    rw [e3]; unfold Crc.L; rw [if_neg (by omega)]
  · rw [hv]
    have e2 : Go.bits .and .u32 2197175160 ((-((1 : Nat) : Int)) % 4294967296) = ((2197175160 : Nat) : Int) := by decide
    rw [e2]
    have e3 := u32_xor_nat (v / 2) 2197175160 (by omega) (by decide)
    have e4 : (((v / 2 : Nat)) : Int) = (v : Int) / 2 := by omega
    rw [e4] at e3
    rw [e3]; unfold Crc.L; rw [if_pos (by omega)]
def iter : Nat → Nat → Nat
  | 0, v => v
  | j + 1, v => Crc.L (iter j v)
theorem iter_lt (j v : Nat) (h : v < 4294967296) : iter j v < 4294967296 := by
  induction j with
  | zero => exact h
  | succ j ih => exact Crc.L_lt _ ih
theorem cells_get (k i : Nat) (hi : i < 256) : (cellsAt k)[i]? = some (Value.int .u32 (if i < k then (Crc.L8 i : Int) else 0)) := by
  unfold cellsAt
  simp [hi]
theorem cells_set (k : Nat) (hk : k < 256) : (cellsAt k).setIfInBounds k (.int .u32 (Crc.L8 k : Int)) = cellsAt (k + 1) := by
  apply Array.ext_getElem?
  intro i
  by_cases hi : i < 256
  · rw [cells_get _ _ hi, Array.getElem?_setIfInBounds]
    have hs : (cellsAt k).size = 256 := by unfold cellsAt; simp
    by_cases h : k = i
    · subst h; rw [if_pos rfl, if_pos (by omega), if_pos (by omega)]
    · rw [if_neg h, cells_get _ _ hi]
      by_cases h2 : i < k
      · rw [if_pos h2, if_pos (by omega)]
      · rw [if_neg h2, if_neg (by omega)]
  · have hs : ∀ m, (cellsAt m).size = 256 := by intro m; unfold cellsAt; simp
    rw [Array.getElem?_eq_none (by simp [hs]; omega), Array.getElem?_eq_none (by rw [hs]; omega)]
set_option maxRecDepth 100000 in
set_option maxHeartbeats 2000000 in
theorem table_walk (w : World) :
    Calls Try.prog 11 #[] w fun e w' => ∃ g, w.heap.size ≤ g ∧ e = .returned (.slice (some ⟨g, 0, none⟩) 256 256) ∧ w'.heap[g]? = some (.cells (cellsAt 256) 39 (0, 0)) ∧ Below w.heap.size w w' := by
  go_enter Try.func11, Try.ntmps11
  go_wp2_with (first | ((with_reducible refine gate_dst (N := 1) rfl ?_); refine box_event ?hg (N := 1) ?hd (cs := cellsAt 0) (t := 39) ?hr ?_; (case hd => rfl); (case hg => rfl); (case hr => kernel_rfl); intro g hg w1 hbox hb))
  obtain ⟨g0, rfl⟩ : ∃ g0, w.heap.size = g0 := ⟨_, rfl⟩
  go_loopw [4] (fun v wr => ∃ k : Nat, k ≤ 256 ∧ v = .int .i64 k ∧ wr.heap[w.heap.size]? = some (.cells (cellsAt k) 39 (0, 0)) ∧ Below w.heap.size w wr) (fun v _ => 256 - (intOf v).toNat)
  case atStart => exact ⟨0, by omega, rfl, by rw [← hg]; exact hbox, hb⟩
  case round =>
    obtain ⟨k, hk, rfl, hbk, hB⟩ := hrel
    by_cases hlt : k < 256
    · have hl' : (k : Int) < 256 := by omega
      go_wp2
      go_loop [3, 9] (fun v i => ∃ j : Nat, j ≤ 8 ∧ i = .int .i64 j ∧ v = .int .u32 (iter j k)) (fun _ i => 8 - (intOf i).toNat)
      case atStart => exact ⟨0, by omega, rfl, by first | rfl | (simp [iter]; omega)⟩
      case round =>
        obtain ⟨j, hj, rfl, rfl⟩ := hrel
        by_cases hj8 : j < 8
        · have hj' : (j : Int) < 8 := by omega
          have hs := Lib.hid (stepL (iter j k) (iter_lt j k (by omega)))
          go_wp2
          go_round
          case rel => exact ⟨j + 1, by omega, by go_num, by rw [hs.out]; rfl⟩
          case measure => simp [intOf]; omega
        · have hj' : ¬ (j : Int) < 8 := by omega
          obtain rfl : j = 8 := by omega
          have hcell : wr.cell? ⟨w.heap.size, k, none⟩ = some (.int .u32 0) := by rw [blk_cell hbk, cells_get _ _ hlt, if_neg (by omega)]
          have hfr := blk_frozen hbk k
          go_wp2
          go_roundw
          case rel => exact ⟨k + 1, by omega, by go_num, blk_put hbk k _ (cells_set k hlt), below_set hB (Nat.le_refl _)⟩
          case measure => simp [intOf]; omega
    · have hl' : ¬ (k : Int) < 256 := by omega
      obtain rfl : k = 256 := by omega
      go_wp2
      go_ret
      exact ⟨w.heap.size, Nat.le_refl _, rfl, hbk, hB⟩
def crc_Table.f : Option (List Int) := some ((List.range 256).map fun i => (Crc.L8 i : Int))
theorem tab_reads (W : World) (g : Nat) (hb : W.heap[g]? = some (.cells (cellsAt 256) 39 (0, 0))) : ReadsInt W .u32 (some ⟨g, 0, none⟩) 256 ((List.range 256).map fun i => (Crc.L8 i : Int)) := by
  refine ⟨by simp, by decide, fun _ => ⟨_, rfl, fun j hj => ?_⟩⟩
  have e : (⟨g, 0, none⟩ : Addr).add j = ⟨g, j, none⟩ := by simp [Addr.add]; exact fun h => h.symm
  have e2 : ((List.range 256).map fun i => (Crc.L8 i : Int)).getD j 0 = (Crc.L8 j : Int) := by
    rw [List.getD_eq_getElem?_getD, List.getElem?_map, List.getElem?_range hj]; rfl
  rw [e, blk_cell hb, cells_get _ _ hj, if_pos hj, e2]
theorem crc_Table.calls (r : List Int) (w : World) (h : crc_Table.f = some r) :
    Calls Try.prog 11 #[] w fun e w' => ∃ v0_ : Value, e = .returned (v0_) ∧ Kd.V (Kd.int .u32) 25 w' w.heap.size (fun k_ => (w.heap.size ≤ k_)) v0_ r ∧ Below w.heap.size w w' := by
  obtain rfl := Option.some.inj h
  refine (table_walk w).mono ?_
  rintro e w' ⟨g, hg, rfl, hb, hB⟩
  have hl : ((List.range 256).map fun i => (Crc.L8 i : Int)).length = 256 := by simp
  refine ⟨_, rfl, ⟨some ⟨g, 0, none⟩, 256, by rw [hl], by rw [hl]; omega, fun W' hW' => ?_⟩, hB⟩
  have hb' : W'.heap[g]? = some (.cells (cellsAt 256) 39 (0, 0)) := (hW' g hg (blk_lt hb)).trans hb
  rw [hl]
  exact Kd.C_of_reads (d := (0 : Int)) (h1 := fun _ => rfl) (tab_reads W' g hb')


/-! ### crc_Step: function 15 -/
def crc_Step.l0 : Nat → List Int → Int → List Int → Int → Int → Option (Int)
  | 0, _, _, _, _, _ => none
  | k + 1, x0, x1, x12, x13, x14 => if x14 < x13 then (if 0 ≤ x14 then (if x14 < (x12.length : Int) then (if 0 ≤ (Go.bits .xor .u8 ((x1) % 256) (rd x12 x14)) then (if (Go.bits .xor .u8 ((x1) % 256) (rd x12 x14)) < (x0.length : Int) then (crc_Step.l0 k x0 (Go.bits .xor .u32 (x1 / 256) (rd x0 (Go.bits .xor .u8 ((x1) % 256) (rd x12 x14)))) x12 x13 (wrap64 (x14 + 1))) else (none)) else (none)) else (none)) else (none)) else (some x1)
def crc_Step.f (k : Nat) (l0 : List Int) (a1 : Int) (l2 : List Int) : Option (Int) := if (l0.length : Int) = 256 then (crc_Step.l0 k l0 a1 l2 (l2.length : Int) 0) else (some 0)
theorem crc_Step.mono_l : ∀ k, (∀ y0 y1 y2 y3 y4, LeO (crc_Step.l0 k y0 y1 y2 y3 y4) (crc_Step.l0 (k + 1) y0 y1 y2 y3 y4))
  | 0 => fun _ _ _ _ _ r h => by simp [crc_Step.l0] at h
  | k + 1 => by
    have ih0 := crc_Step.mono_l k
    · intro y0 y1 y2 y3 y4
      unfold crc_Step.l0
      repeat' first
      | (with_reducible exact ih0 _ _ _ _ _)
      | (with_reducible exact LeO.refl _)
      | (with_reducible exact LeO.none _)
      | (with_reducible refine LeO.ite ?_ ?_)
      | (with_reducible refine LeO.bind ?_ (fun _ => ?_))
      | exact ih0 _ _ _ _ _
      | exact LeO.none _
      | refine LeO.ite ?_ ?_
      | refine LeO.bind ?_ (fun _ => ?_)
theorem crc_Step.mono : ∀ a0 a1 a2 k, LeO (crc_Step.f k a0 a1 a2) (crc_Step.f (k + 1) a0 a1 a2) := by
  intro a0 a1 a2 k
  have ih0 := crc_Step.mono_l k
  unfold crc_Step.f
  repeat' first
      | (with_reducible exact ih0 _ _ _ _ _)
      | (with_reducible exact LeO.refl _)
      | (with_reducible exact LeO.none _)
      | (with_reducible refine LeO.ite ?_ ?_)
      | (with_reducible refine LeO.bind ?_ (fun _ => ?_))
      | exact ih0 _ _ _ _ _
      | exact LeO.none _
      | refine LeO.ite ?_ ?_
      | refine LeO.bind ?_ (fun _ => ?_)
set_option maxHeartbeats 8000000 in
set_option maxRecDepth 100000 in
theorem crc_Step.calls (k : Nat) (A0 : Option Addr) (c0 : Nat) (l0 : List Int) (a1 : Int) (A2 : Option Addr) (c2 : Nat) (l2 : List Int) (r : Int) (w : World) (hr0 : Kd.C (Kd.int .u32) w A0 l0.length l0) (hc0 : l0.length ≤ c0) (hr2 : Kd.C (Kd.int .u8) w A2 l2.length l2) (hc2 : l2.length ≤ c2) (h : crc_Step.f k l0 a1 l2 = some r) :
    Calls Try.prog 15 #[.slice A0 l0.length c0, .int .u32 a1, .slice A2 l2.length c2] w fun e w' => e = .returned (.int .u32 r) ∧ Drawn0 w w' := by
  have HR0 := Aside0.mk hr0
  have HC0 := Aside0.mk hc0
  clear hr0 hc0
  have HR2 := Aside0.mk hr2
  have HC2 := Aside0.mk hc2
  clear hr2 hc2
  have H : (if (l0.length : Int) = 256 then (crc_Step.l0 k l0 a1 l2 (l2.length : Int) 0) else (some 0)) = some r := h
  clear h
  by_cases c4 : (l0.length : Int) = 256
  · rw [if_pos c4] at H
    have c4b0 : ((l0.length : Int) == 256) = true := beq_iff_eq.mpr c4
    have c4b1 : ((l0.length : Int) != 256) = false := bne_eq_false_iff_eq.mpr c4
    clear c4
    have H' := Aside0.mk H
    clear H
    go_enter Try.func15, Try.ntmps15
    go_wp2
    go_loopg [1, 14] k (fun kq v1 v14 w' => ∃ (x1_1 : Int) (x14_1 : Int), v1 = .int .u32 x1_1 ∧ v14 = .int .i64 x14_1 ∧ Aside0 (crc_Step.l0 kq l0 x1_1 l2 (l2.length : Int) x14_1 = some r) ∧ Aside0 (kq ≤ k) ∧ Drawn0 w w')
    case atStart => exact ⟨(a1), (0), (by first | rfl | (simp; done) | (simp [*]; done)), (by first | rfl | (simp; done) | (simp [*]; done)), H', ⟨Nat.le_refl _⟩, by repeat (first | exact Drawn0.refl _ | apply Drawn0.step)⟩
    case round =>
      clear H'
      try clear c1
      try clear c2
      try clear p2
      try clear c4
      try clear c4b0
      try clear c4b1
      obtain ⟨x1_1, x14_1, rfl, rfl, HA, HK1, ⟨m1, rfl⟩⟩ := hrel
      cases gk with
      | zero => exact absurd HA.out (by simp [crc_Step.l0])
      | succ k1 =>
        have H := HA.out
        clear HA
        simp only [crc_Step.l0] at H
        by_cases c5 : x14_1 < (l2.length : Int)
        · rw [if_pos c5] at H
          have c5b0 : decide (x14_1 < (l2.length : Int)) = true := decide_eq_true c5
          clear c5
          by_cases c6 : 0 ≤ x14_1
          · rw [if_pos c6] at H
            have c6b0 : decide (0 ≤ x14_1) = true := decide_eq_true c6
            clear c6
            by_cases c7 : x14_1 < (l2.length : Int)
            · rw [if_pos c7] at H
              have c7b0 : decide (x14_1 < (l2.length : Int)) = true := decide_eq_true c7
              clear c7
              obtain ⟨ji8, hji8⟩ : ∃ j_ : Int, (Go.bits .xor .u8 ((x1_1) % 256) (rd l2 x14_1)) = j_ := ⟨_, rfl⟩
              replace H : (if 0 ≤ (ji8) then (if (ji8) < (l0.length : Int) then (crc_Step.l0 k1 l0 (Go.bits .xor .u32 (x1_1 / 256) (rd l0 (ji8))) l2 (l2.length : Int) (wrap64 (x14_1 + 1))) else (none)) else (none)) = some r := by first | (rw [hji8] at H; exact H) | (simp only [hji8] at H ⊢; exact H)
              by_cases c9 : 0 ≤ (ji8)
              · rw [if_pos c9] at H
                have c9b0 : decide (0 ≤ (ji8)) = true := decide_eq_true c9
                clear c9
                by_cases c10 : (ji8) < (l0.length : Int)
                · rw [if_pos c10] at H
                  have c10b0 : decide ((ji8) < (l0.length : Int)) = true := decide_eq_true c10
                  clear c10
                  have H' := Aside0.mk H
                  clear H
                  have p101 : 0 ≤ (x14_1 : Int) := of_decide_eq_true (by first | (with_reducible assumption) | assumption)
                  have q101 : x14_1 < (l2.length : Int) := of_decide_eq_true (by first | (with_reducible assumption) | assumption)
                  obtain ⟨ad101, e101, hx101_0⟩ := Kd.at_int HR2.out x14_1 p101 q101
                  cases e101
                  replace p101 := eq_true p101
                  replace q101 := eq_true q101
                  have p102 : 0 ≤ ((ji8) : Int) := of_decide_eq_true (by first | (with_reducible assumption) | assumption)
                  have q102 : (ji8) < (l0.length : Int) := of_decide_eq_true (by first | (with_reducible assumption) | assumption)
                  obtain ⟨ad102, e102, hx102_0⟩ := Kd.at_int HR0.out (ji8) p102 q102
                  cases e102
                  replace p102 := eq_true p102
                  replace q102 := eq_true q102
                  go_wp2
                  go_roundg k1
                  case measure => have := HK1.out; omega
                  case rel => exact ⟨(Go.bits .xor .u32 (x1_1 / 256) (rd l0 (ji8))), (wrap64 (x14_1 + 1)), (by first | rfl | (simp; done) | (simp only [← hji8] <;> (first | rfl | simp)) | (simp [*]; done)), (by first | rfl | (simp; done) | (simp [*]; done)), H', ⟨by have := HK1.out; omega⟩, by repeat (first | exact Drawn0.refl _ | apply Drawn0.step)⟩
                · rw [if_neg c10] at H
                  exact absurd H (by simp)
              · rw [if_neg c9] at H
                exact absurd H (by simp)
            · rw [if_neg c7] at H
              exact absurd H (by simp)
          · rw [if_neg c6] at H
            exact absurd H (by simp)
        · rw [if_neg c5] at H
          have c5b0 : decide (x14_1 < (l2.length : Int)) = false := decide_eq_false c5
          clear c5
          obtain rfl := Option.some.inj H
          go_wp2
          go_ret
          exact ⟨by first | rfl | (simp; done) | (simp [*]; done), by repeat (first | exact Drawn0.refl _ | apply Drawn0.step)⟩
  · rw [if_neg c4] at H
    have c4b0 : ((l0.length : Int) == 256) = false := beq_eq_false_iff_ne.mpr c4
    have c4b1 : ((l0.length : Int) != 256) = true := bne_iff_ne.mpr c4
    obtain rfl := Option.some.inj H
    go_enter Try.func15, Try.ntmps15
    go_wp2
    go_ret
    exact ⟨by first | rfl | (simp; done) | (simp [*]; done), by repeat (first | exact Drawn0.refl _ | apply Drawn0.step)⟩

/-! ### crc_Sum: function 13 -/
def crc_Sum.f (k : Nat) (l0 : List Int) (l1 : List Int) : Option (Int) := if (l0.length : Int) = 256 then ((crc_Step.f k l0 4294967295 l1).bind fun t103 => (some (Go.bits .xor .u32 4294967295 t103))) else (some 0)
theorem crc_Sum.mono : ∀ a0 a1 k, LeO (crc_Sum.f k a0 a1) (crc_Sum.f (k + 1) a0 a1) := by
  intro a0 a1 k
  unfold crc_Sum.f
  repeat' first
      | (with_reducible exact crc_Step.mono _ _ _ _)
      | (with_reducible exact LeO.refl _)
      | (with_reducible exact LeO.none _)
      | (with_reducible refine LeO.ite ?_ ?_)
      | (with_reducible refine LeO.bind ?_ (fun _ => ?_))
      | exact crc_Step.mono _ _ _ _
      | exact LeO.none _
      | refine LeO.ite ?_ ?_
      | refine LeO.bind ?_ (fun _ => ?_)
set_option maxHeartbeats 8000000 in
set_option maxRecDepth 100000 in
theorem crc_Sum.calls (k : Nat) (A0 : Option Addr) (c0 : Nat) (l0 : List Int) (A1 : Option Addr) (c1 : Nat) (l1 : List Int) (r : Int) (w : World) (hr0 : Kd.C (Kd.int .u32) w A0 l0.length l0) (hc0 : l0.length ≤ c0) (hr1 : Kd.C (Kd.int .u8) w A1 l1.length l1) (hc1 : l1.length ≤ c1) (h : crc_Sum.f k l0 l1 = some r) :
    Calls Try.prog 13 #[.slice A0 l0.length c0, .slice A1 l1.length c1] w fun e w' => e = .returned (.int .u32 r) ∧ Drawn0 w w' := by
  have HR0 := Aside0.mk hr0
  have HC0 := Aside0.mk hc0
  clear hr0 hc0
  have HR1 := Aside0.mk hr1
  have HC1 := Aside0.mk hc1
  clear hr1 hc1
  have H : (if (l0.length : Int) = 256 then ((crc_Step.f k l0 4294967295 l1).bind fun t103 => (some (Go.bits .xor .u32 4294967295 t103))) else (some 0)) = some r := h
  clear h
  by_cases c3 : (l0.length : Int) = 256
  · rw [if_pos c3] at H
    have c3b0 : ((l0.length : Int) == 256) = true := beq_iff_eq.mpr c3
    have c3b1 : ((l0.length : Int) != 256) = false := bne_eq_false_iff_eq.mpr c3
    clear c3
    replace H := Option.bind_eq_some_iff.mp H
    obtain ⟨t103, A40, H⟩ := H
    replace H : (some (Go.bits .xor .u32 4294967295 t103)) = some r := H
    have A4 := Aside0.mk A40
    clear A40
    obtain rfl := Option.some.inj H
    go_enter Try.func13, Try.ntmps13
    go_wp2_with (first | ((with_reducible refine gate_callee (f := 15) rfl ?_); refine goesL_ (some 10) rfl rfl Try.func15 (by kernel_rfl) rfl #[.slice A0 l0.length c0, .int .u32 4294967295, .slice A1 l1.length c1] rfl (by (try simp only [List.map_toArray, List.map_cons, List.map_nil]); first | done | rfl | (simp only [List.length_drop, List.length_take]; rfl)) ?_; (with_reducible refine (crc_Step.calls k _ _ l0 4294967295 _ _ l1 t103 _ ?side1 ?side2 ?side3 ?side4 A4.out).mono ?_); (case side1 => repeat (first | exact HR0.out | (with_reducible refine Kd.C_alloc ?_ _) | (with_reducible refine Kd.C_drewN ?_ _) | (with_reducible refine Kd.C_drew ?_))); (case side2 => exact HC0.out); (case side3 => repeat (first | exact HR1.out | (with_reducible refine Kd.C_alloc ?_ _) | (with_reducible refine Kd.C_drewN ?_ _) | (with_reducible refine Kd.C_drew ?_))); (case side4 => exact HC1.out); rintro e w' ⟨rfl, ⟨nd, rfl⟩⟩; refine ⟨_, rfl, ?_⟩))
    go_ret
    exact ⟨by first | rfl | (simp; done) | (simp [*]; done), by repeat (first | exact Drawn0.refl _ | apply Drawn0.step)⟩
  · rw [if_neg c3] at H
    have c3b0 : ((l0.length : Int) == 256) = false := beq_eq_false_iff_ne.mpr c3
    have c3b1 : ((l0.length : Int) != 256) = true := bne_iff_ne.mpr c3
    obtain rfl := Option.some.inj H
    go_enter Try.func13, Try.ntmps13
    go_wp2
    go_ret
    exact ⟨by first | rfl | (simp; done) | (simp [*]; done), by repeat (first | exact Drawn0.refl _ | apply Drawn0.step)⟩

/-! ### bollardlaw03_awake: function 10 -/
-- HAND
def digits : List Int := [49, 50, 51, 52, 53, 54, 55, 56, 57]
def tab : List Int := (List.range 256).map fun i => (Crc.L8 i : Int)
theorem tab_len : tab.length = 256 := by unfold tab; simp
theorem sum_digits : crc_Sum.f 20 tab digits = some 3808858755 := by decide +kernel
theorem sum_none : crc_Sum.f 20 tab [] = some 0 := by decide +kernel
theorem sum1 (A0 A1 : Option Addr) (w : World) (hr0 : Kd.C (Kd.int .u32) w A0 256 tab) (hr1 : Kd.C (Kd.int .u8) w A1 9 digits) :
    Calls Try.prog 13 #[.slice A0 256 256, .slice A1 9 9] w fun e w' => e = .returned (.int .u32 3808858755) ∧ Drawn0 w w' := by
  have h := crc_Sum.calls 20 A0 256 tab A1 9 digits 3808858755 w (by rw [tab_len]; exact hr0) (by rw [tab_len]; omega) hr1 (by decide) sum_digits
  rw [tab_len] at h
  exact h
theorem sum2 (A0 : Option Addr) (w : World) (hr0 : Kd.C (Kd.int .u32) w A0 256 tab) :
    Calls Try.prog 13 #[.slice A0 256 256, .slice none 0 0] w fun e w' => e = .returned (.int .u32 0) ∧ Drawn0 w w' := by
  have h := crc_Sum.calls 20 A0 256 tab none 0 [] 0 w (by rw [tab_len]; exact hr0) (by rw [tab_len]; omega) (Kd.C_nil _ _) (by decide) sum_none
  rw [tab_len] at h
  exact h
theorem tab_C (W : World) (g : Nat) (hb : W.heap[g]? = some (.cells (cellsAt 256) 39 (0, 0))) : Kd.C (Kd.int .u32) W (some ⟨g, 0, none⟩) 256 tab :=
  Kd.C_of_reads (d := (0 : Int)) (h1 := fun _ => rfl) (tab_reads W g hb)
theorem dig_C (W : World) (fr : Nat × Nat) (n : Nat) (hn : n = W.heap.size) : Kd.C (Kd.int .u8) (W.alloc (.cells #[.int .u8 49, .int .u8 50, .int .u8 51, .int .u8 52, .int .u8 53, .int .u8 54, .int .u8 55, .int .u8 56, .int .u8 57] 5 fr)) (some ⟨n, 0, none⟩) 9 digits := by
  subst hn
  refine Kd.C_of_reads (d := (0 : Int)) (h1 := fun _ => rfl) ⟨rfl, by decide, fun _ => ⟨_, rfl, fun j hj => ?_⟩⟩
  have e : (⟨W.heap.size, 0, none⟩ : Addr).add j = ⟨W.heap.size, j, none⟩ := by simp [Addr.add]; exact fun h => h.symm
  rw [e, World.cell?_alloc_mark]
  match j, hj with
  | 0, _ => rfl
  | 1, _ => rfl
  | 2, _ => rfl
  | 3, _ => rfl
  | 4, _ => rfl
  | 5, _ => rfl
  | 6, _ => rfl
  | 7, _ => rfl
  | 8, _ => rfl
def bollardlaw03_awake.f : Option Bool := some true
set_option maxRecDepth 100000 in
set_option maxHeartbeats 2000000 in
theorem awake_true (w : World) : Calls Try.prog 10 #[] w fun e w' => e = .returned (.bool true) ∧ Below w.heap.size w w' := by
  have kc := fun (w : World) (C : Array Value) (n c : Nat) => Lib.run_convert_bytes_const (P := Try.prog) w 28 5 C n c Try.underlying28 Try.underlying5
  have L1 : (Crc.L8 1 : Int) = 4067132163 := by decide +kernel
  go_enter Try.func10, Try.ntmps10
  go_wp2_with fail
  refine (table_walk w).mono ?_
  rintro e w1 ⟨g, hg, rfl, hb, hB⟩
  have hx : w1.cell? ⟨g, 1, none⟩ = some (.int .u32 4067132163) := by rw [blk_cell hb, cells_get _ _ (by omega), if_pos (by omega), L1]
  have HB := Lib.hid hb
  clear hb L1 hg
  go_wp2_with fail
  refine (sum1 _ _ _ ?_ ?_).mono ?_
  · exact tab_C _ g (blk_alloc HB.out _)
  · exact dig_C w1 _ _ rfl
  rintro e w2 ⟨rfl, ⟨nd, rfl⟩⟩
  go_wp2_with fail
  refine (sum2 _ _ ?_).mono ?_
  · exact tab_C _ g (blk_drewN (blk_alloc HB.out _) _)
  rintro e w3 ⟨rfl, ⟨nd2, rfl⟩⟩
  go_wp2
  go_ret
  exact ⟨rfl, by repeat (with_reducible first | exact hB | apply below_alloc | apply pw_below_drewN)⟩
theorem bollardlaw03_awake.calls (r : Bool) (w : World) (h : bollardlaw03_awake.f = some r) :
    Calls Try.prog 10 #[] w fun e w' => e = .returned (.bool r) ∧ Below w.heap.size w w' := by
  obtain rfl := Option.some.inj h
  exact awake_true w


/-! ### bollardlaw03_CrcBytes: function 9 -/
def bollardlaw03_CrcBytes.j0 : Nat → List Int → Int → Int → Bool → Bool → Option (Bool)
  | 0, _, _, _, _, _ => none
  | k + 1, x0, x1, x2, x7, x23 => if x23 = true then (some x7) else ((some (([] : List Int) : List Int)).bind fun y105 => (if y105.length + x0.length < 140737488355328 then ((some (y105 ++ x0 : List Int)).bind fun y108 => (if (x0.length : Int) = 0 then (none) else (if 0 ≤ (Int.tmod (Go.bits .and .i64 x1 65535) (x0.length : Int)) then (if (Int.tmod (Go.bits .and .i64 x1 65535) (x0.length : Int)) < (y108.length : Int) then ((crc_Table.f).bind fun t113 => (if x7 = true then ((crc_Sum.f k t113 x0).bind fun t116 => ((crc_Sum.f k t113 (y108.set ((Int.tmod (Go.bits .and .i64 x1 65535) (x0.length : Int)) : Int).toNat (Go.bits .xor .u8 (rd y108 (Int.tmod (Go.bits .and .i64 x1 65535) (x0.length : Int))) x2))).bind fun t117 => (some (t116 != t117)))) else (some false))) else (none)) else (none)))) else (none)))
def bollardlaw03_CrcBytes.f (k : Nat) (l0 : List Int) (a1 : Int) (a2 : Int) : Option (Bool) := (bollardlaw03_awake.f).bind fun t104 => (if (l0.length : Int) = 0 then (bollardlaw03_CrcBytes.j0 k l0 a1 a2 t104 true) else (if (l0.length : Int) > 2000 then (bollardlaw03_CrcBytes.j0 k l0 a1 a2 t104 true) else (bollardlaw03_CrcBytes.j0 k l0 a1 a2 t104 (a2 == 0))))
theorem bollardlaw03_CrcBytes.mono_l : ∀ k, (∀ y0 y1 y2 y3 y4, LeO (bollardlaw03_CrcBytes.j0 k y0 y1 y2 y3 y4) (bollardlaw03_CrcBytes.j0 (k + 1) y0 y1 y2 y3 y4))
  | 0 => fun _ _ _ _ _ r h => by simp [bollardlaw03_CrcBytes.j0] at h
  | k + 1 => by
    have ih0 := bollardlaw03_CrcBytes.mono_l k
    · intro y0 y1 y2 y3 y4
      unfold bollardlaw03_CrcBytes.j0
      repeat' first
      | (with_reducible exact ih0 _ _ _ _ _)
      | (with_reducible exact crc_Sum.mono _ _ _)
      | (with_reducible exact LeO.refl _)
      | (with_reducible exact LeO.none _)
      | (with_reducible refine LeO.ite ?_ ?_)
      | (with_reducible refine LeO.bind ?_ (fun _ => ?_))
      | exact ih0 _ _ _ _ _
      | exact crc_Sum.mono _ _ _
      | exact LeO.none _
      | refine LeO.ite ?_ ?_
      | refine LeO.bind ?_ (fun _ => ?_)
theorem bollardlaw03_CrcBytes.mono : ∀ a0 a1 a2 k, LeO (bollardlaw03_CrcBytes.f k a0 a1 a2) (bollardlaw03_CrcBytes.f (k + 1) a0 a1 a2) := by
  intro a0 a1 a2 k
  have ih0 := bollardlaw03_CrcBytes.mono_l k
  unfold bollardlaw03_CrcBytes.f
  repeat' first
      | (with_reducible exact ih0 _ _ _ _ _)
      | (with_reducible exact crc_Sum.mono _ _ _)
      | (with_reducible exact LeO.refl _)
      | (with_reducible exact LeO.none _)
      | (with_reducible refine LeO.ite ?_ ?_)
      | (with_reducible refine LeO.bind ?_ (fun _ => ?_))
      | exact ih0 _ _ _ _ _
      | exact crc_Sum.mono _ _ _
      | exact LeO.none _
      | refine LeO.ite ?_ ?_
      | refine LeO.bind ?_ (fun _ => ?_)
set_option maxHeartbeats 8000000 in
set_option maxRecDepth 100000 in
theorem bollardlaw03_CrcBytes.calls (k : Nat) (A0 : Option Addr) (c0 : Nat) (l0 : List Int) (a1 : Int) (a2 : Int) (w : World) (hr0 : Kd.C (Kd.int .u8) w A0 l0.length l0) (hc0 : l0.length ≤ c0) (h : bollardlaw03_CrcBytes.f k l0 a1 a2 = some true) :
    Calls Try.prog 9 #[.slice A0 l0.length c0, .int .i64 a1, .int .u8 a2] w fun e w' => e = .returned (.bool true) ∧ Below w.heap.size w w' := by
  have HR0 := Aside0.mk hr0
  have HC0 := Aside0.mk hc0
  clear hr0 hc0
  have HB := Aside0.mk (Below.refl w.heap.size w)
  have H : ((bollardlaw03_awake.f).bind fun t104 => (if (l0.length : Int) = 0 then (bollardlaw03_CrcBytes.j0 k l0 a1 a2 t104 true) else (if (l0.length : Int) > 2000 then (bollardlaw03_CrcBytes.j0 k l0 a1 a2 t104 true) else (bollardlaw03_CrcBytes.j0 k l0 a1 a2 t104 (a2 == 0))))) = some true := h
  clear h
  replace H := Option.bind_eq_some_iff.mp H
  obtain ⟨t104, A40, H⟩ := H
  replace H : (if (l0.length : Int) = 0 then (bollardlaw03_CrcBytes.j0 k l0 a1 a2 t104 true) else (if (l0.length : Int) > 2000 then (bollardlaw03_CrcBytes.j0 k l0 a1 a2 t104 true) else (bollardlaw03_CrcBytes.j0 k l0 a1 a2 t104 (a2 == 0)))) = some true := H
  have A4 := Aside0.mk A40
  clear A40
  have HC5 := Aside0.mk H
  clear H
  go_enter Try.func9, Try.ntmps9
  go_upto_region 2 with (first | ((with_reducible refine gate_callee (f := 10) rfl ?_); refine goesL_ (some 11) rfl rfl Try.func10 (by kernel_rfl) rfl #[] rfl (by (try simp only [List.map_toArray, List.map_cons, List.map_nil]); first | done | rfl | (simp only [List.length_drop, List.length_take]; rfl)) ?_; (with_reducible refine (bollardlaw03_awake.calls  t104 _ A4.out).mono ?_); rintro e w6 ⟨rfl, hb⟩; refine ⟨_, rfl, ?_⟩; have n0_ := Aside0.mk (below_step (by repeat (first | (with_reducible first | exact HB.out | apply below_alloc | apply pw_below_drewN | apply below_drew1) | exact HB.out)) hb); clear HB; have HB := n0_; clear n0_; (try clear hb); (try clear hb2); (try clear hk); (try clear hi)))
  (try simp only [Act.put, List.setIfInBounds_toArray, List.set_cons_zero, List.set_cons_succ])
  go_cut [23] (fun v23 wc => ∃ (kq : Nat) (x23_4 : Bool), v23 = .bool x23_4 ∧ Aside0 (bollardlaw03_CrcBytes.j0 kq l0 a1 a2 t104 x23_4 = some true) ∧ Aside0 (kq ≤ k) ∧ Aside0 (Below w.heap.size w wc))
  case first =>
    have H := HC5.out
    clear HC5
    by_cases c7 : (l0.length : Int) = 0
    · rw [if_pos c7] at H
      have c7b0 : ((l0.length : Int) == 0) = true := beq_iff_eq.mpr c7
      have c7b1 : ((l0.length : Int) != 0) = false := bne_eq_false_iff_eq.mpr c7
      clear c7
      (first | rw [c7b0] | (simp only [i64_w, i32_w]; rw [c7b0]) | skip)
      have H' := Aside0.mk H
      clear H
      go_wp2
      go_meet
      case rel => exact ⟨_, (true), (by first | rfl | (simp; done) | (simp [*]; done)), H', ⟨by first | omega | exact Nat.le_refl _⟩, ⟨by repeat (first | (with_reducible first | exact HB.out | apply below_alloc | apply pw_below_drewN | apply below_drew1) | exact HB.out)⟩⟩
    · rw [if_neg c7] at H
      have c7b0 : ((l0.length : Int) == 0) = false := beq_eq_false_iff_ne.mpr c7
      have c7b1 : ((l0.length : Int) != 0) = true := bne_iff_ne.mpr c7
      have c7b2 : ¬ (l0 = []) := fun h_ => c7 (by rw [h_]; rfl)
      (first | rw [c7b0] | (simp only [i64_w, i32_w]; rw [c7b0]) | skip)
      by_cases c8 : (l0.length : Int) > 2000
      · rw [if_pos c8] at H
        have c8b0 : decide (2000 < (l0.length : Int)) = true := decide_eq_true c8
        have c8b1 : decide (2000 < l0.length) = true := decide_eq_true (by omega)
        clear c8
        have H' := Aside0.mk H
        clear H
        go_wp2
        go_meet
        case rel => exact ⟨_, (true), (by first | rfl | (simp; done) | (simp [*]; done)), H', ⟨by first | omega | exact Nat.le_refl _⟩, ⟨by repeat (first | (with_reducible first | exact HB.out | apply below_alloc | apply pw_below_drewN | apply below_drew1) | exact HB.out)⟩⟩
      · rw [if_neg c8] at H
        have c8b0 : decide (2000 < (l0.length : Int)) = false := decide_eq_false c8
        have c8b1 : decide (2000 < l0.length) = false := decide_eq_false (by omega)
        clear c8
        have H' := Aside0.mk H
        clear H
        go_wp2
        go_meet
        case rel => exact ⟨_, ((a2 == 0)), (by first | rfl | (simp; done) | (simp [*]; done)), H', ⟨by first | omega | exact Nat.le_refl _⟩, ⟨by repeat (first | (with_reducible first | exact HB.out | apply below_alloc | apply pw_below_drewN | apply below_drew1) | exact HB.out)⟩⟩
  case rest =>
    clear HC5
    try clear c1
    try clear p2
    try clear c7
    try clear c7b0
    try clear c7b1
    try clear c7b2
    try clear c8
    try clear c8b0
    try clear c8b1
    obtain ⟨kq, x23_4, rfl, HA, HJ4, HB⟩ := hcut
    cases kq with
    | zero => exact absurd HA.out (by simp [bollardlaw03_CrcBytes.j0])
    | succ kj4 =>
      have H := HA.out
      clear HA
      simp only [bollardlaw03_CrcBytes.j0] at H
      by_cases c9 : x23_4 = true
      · subst c9
        have H1 : (some t104) = some true := by rw [if_pos rfl] at H; exact H
        clear H
        have H := H1
        clear H1
        have HRT := Aside0.mk (Option.some.inj H)
        clear H
        go_wp2
        any_goals (first | (go_ret; refine ⟨?_, ?_⟩; (focus (first | rfl | (rw [HRT.out]; done) | (rw [HRT.out]; rfl) | (simp only [HRT.out]; done) | (simp [HRT.out]; done) | (simp [errW_none, errW_some] <;> rfl) | (simp [*, errW_none, errW_some] <;> rfl))); (repeat (first | (with_reducible first | exact HB.out | apply below_alloc | apply pw_below_drewN | apply below_drew1) | exact HB.out)); done) | fail)
        all_goals (exfalso; first | omega | (simp_all; done))
      · replace c9 := Bool.eq_false_iff.mpr c9
        subst c9
        have H1 : ((some (([] : List Int) : List Int)).bind fun y105 => (if y105.length + l0.length < 140737488355328 then ((some (y105 ++ l0 : List Int)).bind fun y108 => (if (l0.length : Int) = 0 then (none) else (if 0 ≤ (Int.tmod (Go.bits .and .i64 a1 65535) (l0.length : Int)) then (if (Int.tmod (Go.bits .and .i64 a1 65535) (l0.length : Int)) < (y108.length : Int) then ((crc_Table.f).bind fun t113 => (if t104 = true then ((crc_Sum.f kj4 t113 l0).bind fun t116 => ((crc_Sum.f kj4 t113 (y108.set ((Int.tmod (Go.bits .and .i64 a1 65535) (l0.length : Int)) : Int).toNat (Go.bits .xor .u8 (rd y108 (Int.tmod (Go.bits .and .i64 a1 65535) (l0.length : Int))) a2))).bind fun t117 => (some (t116 != t117)))) else (some false))) else (none)) else (none)))) else (none))) = some true := by rw [if_neg (show ¬ (false = true) by decide)] at H; exact H
        clear H
        have H := H1
        clear H1
        obtain ⟨y105, hy105⟩ : ∃ y_ : List Int, y_ = (([] : List Int)) := ⟨_, rfl⟩
        replace H : (if y105.length + l0.length < 140737488355328 then ((some (y105 ++ l0 : List Int)).bind fun y108 => (if (l0.length : Int) = 0 then (none) else (if 0 ≤ (Int.tmod (Go.bits .and .i64 a1 65535) (l0.length : Int)) then (if (Int.tmod (Go.bits .and .i64 a1 65535) (l0.length : Int)) < (y108.length : Int) then ((crc_Table.f).bind fun t113 => (if t104 = true then ((crc_Sum.f kj4 t113 l0).bind fun t116 => ((crc_Sum.f kj4 t113 (y108.set ((Int.tmod (Go.bits .and .i64 a1 65535) (l0.length : Int)) : Int).toNat (Go.bits .xor .u8 (rd y108 (Int.tmod (Go.bits .and .i64 a1 65535) (l0.length : Int))) a2))).bind fun t117 => (some (t116 != t117)))) else (some false))) else (none)) else (none)))) else (none)) = some true := by first | (rw [hy105]; with_reducible exact H) | (have H2_ := (Option.bind_some _ _).symm.trans H; rw [hy105]; with_reducible exact H2_) | (have H2_ := (Option.bind_some _ _).symm.trans H; with_reducible exact H2_) | with_reducible exact H | (rw [hy105]; exact H) | exact H
        have Ny105 := Aside0.mk hy105
        clear hy105
        by_cases c10 : y105.length + l0.length < 140737488355328
        · rw [if_pos c10] at H
          have LMc10 := Aside0.mk c10
          clear c10
          obtain ⟨y108, hy108⟩ : ∃ y_ : List Int, y_ = (y105 ++ l0) := ⟨_, rfl⟩
          replace H : (if (l0.length : Int) = 0 then (none) else (if 0 ≤ (Int.tmod (Go.bits .and .i64 a1 65535) (l0.length : Int)) then (if (Int.tmod (Go.bits .and .i64 a1 65535) (l0.length : Int)) < (y108.length : Int) then ((crc_Table.f).bind fun t113 => (if t104 = true then ((crc_Sum.f kj4 t113 l0).bind fun t116 => ((crc_Sum.f kj4 t113 (y108.set ((Int.tmod (Go.bits .and .i64 a1 65535) (l0.length : Int)) : Int).toNat (Go.bits .xor .u8 (rd y108 (Int.tmod (Go.bits .and .i64 a1 65535) (l0.length : Int))) a2))).bind fun t117 => (some (t116 != t117)))) else (some false))) else (none)) else (none))) = some true := by first | (rw [hy108]; with_reducible exact H) | (have H2_ := (Option.bind_some _ _).symm.trans H; rw [hy108]; with_reducible exact H2_) | (have H2_ := (Option.bind_some _ _).symm.trans H; with_reducible exact H2_) | with_reducible exact H | (rw [hy108]; exact H) | exact H
          have Ny108 := Aside0.mk hy108
          clear hy108
          by_cases c11 : (l0.length : Int) = 0
          · rw [if_pos c11] at H
            exact absurd H (by simp)
          · rw [if_neg c11] at H
            have c11b0 : ((l0.length : Int) == 0) = false := beq_eq_false_iff_ne.mpr c11
            have c11b1 : ((l0.length : Int) != 0) = true := bne_iff_ne.mpr c11
            have c11b2 : ¬ (l0 = []) := fun h_ => c11 (by rw [h_]; rfl)
            obtain ⟨ji12, hji12⟩ : ∃ j_ : Int, (Int.tmod (Go.bits .and .i64 a1 65535) (l0.length : Int)) = j_ := ⟨_, rfl⟩
            replace H : (if 0 ≤ (ji12) then (if (ji12) < (y108.length : Int) then ((crc_Table.f).bind fun t113 => (if t104 = true then ((crc_Sum.f kj4 t113 l0).bind fun t116 => ((crc_Sum.f kj4 t113 (y108.set ((ji12) : Int).toNat (Go.bits .xor .u8 (rd y108 (ji12)) a2))).bind fun t117 => (some (t116 != t117)))) else (some false))) else (none)) else (none)) = some true := by first | (rw [hji12] at H; exact H) | (simp only [hji12] at H ⊢; exact H)
            by_cases c13 : 0 ≤ (ji12)
            · rw [if_pos c13] at H
              have c13b0 : decide (0 ≤ (ji12)) = true := decide_eq_true c13
              clear c13
              by_cases c14 : (ji12) < (y108.length : Int)
              · rw [if_pos c14] at H
                have c14b0 : decide ((ji12) < (y108.length : Int)) = true := decide_eq_true c14
                clear c14
                obtain ⟨y112, hy112⟩ : ∃ y_ : List Int, y_ = (y108.set ((ji12) : Int).toNat (Go.bits .xor .u8 (rd y108 (ji12)) a2)) := ⟨_, rfl⟩
                replace H : ((crc_Table.f).bind fun t113 => (if t104 = true then ((crc_Sum.f kj4 t113 l0).bind fun t116 => ((crc_Sum.f kj4 t113 y112).bind fun t117 => (some (t116 != t117)))) else (some false))) = some true := by first | (rw [hy112]; with_reducible exact H) | (have H2_ := (Option.bind_some _ _).symm.trans H; rw [hy112]; with_reducible exact H2_) | (have H2_ := (Option.bind_some _ _).symm.trans H; with_reducible exact H2_) | with_reducible exact H | (rw [hy112]; exact H) | exact H
                have Ny112 := Aside0.mk hy112
                clear hy112
                replace H := Option.bind_eq_some_iff.mp H
                obtain ⟨t113, A160, H⟩ := H
                replace H : (if t104 = true then ((crc_Sum.f kj4 t113 l0).bind fun t116 => ((crc_Sum.f kj4 t113 y112).bind fun t117 => (some (t116 != t117)))) else (some false)) = some true := H
                have A16 := Aside0.mk A160
                clear A160
                by_cases c17 : t104 = true
                · subst c17
                  have H1 : ((crc_Sum.f kj4 t113 l0).bind fun t116 => ((crc_Sum.f kj4 t113 y112).bind fun t117 => (some (t116 != t117)))) = some true := by rw [if_pos rfl] at H; exact H
                  clear H
                  have H := H1
                  clear H1
                  replace H := Option.bind_eq_some_iff.mp H
                  obtain ⟨t116, A180, H⟩ := H
                  replace H : ((crc_Sum.f kj4 t113 y112).bind fun t117 => (some (t116 != t117))) = some true := H
                  have A18 := Aside0.mk A180
                  clear A180
                  replace H := Option.bind_eq_some_iff.mp H
                  obtain ⟨t117, A190, H⟩ := H
                  replace H : (some (t116 != t117)) = some true := H
                  have A19 := Aside0.mk A190
                  clear A190
                  have HRT := Aside0.mk (Option.some.inj H)
                  clear H
                  go_wp2_with (first | ((with_reducible refine gate_dst (N := 25) rfl ?_); (try (refine gate_guard (by rfl) ?_; dsimp only)); refine Kd.R_lit (Kd.int .u8) _ 5 ?hg (N := 25) ?hd (xs := ([] : List Int)) (inner := []) (ok := fun _ => True) (okp := fun _ => True) ?hr ?hp (fun _ hk => hk) trivial (Below.refl _ _) (Nat.le_refl _) (by simp) ?_; (case hd => rfl); (case hg => rfl); (case hr => first | (go_simp; done) | (go_simp; rfl)); (case hp => exact (Reps.none _ _)); intro v106 w20 ho21 hb hg_ hnew_; clear hg_ hnew_; (first | rw [← Ny105.out] at ho21 | (simp only [Int.reduceToNat] at ho21; rw [← Ny105.out] at ho21)); have n0_ := Aside0.mk (Kd.R_lower ho21 (below_size (by repeat (first | (with_reducible first | exact HB.out | apply below_alloc | apply pw_below_drewN | apply below_drew1) | exact HB.out)))); have n1_ := Aside0.mk (below_step (by repeat (first | (with_reducible first | exact HB.out | apply below_alloc | apply pw_below_drewN | apply below_drew1) | exact HB.out)) hb); clear HB; have HO107 := n0_; have HB := n1_; clear n0_ n1_; clear hb ho21) | ((with_reducible refine gate_builtin (b := .append) (xs := #[.tmp 25, .tmp 26]) rfl ?_); (try (refine gate_guard (by rfl) ?_; dsimp only)); at_builtin; refine Kd.R_append_rows (Kd.int .u8) (w0 := w) w.heap.size rfl (.tmp 25) (.tmp 26) 28 5 (.int .u8 0) 1 rfl Try.underlying28 info5 rfl (by decide) (by omega) v106 y105 l0 _ _ _ (fun _ => True) (fun _ => False) rfl rfl ?aO ?aR (fun _ _ h => h) (fun _ h => h.elim) ?aF ?aB ?aS ?aL ?_; (case aR => repeat (first | exact (Kd.C_below HR0.out HB.out) | (with_reducible refine Kd.C_alloc ?_ _) | (with_reducible refine Kd.C_drewN ?_ _) | (with_reducible refine Kd.C_drew ?_))); (case aB => exact (by repeat (first | (with_reducible first | exact HB.out | apply below_alloc | apply pw_below_drewN | apply below_drew1) | exact HB.out))); (case aF => exact (fun _ _ => trivial)); (case aO => exact (by (with_reducible repeat (first | apply Kd.R_alloc | apply Kd.R_drewN | apply Kd.R_drew)); exact HO107.out)); (case aS => exact (below_size (by repeat (first | (with_reducible first | exact HB.out | apply below_alloc | apply pw_below_drewN | apply below_drew1) | exact HB.out)))); (case aL => have := LMc10.out; omega); intro v109 w22 ho hb hg hat; rw [← Ny108.out] at ho; have n0_ := Aside0.mk (hb); have n1_ := Aside0.mk (ho); clear HB; clear HO107; have HB := n0_; have HO110 := n1_; clear n0_ n1_; clear ho hb hg hat; obtain ⟨Ao23, co23, eo23⟩ := Kd.R_slice HO110.out; subst eo23; have p111 : 0 ≤ ((ji12) : Int) := of_decide_eq_true (by first | (with_reducible assumption) | assumption); have q111 : (ji12) < (y108.length : Int) := of_decide_eq_true (by first | (with_reducible assumption) | assumption); obtain ⟨ad111, e111, hx111_0⟩ := Kd.at_int (Kd.R_reads' HO110.out).2.2 (ji12) p111 q111; cases e111; replace p111 := eq_true p111; replace q111 := eq_true q111; have p15 : 0 ≤ ((ji12) : Int) := of_decide_eq_true (by first | (with_reducible assumption) | assumption); have q15 : ((ji12) : Int) < ((y108.length : Int) : Int) := of_decide_eq_true (by first | (with_reducible assumption) | assumption); obtain ⟨go15, co15, eo15, gb15, gl15, cl15, HG15⟩ := Kd.R_form HO110.out (by omega); (first | cases eo15 | (injection eo15 with ea_ en_ ec_; (first | subst ea_ | (injection ea_ with ea_; subst ea_)); subst ec_; clear en_)); have GB15 := Aside0.mk gb15; have GG15 := Aside0.mk HG15; clear gb15 gl15 HG15; (first | simp only [add_plain] at hx111_0 | skip); obtain ⟨hx15_0, hf15_0⟩ := Kd.R_celln 0 HO110.out ((ji12) : Int) p15 q15; replace p15 := eq_true p15; replace q15 := eq_true q15; obtain ⟨hy24_, hz24_⟩ := Kd.R_celln 0 HO110.out ((ji12) : Int) (of_decide_eq_true (by first | (with_reducible assumption) | assumption)) (of_decide_eq_true (by first | (with_reducible assumption) | assumption)); have HP24 := Kd.R_putg HO110.out ((ji12) : Int) (Go.bits .xor .u8 (rd y108 (ji12)) a2)) | ((with_reducible refine gate_store (t := 5) (p := 41) rfl ?_); refine store_event (t := 5) (p := 41) (v := ?vo_w25) (w1 := (w22.setCell ⟨go15, ((ji12) : Int).toNat, none⟩ (.int .u8 (Go.bits .xor .u8 (rd y108 (ji12)) a2)))) ?hg ?ho ?hn ?hr ?_; (case ho => rfl); (case hg => rfl); (case hn => rfl); (case hr => first | (go_simp; done) | (go_simp; rfl)); intro w25 hw; have hg : w22.grownBy w25 (some go15) := (by rw [hw]; exact HP24.2); have hp_ : Kd.R (Kd.int .u8) 5 w25 w.heap.size (fun _ => True) (.slice (some ⟨go15, 0, none⟩) y108.length co23) y112 := (by rw [hw, Ny112.out]; exact HP24.1); clear HP24; have n0_ := Aside0.mk (hp_); have n1_ := Aside0.mk ((by rw [hw]; exact below_set (HB.out) GB15.out : Below w.heap.size w w25)); clear HO110; clear HB; have HO110 := n0_; have HB := n1_; clear n0_ n1_; clear hg hw hp_) | ((with_reducible refine gate_callee (f := 11) rfl ?_); refine goesL_ (some 42) rfl rfl Try.func11 (by kernel_rfl) rfl #[] rfl (by (try simp only [List.map_toArray, List.map_cons, List.map_nil]); first | done | rfl | (simp only [List.length_drop, List.length_take]; rfl)) ?_; (with_reducible refine (crc_Table.calls  t113 _ A16.out).mono ?_); rintro e w26 ⟨v114, rfl, ho0, hb⟩; refine ⟨_, rfl, ?_⟩; have n0_ := Aside0.mk (Kd.R_below (by (with_reducible repeat (first | apply Kd.R_alloc | apply Kd.R_drewN | apply Kd.R_drew)); exact HO110.out) hb); have n1_ := Aside0.mk (Kd.V_lower (Kd.V_mono (ok' := fun k_ => some k_ ≠ (.slice (some ⟨go15, 0, none⟩) y108.length co23 : Value).ownBlock) ho0 (fun k_ hk_ => (Kd.fresh' (Kd.R_lt (by (with_reducible repeat (first | apply Kd.R_alloc | apply Kd.R_drewN | apply Kd.R_drew)); exact HO110.out)) k_ hk_))) (below_size (by repeat (first | (with_reducible first | exact HB.out | apply below_alloc | apply pw_below_drewN | apply below_drew1) | exact HB.out)))); have n2_ := Aside0.mk (below_step (by repeat (first | (with_reducible first | exact HB.out | apply below_alloc | apply pw_below_drewN | apply below_drew1) | exact HB.out)) hb); clear HO110; clear HB; have HO110 := n0_; have HO115 := n1_; have HB := n2_; clear n0_ n1_ n2_; (try clear hb); (try clear hb2); (try clear hk); (try clear hi); (try clear ho0); obtain ⟨Ao27, co27, eo27⟩ := Kd.V_slice HO115.out; subst eo27) | (go_at_call 13; (with_reducible refine (crc_Sum.calls kj4 _ _ t113 _ _ l0 t116 _ ?side1 ?side2 ?side3 ?side4 A18.out).mono ?_); (case side1 => repeat (first | exact (Kd.V_reads' HO115.out).2.2 | (with_reducible refine Kd.C_alloc ?_ _) | (with_reducible refine Kd.C_drewN ?_ _) | (with_reducible refine Kd.C_drew ?_))); (case side2 => exact (Kd.V_reads' HO115.out).2.1); (case side3 => repeat (first | exact (Kd.C_below HR0.out HB.out) | (with_reducible refine Kd.C_alloc ?_ _) | (with_reducible refine Kd.C_drewN ?_ _) | (with_reducible refine Kd.C_drew ?_))); (case side4 => exact HC0.out); rintro e w' ⟨rfl, ⟨nd, rfl⟩⟩) | (go_at_call 13; refine calls_of_args (args' := #[.slice Ao27 t113.length co27, .slice (some ⟨go15, 0, none⟩) y112.length co23]) (by first | (rw [show y112.length = y108.length from (Kd.R_reads' HO110.out).1.symm] <;> rfl) | rfl) ?_; (with_reducible refine (crc_Sum.calls kj4 _ _ t113 _ _ y112 t117 _ ?side1 ?side2 ?side3 ?side4 A19.out).mono ?_); (case side1 => repeat (first | exact (Kd.V_reads' HO115.out).2.2 | (with_reducible refine Kd.C_alloc ?_ _) | (with_reducible refine Kd.C_drewN ?_ _) | (with_reducible refine Kd.C_drew ?_))); (case side2 => exact (Kd.V_reads' HO115.out).2.1); (case side3 => repeat (first | exact (Kd.R_reads' HO110.out).2.2 | (with_reducible refine Kd.C_alloc ?_ _) | (with_reducible refine Kd.C_drewN ?_ _) | (with_reducible refine Kd.C_drew ?_))); (case side4 => rw [show y112.length = y108.length from (Kd.R_reads' HO110.out).1.symm]; exact (Kd.R_reads' HO110.out).2.1); rintro e w' ⟨rfl, ⟨nd, rfl⟩⟩))
                  any_goals (first | (go_ret; refine ⟨?_, ?_⟩; (focus (first | rfl | (rw [HRT.out]; done) | (rw [HRT.out]; rfl) | (simp only [HRT.out]; done) | (simp [HRT.out]; done) | (simp [errW_none, errW_some] <;> rfl) | (simp only [← hji12]; first | rfl | (simp [errW_none, errW_some] <;> rfl)) | (simp [*, errW_none, errW_some] <;> rfl))); (repeat (first | (with_reducible first | exact HB.out | apply below_alloc | apply pw_below_drewN | apply below_drew1) | exact HB.out)); done) | fail)
                  all_goals (exfalso; first | omega | (simp_all; done))
                · replace c17 := Bool.eq_false_iff.mpr c17
                  subst c17
                  have H1 : (some false) = some true := by rw [if_neg (show ¬ (false = true) by decide)] at H; exact H
                  clear H
                  have H := H1
                  clear H1
                  exact absurd H (by decide)
              · rw [if_neg c14] at H
                exact absurd H (by simp)
            · rw [if_neg c13] at H
              exact absurd H (by simp)
        · rw [if_neg c10] at H
          exact absurd H (by simp)

/-- THE ONE PURE STATEMENT of bollardlaw03_CrcBytes: yours. -/
def bollardlaw03_CrcBytes.Pure : Prop := ∀ (l0 : List Int) (a1 : Int) (a2 : Int), l0.length ≤ maxLen → l0.length * 1 ≤ 140737488351232 → (∀ x ∈ l0, (Lit.int .u8 x).wf = true) → (Lit.int .i64 a1).wf = true → (Lit.int .u8 a2).wf = true → ∃ k, bollardlaw03_CrcBytes.f k l0 a1 a2 = some true
theorem bollardlaw03_CrcBytes.walk (P : bollardlaw03_CrcBytes.Pure) (a0 : Option Addr) (len0 cap0 : Nat) (z0 : List Int) (a1 : Int) (a2 : Int) (w : World) (w0 : (a0 = none ∧ len0 = 0 ∧ cap0 = 0 ∧ z0 = []) ∨ ∃ x, a0 = some x ∧ len0 ≤ cap0 ∧ cap0 ≤ maxLen ∧ z0.length = cap0 ∧ (∀ i, i < z0.length → w.cell? (x.add i) = some (.int .u8 (z0.getD i 0))) ∧ ∀ n ∈ z0, (Lit.int .u8 n).wf = true) (y0 : len0 * 1 ≤ 140737488351232) (w1 : (Lit.int .i64 a1).wf = true) (w2 : (Lit.int .u8 a2).wf = true) :
    Calls Try.prog 9 #[.slice a0 len0 cap0, .int .i64 a1, .int .u8 a2] w fun e w' => e = .returned (.bool true) ∧ Below w.heap.size w w' := by
  obtain ⟨l0, rfl, hr0, hm0, hw0, hc0⟩ := ReadsInt.ofRowC w0
  obtain ⟨k, h⟩ := P l0 a1 a2 hm0 y0 hw0 w1 w2
  refine (bollardlaw03_CrcBytes.calls k _ _ l0 a1 a2 w (Kd.C_of_reads (d := (0 : Int)) (h1 := fun _ => rfl) hr0) hc0 h).mono ?_
  rintro e w' ⟨rfl, hd⟩
  exact ⟨rfl, hd⟩

end Go.Proofs.Ytdmlkjenopmdlaa.PCrcBytes
