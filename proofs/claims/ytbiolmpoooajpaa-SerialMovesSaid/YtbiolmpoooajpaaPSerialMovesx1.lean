-- Written by a program of this session (wip/mprint.py) after the manner of the kit's print.
import Derived.Test.YtbiolmpoooajpaaPSerialMovesx0
namespace Go.Proofs.Ytbiolmpoooajpaa.PSerialMoves
open Go.RowKit Go.Proofs.YtbiolmpoooajpaaW.PrintWords Go.Proofs.YtbiolmpoooajpaaW.PrintLast Go.Proofs.YtbiolmpoooajpaaW.PrintMore
attribute [local go_sem] max2_int min2_int max_two min_two max_three min_three max_four min_four   -- for this text's walks alone
set_option linter.unusedVariables false
set_option linter.unusedSimpArgs false

/-! ### serial_less_uint32: function 19 -/
def serial_less_uint32.f (a0 : Int) (a1 : Int) : Option (Bool) := if ((a1 - a0) % 4294967296) = 0 then (some false) else (some (decide (((a1 - a0) % 4294967296) ≤ ((Go.bits .xor .u32 4294967295 0) / 2))))
set_option maxHeartbeats 8000000 in
set_option maxRecDepth 100000 in
theorem serial_less_uint32.calls (a0 : Int) (a1 : Int) (r : Bool) (w : World) (h : serial_less_uint32.f a0 a1 = some r) :
    Calls Try.prog 19 #[.int .u32 a0, .int .u32 a1] w fun e w' => e = .returned (.bool r) ∧ Drawn0 w w' := by
  have H : (if ((a1 - a0) % 4294967296) = 0 then (some false) else (some (decide (((a1 - a0) % 4294967296) ≤ ((Go.bits .xor .u32 4294967295 0) / 2))))) = some r := h
  clear h
  by_cases c3 : ((a1 - a0) % 4294967296) = 0
  · rw [if_pos c3] at H
    have c3b0 : (((a1 - a0) % 4294967296) == 0) = true := beq_iff_eq.mpr c3
    have c3b1 : (((a1 - a0) % 4294967296) != 0) = false := bne_eq_false_iff_eq.mpr c3
    clear c3
    obtain rfl := Option.some.inj H
    go_enter Try.func19, Try.ntmps19
    go_wp2
    go_ret
    exact ⟨by first | rfl | (rw [HRT.out]; done) | (rw [HRT.out]; rfl) | (simp only [HRT.out]; done) | (simp [HRT.out]; done) | (simp; done) | (simp [*]; done), by repeat (first | exact Drawn0.refl _ | apply Drawn0.step)⟩
  · rw [if_neg c3] at H
    have c3b0 : (((a1 - a0) % 4294967296) == 0) = false := beq_eq_false_iff_ne.mpr c3
    have c3b1 : (((a1 - a0) % 4294967296) != 0) = true := bne_iff_ne.mpr c3
    obtain rfl := Option.some.inj H
    go_enter Try.func19, Try.ntmps19
    go_wp2
    go_ret
    exact ⟨by first | rfl | (rw [HRT.out]; done) | (rw [HRT.out]; rfl) | (simp only [HRT.out]; done) | (simp [HRT.out]; done) | (simp; done) | (simp [*]; done), by repeat (first | exact Drawn0.refl _ | apply Drawn0.step)⟩

/-! ### serial_Less: function 9 -/
def serial_Less.f (a0 : Int) (a1 : Int) : Option (Bool) := (serial_less_uint32.f a0 a1).bind fun t101 => (some t101)
set_option maxHeartbeats 8000000 in
set_option maxRecDepth 100000 in
theorem serial_Less.calls (a0 : Int) (a1 : Int) (r : Bool) (w : World) (h : serial_Less.f a0 a1 = some r) :
    Calls Try.prog 9 #[.int .u32 a0, .int .u32 a1] w fun e w' => e = .returned (.bool r) ∧ Drawn0 w w' := by
  have H : ((serial_less_uint32.f a0 a1).bind fun t101 => (some t101)) = some r := h
  clear h
  replace H := Option.bind_eq_some_iff.mp H
  obtain ⟨t101, A30, H⟩ := H
  replace H : (some t101) = some r := H
  have A3 := Aside0.mk A30
  clear A30
  obtain rfl := Option.some.inj H
  go_enter Try.func9, Try.ntmps9
  go_wp2_with (first | ((with_reducible refine gate_callee (f := 19) rfl ?_); refine goesL_ (some 7) rfl rfl Try.func19 (by kernel_rfl) rfl #[.int .u32 a0, .int .u32 a1] rfl (by (try simp only [List.map_toArray, List.map_cons, List.map_nil]); first | done | rfl | (simp only [List.length_drop, List.length_take]; rfl)) ?_; (with_reducible refine (serial_less_uint32.calls a0 a1 t101 _ A3.out).mono ?_); rintro e w' ⟨rfl, ⟨nd, rfl⟩⟩; refine ⟨_, rfl, ?_⟩))
  go_ret
  exact ⟨by first | rfl | (rw [HRT.out]; done) | (rw [HRT.out]; rfl) | (simp only [HRT.out]; done) | (simp [HRT.out]; done) | (simp; done) | (simp [*]; done), by repeat (first | exact Drawn0.refl _ | apply Drawn0.step)⟩

/-! ### serial_less_uint16: function 21 -/
def serial_less_uint16.f (a0 : Int) (a1 : Int) : Option (Bool) := if (IntKind.u16.wrap (a1 - a0)) = 0 then (some false) else (some (decide ((IntKind.u16.wrap (a1 - a0)) ≤ ((Go.bits .xor .u16 65535 0) / 2))))
set_option maxHeartbeats 8000000 in
set_option maxRecDepth 100000 in
theorem serial_less_uint16.calls (a0 : Int) (a1 : Int) (r : Bool) (w : World) (h : serial_less_uint16.f a0 a1 = some r) :
    Calls Try.prog 21 #[.int .u16 a0, .int .u16 a1] w fun e w' => e = .returned (.bool r) ∧ Drawn0 w w' := by
  have H : (if (IntKind.u16.wrap (a1 - a0)) = 0 then (some false) else (some (decide ((IntKind.u16.wrap (a1 - a0)) ≤ ((Go.bits .xor .u16 65535 0) / 2))))) = some r := h
  clear h
  by_cases c3 : (IntKind.u16.wrap (a1 - a0)) = 0
  · rw [if_pos c3] at H
    have c3b0 : ((IntKind.u16.wrap (a1 - a0)) == 0) = true := beq_iff_eq.mpr c3
    have c3b1 : ((IntKind.u16.wrap (a1 - a0)) != 0) = false := bne_eq_false_iff_eq.mpr c3
    clear c3
    obtain rfl := Option.some.inj H
    go_enter Try.func21, Try.ntmps21
    go_wp2
    go_ret
    exact ⟨by first | rfl | (rw [HRT.out]; done) | (rw [HRT.out]; rfl) | (simp only [HRT.out]; done) | (simp [HRT.out]; done) | (simp; done) | (simp [*]; done), by repeat (first | exact Drawn0.refl _ | apply Drawn0.step)⟩
  · rw [if_neg c3] at H
    have c3b0 : ((IntKind.u16.wrap (a1 - a0)) == 0) = false := beq_eq_false_iff_ne.mpr c3
    have c3b1 : ((IntKind.u16.wrap (a1 - a0)) != 0) = true := bne_iff_ne.mpr c3
    obtain rfl := Option.some.inj H
    go_enter Try.func21, Try.ntmps21
    go_wp2
    go_ret
    exact ⟨by first | rfl | (rw [HRT.out]; done) | (rw [HRT.out]; rfl) | (simp only [HRT.out]; done) | (simp [HRT.out]; done) | (simp; done) | (simp [*]; done), by repeat (first | exact Drawn0.refl _ | apply Drawn0.step)⟩

/-! ### serial_Less16: function 11 -/
def serial_Less16.f (a0 : Int) (a1 : Int) : Option (Bool) := (serial_less_uint16.f a0 a1).bind fun t102 => (some t102)
set_option maxHeartbeats 8000000 in
set_option maxRecDepth 100000 in
theorem serial_Less16.calls (a0 : Int) (a1 : Int) (r : Bool) (w : World) (h : serial_Less16.f a0 a1 = some r) :
    Calls Try.prog 11 #[.int .u16 a0, .int .u16 a1] w fun e w' => e = .returned (.bool r) ∧ Drawn0 w w' := by
  have H : ((serial_less_uint16.f a0 a1).bind fun t102 => (some t102)) = some r := h
  clear h
  replace H := Option.bind_eq_some_iff.mp H
  obtain ⟨t102, A30, H⟩ := H
  replace H : (some t102) = some r := H
  have A3 := Aside0.mk A30
  clear A30
  obtain rfl := Option.some.inj H
  go_enter Try.func11, Try.ntmps11
  go_wp2_with (first | ((with_reducible refine gate_callee (f := 21) rfl ?_); refine goesL_ (some 7) rfl rfl Try.func21 (by kernel_rfl) rfl #[.int .u16 a0, .int .u16 a1] rfl (by (try simp only [List.map_toArray, List.map_cons, List.map_nil]); first | done | rfl | (simp only [List.length_drop, List.length_take]; rfl)) ?_; (with_reducible refine (serial_less_uint16.calls a0 a1 t102 _ A3.out).mono ?_); rintro e w' ⟨rfl, ⟨nd, rfl⟩⟩; refine ⟨_, rfl, ?_⟩))
  go_ret
  exact ⟨by first | rfl | (rw [HRT.out]; done) | (rw [HRT.out]; rfl) | (simp only [HRT.out]; done) | (simp [HRT.out]; done) | (simp; done) | (simp [*]; done), by repeat (first | exact Drawn0.refl _ | apply Drawn0.step)⟩

/-! ### serial_Dist: function 13 -/
def serial_Dist.f (a0 : Int) (a1 : Int) : Option (Int) := some ((a1 - a0) % 4294967296)
set_option maxHeartbeats 8000000 in
set_option maxRecDepth 100000 in
theorem serial_Dist.calls (a0 : Int) (a1 : Int) (r : Int) (w : World) (h : serial_Dist.f a0 a1 = some r) :
    Calls Try.prog 13 #[.int .u32 a0, .int .u32 a1] w fun e w' => e = .returned (.int .u32 r) ∧ Drawn0 w w' := by
  have H : (some ((a1 - a0) % 4294967296)) = some r := h
  clear h
  obtain rfl := Option.some.inj H
  go_enter Try.func13, Try.ntmps13
  go_wp2
  go_ret
  exact ⟨by first | rfl | (rw [HRT.out]; done) | (rw [HRT.out]; rfl) | (simp only [HRT.out]; done) | (simp [HRT.out]; done) | (simp; done) | (simp [*]; done), by repeat (first | exact Drawn0.refl _ | apply Drawn0.step)⟩

/-! ### serial_Max: function 15 -/
def serial_Max.f (a0 : Int) (a1 : Int) : Option (Int) := (serial_less_uint32.f a0 a1).bind fun t103 => (if t103 = true then (some a1) else (some a0))
set_option maxHeartbeats 8000000 in
set_option maxRecDepth 100000 in
theorem serial_Max.calls (a0 : Int) (a1 : Int) (r : Int) (w : World) (h : serial_Max.f a0 a1 = some r) :
    Calls Try.prog 15 #[.int .u32 a0, .int .u32 a1] w fun e w' => e = .returned (.int .u32 r) ∧ Drawn0 w w' := by
  have H : ((serial_less_uint32.f a0 a1).bind fun t103 => (if t103 = true then (some a1) else (some a0))) = some r := h
  clear h
  replace H := Option.bind_eq_some_iff.mp H
  obtain ⟨t103, A30, H⟩ := H
  replace H : (if t103 = true then (some a1) else (some a0)) = some r := H
  have A3 := Aside0.mk A30
  clear A30
  by_cases c4 : t103 = true
  · subst c4
    have H1 : (some a1) = some r := by rw [if_pos rfl] at H; exact H
    clear H
    have H := H1
    clear H1
    obtain rfl := Option.some.inj H
    go_enter Try.func15, Try.ntmps15
    go_wp2_with (first | ((with_reducible refine gate_callee (f := 19) rfl ?_); refine goesL_ (some 7) rfl rfl Try.func19 (by kernel_rfl) rfl #[.int .u32 a0, .int .u32 a1] rfl (by (try simp only [List.map_toArray, List.map_cons, List.map_nil]); first | done | rfl | (simp only [List.length_drop, List.length_take]; rfl)) ?_; (with_reducible refine (serial_less_uint32.calls a0 a1 true _ A3.out).mono ?_); rintro e w' ⟨rfl, ⟨nd, rfl⟩⟩; refine ⟨_, rfl, ?_⟩))
    go_ret
    exact ⟨by first | rfl | (rw [HRT.out]; done) | (rw [HRT.out]; rfl) | (simp only [HRT.out]; done) | (simp [HRT.out]; done) | (simp; done) | (simp [*]; done), by repeat (first | exact Drawn0.refl _ | apply Drawn0.step)⟩
  · replace c4 := Bool.eq_false_iff.mpr c4
    subst c4
    have H1 : (some a0) = some r := by rw [if_neg (show ¬ (false = true) by decide)] at H; exact H
    clear H
    have H := H1
    clear H1
    obtain rfl := Option.some.inj H
    go_enter Try.func15, Try.ntmps15
    go_wp2_with (first | ((with_reducible refine gate_callee (f := 19) rfl ?_); refine goesL_ (some 7) rfl rfl Try.func19 (by kernel_rfl) rfl #[.int .u32 a0, .int .u32 a1] rfl (by (try simp only [List.map_toArray, List.map_cons, List.map_nil]); first | done | rfl | (simp only [List.length_drop, List.length_take]; rfl)) ?_; (with_reducible refine (serial_less_uint32.calls a0 a1 false _ A3.out).mono ?_); rintro e w' ⟨rfl, ⟨nd, rfl⟩⟩; refine ⟨_, rfl, ?_⟩))
    go_ret
    exact ⟨by first | rfl | (rw [HRT.out]; done) | (rw [HRT.out]; rfl) | (simp only [HRT.out]; done) | (simp [HRT.out]; done) | (simp; done) | (simp [*]; done), by repeat (first | exact Drawn0.refl _ | apply Drawn0.step)⟩

/-! ### serial_Between: function 17 -/
def serial_Between.f (a0 : Int) (a1 : Int) (a2 : Int) : Option (Bool) := some (decide (((a1 - a0) % 4294967296) ≤ ((a2 - a0) % 4294967296)))
set_option maxHeartbeats 8000000 in
set_option maxRecDepth 100000 in
theorem serial_Between.calls (a0 : Int) (a1 : Int) (a2 : Int) (r : Bool) (w : World) (h : serial_Between.f a0 a1 a2 = some r) :
    Calls Try.prog 17 #[.int .u32 a0, .int .u32 a1, .int .u32 a2] w fun e w' => e = .returned (.bool r) ∧ Drawn0 w w' := by
  have H : (some (decide (((a1 - a0) % 4294967296) ≤ ((a2 - a0) % 4294967296)))) = some r := h
  clear h
  obtain rfl := Option.some.inj H
  go_enter Try.func17, Try.ntmps17
  go_wp2
  go_ret
  exact ⟨by first | rfl | (rw [HRT.out]; done) | (rw [HRT.out]; rfl) | (simp only [HRT.out]; done) | (simp [HRT.out]; done) | (simp; done) | (simp [*]; done), by repeat (first | exact Drawn0.refl _ | apply Drawn0.step)⟩

/-! ### bollardlaw02_awake: function 8 -/
def bollardlaw02_awake.f  : Option (Bool) := (serial_Less.f 4294967295 0).bind fun t104 => (if t104 = true then ((serial_Less.f 0 4294967295).bind fun t105 => (if t105 = true then (some false) else ((serial_Less16.f 65535 0).bind fun t106 => (if t106 = true then ((serial_Max.f 5 4294967290).bind fun t107 => (if t107 = 5 then ((serial_Between.f 4294967295 1 3).bind fun t108 => (if t108 = true then ((serial_Dist.f 4294967295 1).bind fun t109 => (some (t109 == 2))) else (some false))) else (some false))) else (some false))))) else (some false))
set_option maxHeartbeats 8000000 in
set_option maxRecDepth 100000 in
theorem bollardlaw02_awake.calls  (r : Bool) (w : World) (h : bollardlaw02_awake.f  = some r) :
    Calls Try.prog 8 #[] w fun e w' => e = .returned (.bool r) ∧ Drawn0 w w' := by
  have H : ((serial_Less.f 4294967295 0).bind fun t104 => (if t104 = true then ((serial_Less.f 0 4294967295).bind fun t105 => (if t105 = true then (some false) else ((serial_Less16.f 65535 0).bind fun t106 => (if t106 = true then ((serial_Max.f 5 4294967290).bind fun t107 => (if t107 = 5 then ((serial_Between.f 4294967295 1 3).bind fun t108 => (if t108 = true then ((serial_Dist.f 4294967295 1).bind fun t109 => (some (t109 == 2))) else (some false))) else (some false))) else (some false))))) else (some false))) = some r := h
  clear h
  replace H := Option.bind_eq_some_iff.mp H
  obtain ⟨t104, A10, H⟩ := H
  replace H : (if t104 = true then ((serial_Less.f 0 4294967295).bind fun t105 => (if t105 = true then (some false) else ((serial_Less16.f 65535 0).bind fun t106 => (if t106 = true then ((serial_Max.f 5 4294967290).bind fun t107 => (if t107 = 5 then ((serial_Between.f 4294967295 1 3).bind fun t108 => (if t108 = true then ((serial_Dist.f 4294967295 1).bind fun t109 => (some (t109 == 2))) else (some false))) else (some false))) else (some false))))) else (some false)) = some r := H
  have A1 := Aside0.mk A10
  clear A10
  by_cases c2 : t104 = true
  · subst c2
    have H1 : ((serial_Less.f 0 4294967295).bind fun t105 => (if t105 = true then (some false) else ((serial_Less16.f 65535 0).bind fun t106 => (if t106 = true then ((serial_Max.f 5 4294967290).bind fun t107 => (if t107 = 5 then ((serial_Between.f 4294967295 1 3).bind fun t108 => (if t108 = true then ((serial_Dist.f 4294967295 1).bind fun t109 => (some (t109 == 2))) else (some false))) else (some false))) else (some false))))) = some r := by rw [if_pos rfl] at H; exact H
    clear H
    have H := H1
    clear H1
    replace H := Option.bind_eq_some_iff.mp H
    obtain ⟨t105, A30, H⟩ := H
    replace H : (if t105 = true then (some false) else ((serial_Less16.f 65535 0).bind fun t106 => (if t106 = true then ((serial_Max.f 5 4294967290).bind fun t107 => (if t107 = 5 then ((serial_Between.f 4294967295 1 3).bind fun t108 => (if t108 = true then ((serial_Dist.f 4294967295 1).bind fun t109 => (some (t109 == 2))) else (some false))) else (some false))) else (some false)))) = some r := H
    have A3 := Aside0.mk A30
    clear A30
    by_cases c4 : t105 = true
    · subst c4
      have H1 : (some false) = some r := by rw [if_pos rfl] at H; exact H
      clear H
      have H := H1
      clear H1
      obtain rfl := Option.some.inj H
      go_enter Try.func8, Try.ntmps8
      go_wp2_with (first | ((with_reducible refine gate_callee (f := 9) rfl ?_); refine goesL_ (some 1) rfl rfl Try.func9 (by kernel_rfl) rfl #[.int .u32 4294967295, .int .u32 0] rfl (by (try simp only [List.map_toArray, List.map_cons, List.map_nil]); first | done | rfl | (simp only [List.length_drop, List.length_take]; rfl)) ?_; (with_reducible refine (serial_Less.calls 4294967295 0 true _ A1.out).mono ?_); rintro e w' ⟨rfl, ⟨nd, rfl⟩⟩; refine ⟨_, rfl, ?_⟩) | (go_at_call 9; (with_reducible refine (serial_Less.calls 0 4294967295 true _ A3.out).mono ?_); rintro e w' ⟨rfl, ⟨nd, rfl⟩⟩))
      go_ret
      exact ⟨by first | rfl | (rw [HRT.out]; done) | (rw [HRT.out]; rfl) | (simp only [HRT.out]; done) | (simp [HRT.out]; done) | (simp; done) | (simp [*]; done), by repeat (first | exact Drawn0.refl _ | apply Drawn0.step)⟩
    · replace c4 := Bool.eq_false_iff.mpr c4
      subst c4
      have H1 : ((serial_Less16.f 65535 0).bind fun t106 => (if t106 = true then ((serial_Max.f 5 4294967290).bind fun t107 => (if t107 = 5 then ((serial_Between.f 4294967295 1 3).bind fun t108 => (if t108 = true then ((serial_Dist.f 4294967295 1).bind fun t109 => (some (t109 == 2))) else (some false))) else (some false))) else (some false))) = some r := by rw [if_neg (show ¬ (false = true) by decide)] at H; exact H
      clear H
      have H := H1
      clear H1
      replace H := Option.bind_eq_some_iff.mp H
      obtain ⟨t106, A50, H⟩ := H
      replace H : (if t106 = true then ((serial_Max.f 5 4294967290).bind fun t107 => (if t107 = 5 then ((serial_Between.f 4294967295 1 3).bind fun t108 => (if t108 = true then ((serial_Dist.f 4294967295 1).bind fun t109 => (some (t109 == 2))) else (some false))) else (some false))) else (some false)) = some r := H
      have A5 := Aside0.mk A50
      clear A50
      by_cases c6 : t106 = true
      · subst c6
        have H1 : ((serial_Max.f 5 4294967290).bind fun t107 => (if t107 = 5 then ((serial_Between.f 4294967295 1 3).bind fun t108 => (if t108 = true then ((serial_Dist.f 4294967295 1).bind fun t109 => (some (t109 == 2))) else (some false))) else (some false))) = some r := by rw [if_pos rfl] at H; exact H
        clear H
        have H := H1
        clear H1
        replace H := Option.bind_eq_some_iff.mp H
        obtain ⟨t107, A70, H⟩ := H
        replace H : (if t107 = 5 then ((serial_Between.f 4294967295 1 3).bind fun t108 => (if t108 = true then ((serial_Dist.f 4294967295 1).bind fun t109 => (some (t109 == 2))) else (some false))) else (some false)) = some r := H
        have A7 := Aside0.mk A70
        clear A70
        by_cases c8 : t107 = 5
        · rw [if_pos c8] at H
          have c8b0 : (t107 == 5) = true := beq_iff_eq.mpr c8
          have c8b1 : (t107 != 5) = false := bne_eq_false_iff_eq.mpr c8
          clear c8
          replace H := Option.bind_eq_some_iff.mp H
          obtain ⟨t108, A90, H⟩ := H
          replace H : (if t108 = true then ((serial_Dist.f 4294967295 1).bind fun t109 => (some (t109 == 2))) else (some false)) = some r := H
          have A9 := Aside0.mk A90
          clear A90
          by_cases c10 : t108 = true
          · subst c10
            have H1 : ((serial_Dist.f 4294967295 1).bind fun t109 => (some (t109 == 2))) = some r := by rw [if_pos rfl] at H; exact H
            clear H
            have H := H1
            clear H1
            replace H := Option.bind_eq_some_iff.mp H
            obtain ⟨t109, A110, H⟩ := H
            replace H : (some (t109 == 2)) = some r := H
            have A11 := Aside0.mk A110
            clear A110
            obtain rfl := Option.some.inj H
            go_enter Try.func8, Try.ntmps8
            go_wp2_with (first | ((with_reducible refine gate_callee (f := 9) rfl ?_); refine goesL_ (some 1) rfl rfl Try.func9 (by kernel_rfl) rfl #[.int .u32 4294967295, .int .u32 0] rfl (by (try simp only [List.map_toArray, List.map_cons, List.map_nil]); first | done | rfl | (simp only [List.length_drop, List.length_take]; rfl)) ?_; (with_reducible refine (serial_Less.calls 4294967295 0 true _ A1.out).mono ?_); rintro e w' ⟨rfl, ⟨nd, rfl⟩⟩; refine ⟨_, rfl, ?_⟩) | (go_at_call 9; (with_reducible refine (serial_Less.calls 0 4294967295 false _ A3.out).mono ?_); rintro e w' ⟨rfl, ⟨nd, rfl⟩⟩) | (go_at_call 11; (with_reducible refine (serial_Less16.calls 65535 0 true _ A5.out).mono ?_); rintro e w' ⟨rfl, ⟨nd, rfl⟩⟩) | (go_at_call 15; (with_reducible refine (serial_Max.calls 5 4294967290 t107 _ A7.out).mono ?_); rintro e w' ⟨rfl, ⟨nd, rfl⟩⟩) | (go_at_call 17; (with_reducible refine (serial_Between.calls 4294967295 1 3 true _ A9.out).mono ?_); rintro e w' ⟨rfl, ⟨nd, rfl⟩⟩) | (go_at_call 13; (with_reducible refine (serial_Dist.calls 4294967295 1 t109 _ A11.out).mono ?_); rintro e w' ⟨rfl, ⟨nd, rfl⟩⟩))
            go_ret
            exact ⟨by first | rfl | (rw [HRT.out]; done) | (rw [HRT.out]; rfl) | (simp only [HRT.out]; done) | (simp [HRT.out]; done) | (simp; done) | (simp [*]; done), by repeat (first | exact Drawn0.refl _ | apply Drawn0.step)⟩
          · replace c10 := Bool.eq_false_iff.mpr c10
            subst c10
            have H1 : (some false) = some r := by rw [if_neg (show ¬ (false = true) by decide)] at H; exact H
            clear H
            have H := H1
            clear H1
            obtain rfl := Option.some.inj H
            go_enter Try.func8, Try.ntmps8
            go_wp2_with (first | ((with_reducible refine gate_callee (f := 9) rfl ?_); refine goesL_ (some 1) rfl rfl Try.func9 (by kernel_rfl) rfl #[.int .u32 4294967295, .int .u32 0] rfl (by (try simp only [List.map_toArray, List.map_cons, List.map_nil]); first | done | rfl | (simp only [List.length_drop, List.length_take]; rfl)) ?_; (with_reducible refine (serial_Less.calls 4294967295 0 true _ A1.out).mono ?_); rintro e w' ⟨rfl, ⟨nd, rfl⟩⟩; refine ⟨_, rfl, ?_⟩) | (go_at_call 9; (with_reducible refine (serial_Less.calls 0 4294967295 false _ A3.out).mono ?_); rintro e w' ⟨rfl, ⟨nd, rfl⟩⟩) | (go_at_call 11; (with_reducible refine (serial_Less16.calls 65535 0 true _ A5.out).mono ?_); rintro e w' ⟨rfl, ⟨nd, rfl⟩⟩) | (go_at_call 15; (with_reducible refine (serial_Max.calls 5 4294967290 t107 _ A7.out).mono ?_); rintro e w' ⟨rfl, ⟨nd, rfl⟩⟩) | (go_at_call 17; (with_reducible refine (serial_Between.calls 4294967295 1 3 false _ A9.out).mono ?_); rintro e w' ⟨rfl, ⟨nd, rfl⟩⟩))
            go_ret
            exact ⟨by first | rfl | (rw [HRT.out]; done) | (rw [HRT.out]; rfl) | (simp only [HRT.out]; done) | (simp [HRT.out]; done) | (simp; done) | (simp [*]; done), by repeat (first | exact Drawn0.refl _ | apply Drawn0.step)⟩
        · rw [if_neg c8] at H
          have c8b0 : (t107 == 5) = false := beq_eq_false_iff_ne.mpr c8
          have c8b1 : (t107 != 5) = true := bne_iff_ne.mpr c8
          obtain rfl := Option.some.inj H
          go_enter Try.func8, Try.ntmps8
          go_wp2_with (first | ((with_reducible refine gate_callee (f := 9) rfl ?_); refine goesL_ (some 1) rfl rfl Try.func9 (by kernel_rfl) rfl #[.int .u32 4294967295, .int .u32 0] rfl (by (try simp only [List.map_toArray, List.map_cons, List.map_nil]); first | done | rfl | (simp only [List.length_drop, List.length_take]; rfl)) ?_; (with_reducible refine (serial_Less.calls 4294967295 0 true _ A1.out).mono ?_); rintro e w' ⟨rfl, ⟨nd, rfl⟩⟩; refine ⟨_, rfl, ?_⟩) | (go_at_call 9; (with_reducible refine (serial_Less.calls 0 4294967295 false _ A3.out).mono ?_); rintro e w' ⟨rfl, ⟨nd, rfl⟩⟩) | (go_at_call 11; (with_reducible refine (serial_Less16.calls 65535 0 true _ A5.out).mono ?_); rintro e w' ⟨rfl, ⟨nd, rfl⟩⟩) | (go_at_call 15; (with_reducible refine (serial_Max.calls 5 4294967290 t107 _ A7.out).mono ?_); rintro e w' ⟨rfl, ⟨nd, rfl⟩⟩))
          go_ret
          exact ⟨by first | rfl | (rw [HRT.out]; done) | (rw [HRT.out]; rfl) | (simp only [HRT.out]; done) | (simp [HRT.out]; done) | (simp; done) | (simp [*]; done), by repeat (first | exact Drawn0.refl _ | apply Drawn0.step)⟩
      · replace c6 := Bool.eq_false_iff.mpr c6
        subst c6
        have H1 : (some false) = some r := by rw [if_neg (show ¬ (false = true) by decide)] at H; exact H
        clear H
        have H := H1
        clear H1
        obtain rfl := Option.some.inj H
        go_enter Try.func8, Try.ntmps8
        go_wp2_with (first | ((with_reducible refine gate_callee (f := 9) rfl ?_); refine goesL_ (some 1) rfl rfl Try.func9 (by kernel_rfl) rfl #[.int .u32 4294967295, .int .u32 0] rfl (by (try simp only [List.map_toArray, List.map_cons, List.map_nil]); first | done | rfl | (simp only [List.length_drop, List.length_take]; rfl)) ?_; (with_reducible refine (serial_Less.calls 4294967295 0 true _ A1.out).mono ?_); rintro e w' ⟨rfl, ⟨nd, rfl⟩⟩; refine ⟨_, rfl, ?_⟩) | (go_at_call 9; (with_reducible refine (serial_Less.calls 0 4294967295 false _ A3.out).mono ?_); rintro e w' ⟨rfl, ⟨nd, rfl⟩⟩) | (go_at_call 11; (with_reducible refine (serial_Less16.calls 65535 0 false _ A5.out).mono ?_); rintro e w' ⟨rfl, ⟨nd, rfl⟩⟩))
        go_ret
        exact ⟨by first | rfl | (rw [HRT.out]; done) | (rw [HRT.out]; rfl) | (simp only [HRT.out]; done) | (simp [HRT.out]; done) | (simp; done) | (simp [*]; done), by repeat (first | exact Drawn0.refl _ | apply Drawn0.step)⟩
  · replace c2 := Bool.eq_false_iff.mpr c2
    subst c2
    have H1 : (some false) = some r := by rw [if_neg (show ¬ (false = true) by decide)] at H; exact H
    clear H
    have H := H1
    clear H1
    obtain rfl := Option.some.inj H
    go_enter Try.func8, Try.ntmps8
    go_wp2_with (first | ((with_reducible refine gate_callee (f := 9) rfl ?_); refine goesL_ (some 1) rfl rfl Try.func9 (by kernel_rfl) rfl #[.int .u32 4294967295, .int .u32 0] rfl (by (try simp only [List.map_toArray, List.map_cons, List.map_nil]); first | done | rfl | (simp only [List.length_drop, List.length_take]; rfl)) ?_; (with_reducible refine (serial_Less.calls 4294967295 0 false _ A1.out).mono ?_); rintro e w' ⟨rfl, ⟨nd, rfl⟩⟩; refine ⟨_, rfl, ?_⟩))
    go_ret
    exact ⟨by first | rfl | (rw [HRT.out]; done) | (rw [HRT.out]; rfl) | (simp only [HRT.out]; done) | (simp [HRT.out]; done) | (simp; done) | (simp [*]; done), by repeat (first | exact Drawn0.refl _ | apply Drawn0.step)⟩

/-! ### bollardlaw02_SerialMoves: function 5 -/
def bollardlaw02_SerialMoves.f (a0 : Int) (a1 : Int) (a2 : Int) (a3 : Int) : Option (Bool) := (bollardlaw02_awake.f).bind fun t110 => (if t110 = true then ((serial_Less.f a0 a2).bind fun t111 => ((serial_Less.f ((a0 + a3) % 4294967296) ((a2 + a3) % 4294967296)).bind fun t112 => (if (t111 == t112) = true then ((serial_Dist.f a0 a2).bind fun t113 => ((serial_Dist.f ((a0 + a3) % 4294967296) ((a2 + a3) % 4294967296)).bind fun t114 => (if t113 = t114 then ((serial_Max.f a0 a2).bind fun t115 => ((serial_Max.f ((a0 + a3) % 4294967296) ((a2 + a3) % 4294967296)).bind fun t116 => (if ((t115 + a3) % 4294967296) = t116 then ((serial_Between.f a0 a1 a2).bind fun t117 => ((serial_Between.f ((a0 + a3) % 4294967296) ((a1 + a3) % 4294967296) ((a2 + a3) % 4294967296)).bind fun t118 => (if (t117 == t118) = true then ((serial_Less16.f (IntKind.u16.wrap (a0)) (IntKind.u16.wrap (a2))).bind fun t119 => ((serial_Less16.f (IntKind.u16.wrap ((a0 + a3) % 4294967296)) (IntKind.u16.wrap ((a2 + a3) % 4294967296))).bind fun t120 => (some (t119 == t120)))) else (some false)))) else (some false)))) else (some false)))) else (some false)))) else (some false))
set_option maxHeartbeats 8000000 in
set_option maxRecDepth 100000 in
theorem bollardlaw02_SerialMoves.calls (a0 : Int) (a1 : Int) (a2 : Int) (a3 : Int) (w : World) (h : bollardlaw02_SerialMoves.f a0 a1 a2 a3 = some true) :
    Calls Try.prog 5 #[.int .u32 a0, .int .u32 a1, .int .u32 a2, .int .u32 a3] w fun e w' => e = .returned (.bool true) ∧ Drawn0 w w' := by
  have H : ((bollardlaw02_awake.f).bind fun t110 => (if t110 = true then ((serial_Less.f a0 a2).bind fun t111 => ((serial_Less.f ((a0 + a3) % 4294967296) ((a2 + a3) % 4294967296)).bind fun t112 => (if (t111 == t112) = true then ((serial_Dist.f a0 a2).bind fun t113 => ((serial_Dist.f ((a0 + a3) % 4294967296) ((a2 + a3) % 4294967296)).bind fun t114 => (if t113 = t114 then ((serial_Max.f a0 a2).bind fun t115 => ((serial_Max.f ((a0 + a3) % 4294967296) ((a2 + a3) % 4294967296)).bind fun t116 => (if ((t115 + a3) % 4294967296) = t116 then ((serial_Between.f a0 a1 a2).bind fun t117 => ((serial_Between.f ((a0 + a3) % 4294967296) ((a1 + a3) % 4294967296) ((a2 + a3) % 4294967296)).bind fun t118 => (if (t117 == t118) = true then ((serial_Less16.f (IntKind.u16.wrap (a0)) (IntKind.u16.wrap (a2))).bind fun t119 => ((serial_Less16.f (IntKind.u16.wrap ((a0 + a3) % 4294967296)) (IntKind.u16.wrap ((a2 + a3) % 4294967296))).bind fun t120 => (some (t119 == t120)))) else (some false)))) else (some false)))) else (some false)))) else (some false)))) else (some false))) = some true := h
  clear h
  replace H := Option.bind_eq_some_iff.mp H
  obtain ⟨t110, A50, H⟩ := H
  replace H : (if t110 = true then ((serial_Less.f a0 a2).bind fun t111 => ((serial_Less.f ((a0 + a3) % 4294967296) ((a2 + a3) % 4294967296)).bind fun t112 => (if (t111 == t112) = true then ((serial_Dist.f a0 a2).bind fun t113 => ((serial_Dist.f ((a0 + a3) % 4294967296) ((a2 + a3) % 4294967296)).bind fun t114 => (if t113 = t114 then ((serial_Max.f a0 a2).bind fun t115 => ((serial_Max.f ((a0 + a3) % 4294967296) ((a2 + a3) % 4294967296)).bind fun t116 => (if ((t115 + a3) % 4294967296) = t116 then ((serial_Between.f a0 a1 a2).bind fun t117 => ((serial_Between.f ((a0 + a3) % 4294967296) ((a1 + a3) % 4294967296) ((a2 + a3) % 4294967296)).bind fun t118 => (if (t117 == t118) = true then ((serial_Less16.f (IntKind.u16.wrap (a0)) (IntKind.u16.wrap (a2))).bind fun t119 => ((serial_Less16.f (IntKind.u16.wrap ((a0 + a3) % 4294967296)) (IntKind.u16.wrap ((a2 + a3) % 4294967296))).bind fun t120 => (some (t119 == t120)))) else (some false)))) else (some false)))) else (some false)))) else (some false)))) else (some false)) = some true := H
  have A5 := Aside0.mk A50
  clear A50
  by_cases c6 : t110 = true
  · subst c6
    have H1 : ((serial_Less.f a0 a2).bind fun t111 => ((serial_Less.f ((a0 + a3) % 4294967296) ((a2 + a3) % 4294967296)).bind fun t112 => (if (t111 == t112) = true then ((serial_Dist.f a0 a2).bind fun t113 => ((serial_Dist.f ((a0 + a3) % 4294967296) ((a2 + a3) % 4294967296)).bind fun t114 => (if t113 = t114 then ((serial_Max.f a0 a2).bind fun t115 => ((serial_Max.f ((a0 + a3) % 4294967296) ((a2 + a3) % 4294967296)).bind fun t116 => (if ((t115 + a3) % 4294967296) = t116 then ((serial_Between.f a0 a1 a2).bind fun t117 => ((serial_Between.f ((a0 + a3) % 4294967296) ((a1 + a3) % 4294967296) ((a2 + a3) % 4294967296)).bind fun t118 => (if (t117 == t118) = true then ((serial_Less16.f (IntKind.u16.wrap (a0)) (IntKind.u16.wrap (a2))).bind fun t119 => ((serial_Less16.f (IntKind.u16.wrap ((a0 + a3) % 4294967296)) (IntKind.u16.wrap ((a2 + a3) % 4294967296))).bind fun t120 => (some (t119 == t120)))) else (some false)))) else (some false)))) else (some false)))) else (some false)))) = some true := by rw [if_pos rfl] at H; exact H
    clear H
    have H := H1
    clear H1
    replace H := Option.bind_eq_some_iff.mp H
    obtain ⟨t111, A70, H⟩ := H
    replace H : ((serial_Less.f ((a0 + a3) % 4294967296) ((a2 + a3) % 4294967296)).bind fun t112 => (if (t111 == t112) = true then ((serial_Dist.f a0 a2).bind fun t113 => ((serial_Dist.f ((a0 + a3) % 4294967296) ((a2 + a3) % 4294967296)).bind fun t114 => (if t113 = t114 then ((serial_Max.f a0 a2).bind fun t115 => ((serial_Max.f ((a0 + a3) % 4294967296) ((a2 + a3) % 4294967296)).bind fun t116 => (if ((t115 + a3) % 4294967296) = t116 then ((serial_Between.f a0 a1 a2).bind fun t117 => ((serial_Between.f ((a0 + a3) % 4294967296) ((a1 + a3) % 4294967296) ((a2 + a3) % 4294967296)).bind fun t118 => (if (t117 == t118) = true then ((serial_Less16.f (IntKind.u16.wrap (a0)) (IntKind.u16.wrap (a2))).bind fun t119 => ((serial_Less16.f (IntKind.u16.wrap ((a0 + a3) % 4294967296)) (IntKind.u16.wrap ((a2 + a3) % 4294967296))).bind fun t120 => (some (t119 == t120)))) else (some false)))) else (some false)))) else (some false)))) else (some false))) = some true := H
    have A7 := Aside0.mk A70
    clear A70
    replace H := Option.bind_eq_some_iff.mp H
    obtain ⟨t112, A80, H⟩ := H
    replace H : (if (t111 == t112) = true then ((serial_Dist.f a0 a2).bind fun t113 => ((serial_Dist.f ((a0 + a3) % 4294967296) ((a2 + a3) % 4294967296)).bind fun t114 => (if t113 = t114 then ((serial_Max.f a0 a2).bind fun t115 => ((serial_Max.f ((a0 + a3) % 4294967296) ((a2 + a3) % 4294967296)).bind fun t116 => (if ((t115 + a3) % 4294967296) = t116 then ((serial_Between.f a0 a1 a2).bind fun t117 => ((serial_Between.f ((a0 + a3) % 4294967296) ((a1 + a3) % 4294967296) ((a2 + a3) % 4294967296)).bind fun t118 => (if (t117 == t118) = true then ((serial_Less16.f (IntKind.u16.wrap (a0)) (IntKind.u16.wrap (a2))).bind fun t119 => ((serial_Less16.f (IntKind.u16.wrap ((a0 + a3) % 4294967296)) (IntKind.u16.wrap ((a2 + a3) % 4294967296))).bind fun t120 => (some (t119 == t120)))) else (some false)))) else (some false)))) else (some false)))) else (some false)) = some true := H
    have A8 := Aside0.mk A80
    clear A80
    by_cases c9 : (t111 == t112) = true
    · rw [if_pos c9] at H
      have c9b0 : (t111 == t112) = true := c9
      (try (have c9b1 : decide (t111 = t112) = true := by simpa using c9))
      (try (have c9b2 : (t111 == t112) = true := by simpa using c9))
      clear c9
      replace H := Option.bind_eq_some_iff.mp H
      obtain ⟨t113, A100, H⟩ := H
      replace H : ((serial_Dist.f ((a0 + a3) % 4294967296) ((a2 + a3) % 4294967296)).bind fun t114 => (if t113 = t114 then ((serial_Max.f a0 a2).bind fun t115 => ((serial_Max.f ((a0 + a3) % 4294967296) ((a2 + a3) % 4294967296)).bind fun t116 => (if ((t115 + a3) % 4294967296) = t116 then ((serial_Between.f a0 a1 a2).bind fun t117 => ((serial_Between.f ((a0 + a3) % 4294967296) ((a1 + a3) % 4294967296) ((a2 + a3) % 4294967296)).bind fun t118 => (if (t117 == t118) = true then ((serial_Less16.f (IntKind.u16.wrap (a0)) (IntKind.u16.wrap (a2))).bind fun t119 => ((serial_Less16.f (IntKind.u16.wrap ((a0 + a3) % 4294967296)) (IntKind.u16.wrap ((a2 + a3) % 4294967296))).bind fun t120 => (some (t119 == t120)))) else (some false)))) else (some false)))) else (some false))) = some true := H
      have A10 := Aside0.mk A100
      clear A100
      replace H := Option.bind_eq_some_iff.mp H
      obtain ⟨t114, A110, H⟩ := H
      replace H : (if t113 = t114 then ((serial_Max.f a0 a2).bind fun t115 => ((serial_Max.f ((a0 + a3) % 4294967296) ((a2 + a3) % 4294967296)).bind fun t116 => (if ((t115 + a3) % 4294967296) = t116 then ((serial_Between.f a0 a1 a2).bind fun t117 => ((serial_Between.f ((a0 + a3) % 4294967296) ((a1 + a3) % 4294967296) ((a2 + a3) % 4294967296)).bind fun t118 => (if (t117 == t118) = true then ((serial_Less16.f (IntKind.u16.wrap (a0)) (IntKind.u16.wrap (a2))).bind fun t119 => ((serial_Less16.f (IntKind.u16.wrap ((a0 + a3) % 4294967296)) (IntKind.u16.wrap ((a2 + a3) % 4294967296))).bind fun t120 => (some (t119 == t120)))) else (some false)))) else (some false)))) else (some false)) = some true := H
      have A11 := Aside0.mk A110
      clear A110
      by_cases c12 : t113 = t114
      · rw [if_pos c12] at H
        have c12b0 : (t113 == t114) = true := beq_iff_eq.mpr c12
        have c12b1 : (t113 != t114) = false := bne_eq_false_iff_eq.mpr c12
        clear c12
        replace H := Option.bind_eq_some_iff.mp H
        obtain ⟨t115, A130, H⟩ := H
        replace H : ((serial_Max.f ((a0 + a3) % 4294967296) ((a2 + a3) % 4294967296)).bind fun t116 => (if ((t115 + a3) % 4294967296) = t116 then ((serial_Between.f a0 a1 a2).bind fun t117 => ((serial_Between.f ((a0 + a3) % 4294967296) ((a1 + a3) % 4294967296) ((a2 + a3) % 4294967296)).bind fun t118 => (if (t117 == t118) = true then ((serial_Less16.f (IntKind.u16.wrap (a0)) (IntKind.u16.wrap (a2))).bind fun t119 => ((serial_Less16.f (IntKind.u16.wrap ((a0 + a3) % 4294967296)) (IntKind.u16.wrap ((a2 + a3) % 4294967296))).bind fun t120 => (some (t119 == t120)))) else (some false)))) else (some false))) = some true := H
        have A13 := Aside0.mk A130
        clear A130
        replace H := Option.bind_eq_some_iff.mp H
        obtain ⟨t116, A140, H⟩ := H
        replace H : (if ((t115 + a3) % 4294967296) = t116 then ((serial_Between.f a0 a1 a2).bind fun t117 => ((serial_Between.f ((a0 + a3) % 4294967296) ((a1 + a3) % 4294967296) ((a2 + a3) % 4294967296)).bind fun t118 => (if (t117 == t118) = true then ((serial_Less16.f (IntKind.u16.wrap (a0)) (IntKind.u16.wrap (a2))).bind fun t119 => ((serial_Less16.f (IntKind.u16.wrap ((a0 + a3) % 4294967296)) (IntKind.u16.wrap ((a2 + a3) % 4294967296))).bind fun t120 => (some (t119 == t120)))) else (some false)))) else (some false)) = some true := H
        have A14 := Aside0.mk A140
        clear A140
        by_cases c15 : ((t115 + a3) % 4294967296) = t116
        · rw [if_pos c15] at H
          have c15b0 : (((t115 + a3) % 4294967296) == t116) = true := beq_iff_eq.mpr c15
          have c15b1 : (((t115 + a3) % 4294967296) != t116) = false := bne_eq_false_iff_eq.mpr c15
          clear c15
          replace H := Option.bind_eq_some_iff.mp H
          obtain ⟨t117, A160, H⟩ := H
          replace H : ((serial_Between.f ((a0 + a3) % 4294967296) ((a1 + a3) % 4294967296) ((a2 + a3) % 4294967296)).bind fun t118 => (if (t117 == t118) = true then ((serial_Less16.f (IntKind.u16.wrap (a0)) (IntKind.u16.wrap (a2))).bind fun t119 => ((serial_Less16.f (IntKind.u16.wrap ((a0 + a3) % 4294967296)) (IntKind.u16.wrap ((a2 + a3) % 4294967296))).bind fun t120 => (some (t119 == t120)))) else (some false))) = some true := H
          have A16 := Aside0.mk A160
          clear A160
          replace H := Option.bind_eq_some_iff.mp H
          obtain ⟨t118, A170, H⟩ := H
          replace H : (if (t117 == t118) = true then ((serial_Less16.f (IntKind.u16.wrap (a0)) (IntKind.u16.wrap (a2))).bind fun t119 => ((serial_Less16.f (IntKind.u16.wrap ((a0 + a3) % 4294967296)) (IntKind.u16.wrap ((a2 + a3) % 4294967296))).bind fun t120 => (some (t119 == t120)))) else (some false)) = some true := H
          have A17 := Aside0.mk A170
          clear A170
          by_cases c18 : (t117 == t118) = true
          · rw [if_pos c18] at H
            have c18b0 : (t117 == t118) = true := c18
            (try (have c18b1 : decide (t117 = t118) = true := by simpa using c18))
            (try (have c18b2 : (t117 == t118) = true := by simpa using c18))
            clear c18
            replace H := Option.bind_eq_some_iff.mp H
            obtain ⟨t119, A190, H⟩ := H
            replace H : ((serial_Less16.f (IntKind.u16.wrap ((a0 + a3) % 4294967296)) (IntKind.u16.wrap ((a2 + a3) % 4294967296))).bind fun t120 => (some (t119 == t120))) = some true := H
            have A19 := Aside0.mk A190
            clear A190
            replace H := Option.bind_eq_some_iff.mp H
            obtain ⟨t120, A200, H⟩ := H
            replace H : (some (t119 == t120)) = some true := H
            have A20 := Aside0.mk A200
            clear A200
            have HRT := Aside0.mk (Option.some.inj H)
            clear H
            go_enter Try.func5, Try.ntmps5
            go_wp2_with (first | ((with_reducible refine gate_callee (f := 8) rfl ?_); refine goesL_ (some 10) rfl rfl Try.func8 (by kernel_rfl) rfl #[] rfl (by (try simp only [List.map_toArray, List.map_cons, List.map_nil]); first | done | rfl | (simp only [List.length_drop, List.length_take]; rfl)) ?_; (with_reducible refine (bollardlaw02_awake.calls  true _ A5.out).mono ?_); rintro e w' ⟨rfl, ⟨nd, rfl⟩⟩; refine ⟨_, rfl, ?_⟩) | (go_at_call 9; (with_reducible refine (serial_Less.calls a0 a2 t111 _ A7.out).mono ?_); rintro e w' ⟨rfl, ⟨nd, rfl⟩⟩) | (go_at_call 9; (with_reducible refine (serial_Less.calls ((a0 + a3) % 4294967296) ((a2 + a3) % 4294967296) t112 _ A8.out).mono ?_); rintro e w' ⟨rfl, ⟨nd, rfl⟩⟩) | (go_at_call 13; (with_reducible refine (serial_Dist.calls a0 a2 t113 _ A10.out).mono ?_); rintro e w' ⟨rfl, ⟨nd, rfl⟩⟩) | (go_at_call 13; (with_reducible refine (serial_Dist.calls ((a0 + a3) % 4294967296) ((a2 + a3) % 4294967296) t114 _ A11.out).mono ?_); rintro e w' ⟨rfl, ⟨nd, rfl⟩⟩) | (go_at_call 15; (with_reducible refine (serial_Max.calls a0 a2 t115 _ A13.out).mono ?_); rintro e w' ⟨rfl, ⟨nd, rfl⟩⟩) | (go_at_call 15; (with_reducible refine (serial_Max.calls ((a0 + a3) % 4294967296) ((a2 + a3) % 4294967296) t116 _ A14.out).mono ?_); rintro e w' ⟨rfl, ⟨nd, rfl⟩⟩) | (go_at_call 17; (with_reducible refine (serial_Between.calls a0 a1 a2 t117 _ A16.out).mono ?_); rintro e w' ⟨rfl, ⟨nd, rfl⟩⟩) | (go_at_call 17; (with_reducible refine (serial_Between.calls ((a0 + a3) % 4294967296) ((a1 + a3) % 4294967296) ((a2 + a3) % 4294967296) t118 _ A17.out).mono ?_); rintro e w' ⟨rfl, ⟨nd, rfl⟩⟩) | (go_at_call 11; (with_reducible refine (serial_Less16.calls (IntKind.u16.wrap (a0)) (IntKind.u16.wrap (a2)) t119 _ A19.out).mono ?_); rintro e w' ⟨rfl, ⟨nd, rfl⟩⟩) | (go_at_call 11; (with_reducible refine (serial_Less16.calls (IntKind.u16.wrap ((a0 + a3) % 4294967296)) (IntKind.u16.wrap ((a2 + a3) % 4294967296)) t120 _ A20.out).mono ?_); rintro e w' ⟨rfl, ⟨nd, rfl⟩⟩))
            (try (any_goals (exfalso; simp_all; done)))
            go_ret
            exact ⟨by first | rfl | (rw [HRT.out]; done) | (rw [HRT.out]; rfl) | (simp only [HRT.out]; done) | (simp [HRT.out]; done) | (simp; done) | (simp [*]; done), by repeat (first | exact Drawn0.refl _ | apply Drawn0.step)⟩
          · rw [if_neg c18] at H
            have c18b0 : (t117 == t118) = false := by simpa using c18
            (try (have c18b1 : decide (t117 = t118) = false := by simpa using c18))
            (try (have c18b2 : (t117 == t118) = false := by simpa using c18))
            (try (have c18b3 : ¬ (t117 = t118) := by simpa using c18))
            clear c18
            exact absurd H (by decide)
        · rw [if_neg c15] at H
          have c15b0 : (((t115 + a3) % 4294967296) == t116) = false := beq_eq_false_iff_ne.mpr c15
          have c15b1 : (((t115 + a3) % 4294967296) != t116) = true := bne_iff_ne.mpr c15
          exact absurd H (by decide)
      · rw [if_neg c12] at H
        have c12b0 : (t113 == t114) = false := beq_eq_false_iff_ne.mpr c12
        have c12b1 : (t113 != t114) = true := bne_iff_ne.mpr c12
        exact absurd H (by decide)
    · rw [if_neg c9] at H
      have c9b0 : (t111 == t112) = false := by simpa using c9
      (try (have c9b1 : decide (t111 = t112) = false := by simpa using c9))
      (try (have c9b2 : (t111 == t112) = false := by simpa using c9))
      (try (have c9b3 : ¬ (t111 = t112) := by simpa using c9))
      clear c9
      exact absurd H (by decide)
  · replace c6 := Bool.eq_false_iff.mpr c6
    subst c6
    have H1 : (some false) = some true := by rw [if_neg (show ¬ (false = true) by decide)] at H; exact H
    clear H
    have H := H1
    clear H1
    exact absurd H (by decide)

/-- THE ONE PURE STATEMENT of bollardlaw02_SerialMoves: yours. -/
def bollardlaw02_SerialMoves.Pure : Prop := ∀ (a0 : Int) (a1 : Int) (a2 : Int) (a3 : Int), (Lit.int .u32 a0).wf = true → (Lit.int .u32 a1).wf = true → (Lit.int .u32 a2).wf = true → (Lit.int .u32 a3).wf = true → bollardlaw02_SerialMoves.f a0 a1 a2 a3 = some true
theorem bollardlaw02_SerialMoves.walk (P : bollardlaw02_SerialMoves.Pure) (a0 : Int) (a1 : Int) (a2 : Int) (a3 : Int) (w : World) (w0 : (Lit.int .u32 a0).wf = true) (w1 : (Lit.int .u32 a1).wf = true) (w2 : (Lit.int .u32 a2).wf = true) (w3 : (Lit.int .u32 a3).wf = true) :
    Calls Try.prog 5 #[.int .u32 a0, .int .u32 a1, .int .u32 a2, .int .u32 a3] w fun e w' => e = .returned (.bool true) ∧ Below w.heap.size w w' := by
  have h := P a0 a1 a2 a3 w0 w1 w2 w3
  refine (bollardlaw02_SerialMoves.calls a0 a1 a2 a3 w h).mono ?_
  rintro e w' ⟨rfl, hd⟩
  exact ⟨rfl, hd.below⟩

end Go.Proofs.Ytbiolmpoooajpaa.PSerialMoves
