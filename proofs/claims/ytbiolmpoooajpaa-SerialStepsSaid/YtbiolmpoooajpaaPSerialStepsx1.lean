-- Written by a program of this session (wip/mprint.py) after the manner of the kit's print.
import Derived.Test.YtbiolmpoooajpaaPSerialStepsx0
namespace Go.Proofs.Ytbiolmpoooajpaa.PSerialSteps
open Go.RowKit Go.Proofs.YtbiolmpoooajpaaW.PrintWords Go.Proofs.YtbiolmpoooajpaaW.PrintLast Go.Proofs.YtbiolmpoooajpaaW.PrintMore
attribute [local go_sem] max2_int min2_int max_two min_two max_three min_three max_four min_four   -- for this text's walks alone
set_option linter.unusedVariables false
set_option linter.unusedSimpArgs false

/-! ### serial_less_uint32: function 19 -/
def serial_less_uint32.f (a0 : Int) (a1 : Int) : Option (Bool) := if ((a1 - a0) % 4294967296) = 0 then (some false) else (some (decide (((a1 - a0) % 4294967296) ≤ ((Go.bits .xor .u32 4294967295 0) / 2))))
set_option maxHeartbeats 8000000 in
set_option maxRecDepth 100000 in
theorem serial_less_uint32.calls (a0 : Int) (a1 : Int) (r : Bool) (w : World) (h : serial_less_uint32.f a0 a1 = some r) :
    Calls Try.prog 19 #[.int .u32 a0, .int .u32 a1] w fun e w' => e = .returned (.bool r) ∧ Drawn0 w w' := by
  have H : (if ((a1 - a0) % 4294967296) = 0 then (some false) else (some (decide (((a1 - a0) % 4294967296) ≤ ((Go.bits .xor .u32 4294967295 0) / 2))))) = some r := h
  clear h
  by_cases c3 : ((a1 - a0) % 4294967296) = 0
  · rw [if_pos c3] at H
    have c3b0 : (((a1 - a0) % 4294967296) == 0) = true := beq_iff_eq.mpr c3
    have c3b1 : (((a1 - a0) % 4294967296) != 0) = false := bne_eq_false_iff_eq.mpr c3
    clear c3
    obtain rfl := Option.some.inj H
    go_enter Try.func19, Try.ntmps19
    go_wp2
    go_ret
    exact ⟨by first | rfl | (rw [HRT.out]; done) | (rw [HRT.out]; rfl) | (simp only [HRT.out]; done) | (simp [HRT.out]; done) | (simp; done) | (simp [*]; done), by repeat (first | exact Drawn0.refl _ | apply Drawn0.step)⟩
  · rw [if_neg c3] at H
    have c3b0 : (((a1 - a0) % 4294967296) == 0) = false := beq_eq_false_iff_ne.mpr c3
    have c3b1 : (((a1 - a0) % 4294967296) != 0) = true := bne_iff_ne.mpr c3
    obtain rfl := Option.some.inj H
    go_enter Try.func19, Try.ntmps19
    go_wp2
    go_ret
    exact ⟨by first | rfl | (rw [HRT.out]; done) | (rw [HRT.out]; rfl) | (simp only [HRT.out]; done) | (simp [HRT.out]; done) | (simp; done) | (simp [*]; done), by repeat (first | exact Drawn0.refl _ | apply Drawn0.step)⟩

/-! ### serial_Less: function 9 -/
def serial_Less.f (a0 : Int) (a1 : Int) : Option (Bool) := (serial_less_uint32.f a0 a1).bind fun t101 => (some t101)
set_option maxHeartbeats 8000000 in
set_option maxRecDepth 100000 in
theorem serial_Less.calls (a0 : Int) (a1 : Int) (r : Bool) (w : World) (h : serial_Less.f a0 a1 = some r) :
    Calls Try.prog 9 #[.int .u32 a0, .int .u32 a1] w fun e w' => e = .returned (.bool r) ∧ Drawn0 w w' := by
  have H : ((serial_less_uint32.f a0 a1).bind fun t101 => (some t101)) = some r := h
  clear h
  replace H := Option.bind_eq_some_iff.mp H
  obtain ⟨t101, A30, H⟩ := H
  replace H : (some t101) = some r := H
  have A3 := Aside0.mk A30
  clear A30
  obtain rfl := Option.some.inj H
  go_enter Try.func9, Try.ntmps9
  go_wp2_with (first | ((with_reducible refine gate_callee (f := 19) rfl ?_); refine goesL_ (some 7) rfl rfl Try.func19 (by kernel_rfl) rfl #[.int .u32 a0, .int .u32 a1] rfl (by (try simp only [List.map_toArray, List.map_cons, List.map_nil]); first | done | rfl | (simp only [List.length_drop, List.length_take]; rfl)) ?_; (with_reducible refine (serial_less_uint32.calls a0 a1 t101 _ A3.out).mono ?_); rintro e w' ⟨rfl, ⟨nd, rfl⟩⟩; refine ⟨_, rfl, ?_⟩))
  go_ret
  exact ⟨by first | rfl | (rw [HRT.out]; done) | (rw [HRT.out]; rfl) | (simp only [HRT.out]; done) | (simp [HRT.out]; done) | (simp; done) | (simp [*]; done), by repeat (first | exact Drawn0.refl _ | apply Drawn0.step)⟩

/-! ### serial_less_uint16: function 21 -/
def serial_less_uint16.f (a0 : Int) (a1 : Int) : Option (Bool) := if (IntKind.u16.wrap (a1 - a0)) = 0 then (some false) else (some (decide ((IntKind.u16.wrap (a1 - a0)) ≤ ((Go.bits .xor .u16 65535 0) / 2))))
set_option maxHeartbeats 8000000 in
set_option maxRecDepth 100000 in
theorem serial_less_uint16.calls (a0 : Int) (a1 : Int) (r : Bool) (w : World) (h : serial_less_uint16.f a0 a1 = some r) :
    Calls Try.prog 21 #[.int .u16 a0, .int .u16 a1] w fun e w' => e = .returned (.bool r) ∧ Drawn0 w w' := by
  have H : (if (IntKind.u16.wrap (a1 - a0)) = 0 then (some false) else (some (decide ((IntKind.u16.wrap (a1 - a0)) ≤ ((Go.bits .xor .u16 65535 0) / 2))))) = some r := h
  clear h
  by_cases c3 : (IntKind.u16.wrap (a1 - a0)) = 0
  · rw [if_pos c3] at H
    have c3b0 : ((IntKind.u16.wrap (a1 - a0)) == 0) = true := beq_iff_eq.mpr c3
    have c3b1 : ((IntKind.u16.wrap (a1 - a0)) != 0) = false := bne_eq_false_iff_eq.mpr c3
    clear c3
    obtain rfl := Option.some.inj H
    go_enter Try.func21, Try.ntmps21
    go_wp2
    go_ret
    exact ⟨by first | rfl | (rw [HRT.out]; done) | (rw [HRT.out]; rfl) | (simp only [HRT.out]; done) | (simp [HRT.out]; done) | (simp; done) | (simp [*]; done), by repeat (first | exact Drawn0.refl _ | apply Drawn0.step)⟩
  · rw [if_neg c3] at H
    have c3b0 : ((IntKind.u16.wrap (a1 - a0)) == 0) = false := beq_eq_false_iff_ne.mpr c3
    have c3b1 : ((IntKind.u16.wrap (a1 - a0)) != 0) = true := bne_iff_ne.mpr c3
    obtain rfl := Option.some.inj H
    go_enter Try.func21, Try.ntmps21
    go_wp2
    go_ret
    exact ⟨by first | rfl | (rw [HRT.out]; done) | (rw [HRT.out]; rfl) | (simp only [HRT.out]; done) | (simp [HRT.out]; done) | (simp; done) | (simp [*]; done), by repeat (first | exact Drawn0.refl _ | apply Drawn0.step)⟩

/-! ### serial_Less16: function 11 -/
def serial_Less16.f (a0 : Int) (a1 : Int) : Option (Bool) := (serial_less_uint16.f a0 a1).bind fun t102 => (some t102)
set_option maxHeartbeats 8000000 in
set_option maxRecDepth 100000 in
theorem serial_Less16.calls (a0 : Int) (a1 : Int) (r : Bool) (w : World) (h : serial_Less16.f a0 a1 = some r) :
    Calls Try.prog 11 #[.int .u16 a0, .int .u16 a1] w fun e w' => e = .returned (.bool r) ∧ Drawn0 w w' := by
  have H : ((serial_less_uint16.f a0 a1).bind fun t102 => (some t102)) = some r := h
  clear h
  replace H := Option.bind_eq_some_iff.mp H
  obtain ⟨t102, A30, H⟩ := H
  replace H : (some t102) = some r := H
  have A3 := Aside0.mk A30
  clear A30
  obtain rfl := Option.some.inj H
  go_enter Try.func11, Try.ntmps11
  go_wp2_with (first | ((with_reducible refine gate_callee (f := 21) rfl ?_); refine goesL_ (some 7) rfl rfl Try.func21 (by kernel_rfl) rfl #[.int .u16 a0, .int .u16 a1] rfl (by (try simp only [List.map_toArray, List.map_cons, List.map_nil]); first | done | rfl | (simp only [List.length_drop, List.length_take]; rfl)) ?_; (with_reducible refine (serial_less_uint16.calls a0 a1 t102 _ A3.out).mono ?_); rintro e w' ⟨rfl, ⟨nd, rfl⟩⟩; refine ⟨_, rfl, ?_⟩))
  go_ret
  exact ⟨by first | rfl | (rw [HRT.out]; done) | (rw [HRT.out]; rfl) | (simp only [HRT.out]; done) | (simp [HRT.out]; done) | (simp; done) | (simp [*]; done), by repeat (first | exact Drawn0.refl _ | apply Drawn0.step)⟩

/-! ### serial_Dist: function 13 -/
def serial_Dist.f (a0 : Int) (a1 : Int) : Option (Int) := some ((a1 - a0) % 4294967296)
set_option maxHeartbeats 8000000 in
set_option maxRecDepth 100000 in
theorem serial_Dist.calls (a0 : Int) (a1 : Int) (r : Int) (w : World) (h : serial_Dist.f a0 a1 = some r) :
    Calls Try.prog 13 #[.int .u32 a0, .int .u32 a1] w fun e w' => e = .returned (.int .u32 r) ∧ Drawn0 w w' := by
  have H : (some ((a1 - a0) % 4294967296)) = some r := h
  clear h
  obtain rfl := Option.some.inj H
  go_enter Try.func13, Try.ntmps13
  go_wp2
  go_ret
  exact ⟨by first | rfl | (rw [HRT.out]; done) | (rw [HRT.out]; rfl) | (simp only [HRT.out]; done) | (simp [HRT.out]; done) | (simp; done) | (simp [*]; done), by repeat (first | exact Drawn0.refl _ | apply Drawn0.step)⟩

/-! ### serial_Max: function 15 -/
def serial_Max.f (a0 : Int) (a1 : Int) : Option (Int) := (serial_less_uint32.f a0 a1).bind fun t103 => (if t103 = true then (some a1) else (some a0))
set_option maxHeartbeats 8000000 in
set_option maxRecDepth 100000 in
theorem serial_Max.calls (a0 : Int) (a1 : Int) (r : Int) (w : World) (h : serial_Max.f a0 a1 = some r) :
    Calls Try.prog 15 #[.int .u32 a0, .int .u32 a1] w fun e w' => e = .returned (.int .u32 r) ∧ Drawn0 w w' := by
  have H : ((serial_less_uint32.f a0 a1).bind fun t103 => (if t103 = true then (some a1) else (some a0))) = some r := h
  clear h
  replace H := Option.bind_eq_some_iff.mp H
  obtain ⟨t103, A30, H⟩ := H
  replace H : (if t103 = true then (some a1) else (some a0)) = some r := H
  have A3 := Aside0.mk A30
  clear A30
  by_cases c4 : t103 = true
  · subst c4
    have H1 : (some a1) = some r := by rw [if_pos rfl] at H; exact H
    clear H
    have H := H1
    clear H1
    obtain rfl := Option.some.inj H
    go_enter Try.func15, Try.ntmps15
    go_wp2_with (first | ((with_reducible refine gate_callee (f := 19) rfl ?_); refine goesL_ (some 7) rfl rfl Try.func19 (by kernel_rfl) rfl #[.int .u32 a0, .int .u32 a1] rfl (by (try simp only [List.map_toArray, List.map_cons, List.map_nil]); first | done | rfl | (simp only [List.length_drop, List.length_take]; rfl)) ?_; (with_reducible refine (serial_less_uint32.calls a0 a1 true _ A3.out).mono ?_); rintro e w' ⟨rfl, ⟨nd, rfl⟩⟩; refine ⟨_, rfl, ?_⟩))
    go_ret
    exact ⟨by first | rfl | (rw [HRT.out]; done) | (rw [HRT.out]; rfl) | (simp only [HRT.out]; done) | (simp [HRT.out]; done) | (simp; done) | (simp [*]; done), by repeat (first | exact Drawn0.refl _ | apply Drawn0.step)⟩
  · replace c4 := Bool.eq_false_iff.mpr c4
    subst c4
    have H1 : (some a0) = some r := by rw [if_neg (show ¬ (false = true) by decide)] at H; exact H
    clear H
    have H := H1
    clear H1
    obtain rfl := Option.some.inj H
    go_enter Try.func15, Try.ntmps15
    go_wp2_with (first | ((with_reducible refine gate_callee (f := 19) rfl ?_); refine goesL_ (some 7) rfl rfl Try.func19 (by kernel_rfl) rfl #[.int .u32 a0, .int .u32 a1] rfl (by (try simp only [List.map_toArray, List.map_cons, List.map_nil]); first | done | rfl | (simp only [List.length_drop, List.length_take]; rfl)) ?_; (with_reducible refine (serial_less_uint32.calls a0 a1 false _ A3.out).mono ?_); rintro e w' ⟨rfl, ⟨nd, rfl⟩⟩; refine ⟨_, rfl, ?_⟩))
    go_ret
    exact ⟨by first | rfl | (rw [HRT.out]; done) | (rw [HRT.out]; rfl) | (simp only [HRT.out]; done) | (simp [HRT.out]; done) | (simp; done) | (simp [*]; done), by repeat (first | exact Drawn0.refl _ | apply Drawn0.step)⟩

/-! ### serial_Between: function 17 -/
def serial_Between.f (a0 : Int) (a1 : Int) (a2 : Int) : Option (Bool) := some (decide (((a1 - a0) % 4294967296) ≤ ((a2 - a0) % 4294967296)))
set_option maxHeartbeats 8000000 in
set_option maxRecDepth 100000 in
theorem serial_Between.calls (a0 : Int) (a1 : Int) (a2 : Int) (r : Bool) (w : World) (h : serial_Between.f a0 a1 a2 = some r) :
    Calls Try.prog 17 #[.int .u32 a0, .int .u32 a1, .int .u32 a2] w fun e w' => e = .returned (.bool r) ∧ Drawn0 w w' := by
  have H : (some (decide (((a1 - a0) % 4294967296) ≤ ((a2 - a0) % 4294967296)))) = some r := h
  clear h
  obtain rfl := Option.some.inj H
  go_enter Try.func17, Try.ntmps17
  go_wp2
  go_ret
  exact ⟨by first | rfl | (rw [HRT.out]; done) | (rw [HRT.out]; rfl) | (simp only [HRT.out]; done) | (simp [HRT.out]; done) | (simp; done) | (simp [*]; done), by repeat (first | exact Drawn0.refl _ | apply Drawn0.step)⟩

/-! ### bollardlaw02_awake: function 8 -/
def bollardlaw02_awake.f  : Option (Bool) := (serial_Less.f 4294967295 0).bind fun t104 => (if t104 = true then ((serial_Less.f 0 4294967295).bind fun t105 => (if t105 = true then (some false) else ((serial_Less16.f 65535 0).bind fun t106 => (if t106 = true then ((serial_Max.f 5 4294967290).bind fun t107 => (if t107 = 5 then ((serial_Between.f 4294967295 1 3).bind fun t108 => (if t108 = true then ((serial_Dist.f 4294967295 1).bind fun t109 => (some (t109 == 2))) else (some false))) else (some false))) else (some false))))) else (some false))
set_option maxHeartbeats 8000000 in
set_option maxRecDepth 100000 in
theorem bollardlaw02_awake.calls  (r : Bool) (w : World) (h : bollardlaw02_awake.f  = some r) :
    Calls Try.prog 8 #[] w fun e w' => e = .returned (.bool r) ∧ Drawn0 w w' := by
  have H : ((serial_Less.f 4294967295 0).bind fun t104 => (if t104 = true then ((serial_Less.f 0 4294967295).bind fun t105 => (if t105 = true then (some false) else ((serial_Less16.f 65535 0).bind fun t106 => (if t106 = true then ((serial_Max.f 5 4294967290).bind fun t107 => (if t107 = 5 then ((serial_Between.f 4294967295 1 3).bind fun t108 => (if t108 = true then ((serial_Dist.f 4294967295 1).bind fun t109 => (some (t109 == 2))) else (some false))) else (some false))) else (some false))))) else (some false))) = some r := h
  clear h
  replace H := Option.bind_eq_some_iff.mp H
  obtain ⟨t104, A10, H⟩ := H
  replace H : (if t104 = true then ((serial_Less.f 0 4294967295).bind fun t105 => (if t105 = true then (some false) else ((serial_Less16.f 65535 0).bind fun t106 => (if t106 = true then ((serial_Max.f 5 4294967290).bind fun t107 => (if t107 = 5 then ((serial_Between.f 4294967295 1 3).bind fun t108 => (if t108 = true then ((serial_Dist.f 4294967295 1).bind fun t109 => (some (t109 == 2))) else (some false))) else (some false))) else (some false))))) else (some false)) = some r := H
  have A1 := Aside0.mk A10
  clear A10
  by_cases c2 : t104 = true
  · subst c2
    have H1 : ((serial_Less.f 0 4294967295).bind fun t105 => (if t105 = true then (some false) else ((serial_Less16.f 65535 0).bind fun t106 => (if t106 = true then ((serial_Max.f 5 4294967290).bind fun t107 => (if t107 = 5 then ((serial_Between.f 4294967295 1 3).bind fun t108 => (if t108 = true then ((serial_Dist.f 4294967295 1).bind fun t109 => (some (t109 == 2))) else (some false))) else (some false))) else (some false))))) = some r := by rw [if_pos rfl] at H; exact H
    clear H
    have H := H1
    clear H1
    replace H := Option.bind_eq_some_iff.mp H
    obtain ⟨t105, A30, H⟩ := H
    replace H : (if t105 = true then (some false) else ((serial_Less16.f 65535 0).bind fun t106 => (if t106 = true then ((serial_Max.f 5 4294967290).bind fun t107 => (if t107 = 5 then ((serial_Between.f 4294967295 1 3).bind fun t108 => (if t108 = true then ((serial_Dist.f 4294967295 1).bind fun t109 => (some (t109 == 2))) else (some false))) else (some false))) else (some false)))) = some r := H
    have A3 := Aside0.mk A30
    clear A30
    by_cases c4 : t105 = true
    · subst c4
      have H1 : (some false) = some r := by rw [if_pos rfl] at H; exact H
      clear H
      have H := H1
      clear H1
      obtain rfl := Option.some.inj H
      go_enter Try.func8, Try.ntmps8
      go_wp2_with (first | ((with_reducible refine gate_callee (f := 9) rfl ?_); refine goesL_ (some 1) rfl rfl Try.func9 (by kernel_rfl) rfl #[.int .u32 4294967295, .int .u32 0] rfl (by (try simp only [List.map_toArray, List.map_cons, List.map_nil]); first | done | rfl | (simp only [List.length_drop, List.length_take]; rfl)) ?_; (with_reducible refine (serial_Less.calls 4294967295 0 true _ A1.out).mono ?_); rintro e w' ⟨rfl, ⟨nd, rfl⟩⟩; refine ⟨_, rfl, ?_⟩) | (go_at_call 9; (with_reducible refine (serial_Less.calls 0 4294967295 true _ A3.out).mono ?_); rintro e w' ⟨rfl, ⟨nd, rfl⟩⟩))
      go_ret
      exact ⟨by first | rfl | (rw [HRT.out]; done) | (rw [HRT.out]; rfl) | (simp only [HRT.out]; done) | (simp [HRT.out]; done) | (simp; done) | (simp [*]; done), by repeat (first | exact Drawn0.refl _ | apply Drawn0.step)⟩
    · replace c4 := Bool.eq_false_iff.mpr c4
      subst c4
      have H1 : ((serial_Less16.f 65535 0).bind fun t106 => (if t106 = true then ((serial_Max.f 5 4294967290).bind fun t107 => (if t107 = 5 then ((serial_Between.f 4294967295 1 3).bind fun t108 => (if t108 = true then ((serial_Dist.f 4294967295 1).bind fun t109 => (some (t109 == 2))) else (some false))) else (some false))) else (some false))) = some r := by rw [if_neg (show ¬ (false = true) by decide)] at H; exact H
      clear H
      have H := H1
      clear H1
      replace H := Option.bind_eq_some_iff.mp H
      obtain ⟨t106, A50, H⟩ := H
      replace H : (if t106 = true then ((serial_Max.f 5 4294967290).bind fun t107 => (if t107 = 5 then ((serial_Between.f 4294967295 1 3).bind fun t108 => (if t108 = true then ((serial_Dist.f 4294967295 1).bind fun t109 => (some (t109 == 2))) else (some false))) else (some false))) else (some false)) = some r := H
      have A5 := Aside0.mk A50
      clear A50
      by_cases c6 : t106 = true
      · subst c6
        have H1 : ((serial_Max.f 5 4294967290).bind fun t107 => (if t107 = 5 then ((serial_Between.f 4294967295 1 3).bind fun t108 => (if t108 = true then ((serial_Dist.f 4294967295 1).bind fun t109 => (some (t109 == 2))) else (some false))) else (some false))) = some r := by rw [if_pos rfl] at H; exact H
        clear H
        have H := H1
        clear H1
        replace H := Option.bind_eq_some_iff.mp H
        obtain ⟨t107, A70, H⟩ := H
        replace H : (if t107 = 5 then ((serial_Between.f 4294967295 1 3).bind fun t108 => (if t108 = true then ((serial_Dist.f 4294967295 1).bind fun t109 => (some (t109 == 2))) else (some false))) else (some false)) = some r := H
        have A7 := Aside0.mk A70
        clear A70
        by_cases c8 : t107 = 5
        · rw [if_pos c8] at H
          have c8b0 : (t107 == 5) = true := beq_iff_eq.mpr c8
          have c8b1 : (t107 != 5) = false := bne_eq_false_iff_eq.mpr c8
          clear c8
          replace H := Option.bind_eq_some_iff.mp H
          obtain ⟨t108, A90, H⟩ := H
          replace H : (if t108 = true then ((serial_Dist.f 4294967295 1).bind fun t109 => (some (t109 == 2))) else (some false)) = some r := H
          have A9 := Aside0.mk A90
          clear A90
          by_cases c10 : t108 = true
          · subst c10
            have H1 : ((serial_Dist.f 4294967295 1).bind fun t109 => (some (t109 == 2))) = some r := by rw [if_pos rfl] at H; exact H
            clear H
            have H := H1
            clear H1
            replace H := Option.bind_eq_some_iff.mp H
            obtain ⟨t109, A110, H⟩ := H
            replace H : (some (t109 == 2)) = some r := H
            have A11 := Aside0.mk A110
            clear A110
            obtain rfl := Option.some.inj H
            go_enter Try.func8, Try.ntmps8
            go_wp2_with (first | ((with_reducible refine gate_callee (f := 9) rfl ?_); refine goesL_ (some 1) rfl rfl Try.func9 (by kernel_rfl) rfl #[.int .u32 4294967295, .int .u32 0] rfl (by (try simp only [List.map_toArray, List.map_cons, List.map_nil]); first | done | rfl | (simp only [List.length_drop, List.length_take]; rfl)) ?_; (with_reducible refine (serial_Less.calls 4294967295 0 true _ A1.out).mono ?_); rintro e w' ⟨rfl, ⟨nd, rfl⟩⟩; refine ⟨_, rfl, ?_⟩) | (go_at_call 9; (with_reducible refine (serial_Less.calls 0 4294967295 false _ A3.out).mono ?_); rintro e w' ⟨rfl, ⟨nd, rfl⟩⟩) | (go_at_call 11; (with_reducible refine (serial_Less16.calls 65535 0 true _ A5.out).mono ?_); rintro e w' ⟨rfl, ⟨nd, rfl⟩⟩) | (go_at_call 15; (with_reducible refine (serial_Max.calls 5 4294967290 t107 _ A7.out).mono ?_); rintro e w' ⟨rfl, ⟨nd, rfl⟩⟩) | (go_at_call 17; (with_reducible refine (serial_Between.calls 4294967295 1 3 true _ A9.out).mono ?_); rintro e w' ⟨rfl, ⟨nd, rfl⟩⟩) | (go_at_call 13; (with_reducible refine (serial_Dist.calls 4294967295 1 t109 _ A11.out).mono ?_); rintro e w' ⟨rfl, ⟨nd, rfl⟩⟩))
            go_ret
            exact ⟨by first | rfl | (rw [HRT.out]; done) | (rw [HRT.out]; rfl) | (simp only [HRT.out]; done) | (simp [HRT.out]; done) | (simp; done) | (simp [*]; done), by repeat (first | exact Drawn0.refl _ | apply Drawn0.step)⟩
          · replace c10 := Bool.eq_false_iff.mpr c10
            subst c10
            have H1 : (some false) = some r := by rw [if_neg (show ¬ (false = true) by decide)] at H; exact H
            clear H
            have H := H1
            clear H1
            obtain rfl := Option.some.inj H
            go_enter Try.func8, Try.ntmps8
            go_wp2_with (first | ((with_reducible refine gate_callee (f := 9) rfl ?_); refine goesL_ (some 1) rfl rfl Try.func9 (by kernel_rfl) rfl #[.int .u32 4294967295, .int .u32 0] rfl (by (try simp only [List.map_toArray, List.map_cons, List.map_nil]); first | done | rfl | (simp only [List.length_drop, List.length_take]; rfl)) ?_; (with_reducible refine (serial_Less.calls 4294967295 0 true _ A1.out).mono ?_); rintro e w' ⟨rfl, ⟨nd, rfl⟩⟩; refine ⟨_, rfl, ?_⟩) | (go_at_call 9; (with_reducible refine (serial_Less.calls 0 4294967295 false _ A3.out).mono ?_); rintro e w' ⟨rfl, ⟨nd, rfl⟩⟩) | (go_at_call 11; (with_reducible refine (serial_Less16.calls 65535 0 true _ A5.out).mono ?_); rintro e w' ⟨rfl, ⟨nd, rfl⟩⟩) | (go_at_call 15; (with_reducible refine (serial_Max.calls 5 4294967290 t107 _ A7.out).mono ?_); rintro e w' ⟨rfl, ⟨nd, rfl⟩⟩) | (go_at_call 17; (with_reducible refine (serial_Between.calls 4294967295 1 3 false _ A9.out).mono ?_); rintro e w' ⟨rfl, ⟨nd, rfl⟩⟩))
            go_ret
            exact ⟨by first | rfl | (rw [HRT.out]; done) | (rw [HRT.out]; rfl) | (simp only [HRT.out]; done) | (simp [HRT.out]; done) | (simp; done) | (simp [*]; done), by repeat (first | exact Drawn0.refl _ | apply Drawn0.step)⟩
        · rw [if_neg c8] at H
          have c8b0 : (t107 == 5) = false := beq_eq_false_iff_ne.mpr c8
          have c8b1 : (t107 != 5) = true := bne_iff_ne.mpr c8
          obtain rfl := Option.some.inj H
          go_enter Try.func8, Try.ntmps8
          go_wp2_with (first | ((with_reducible refine gate_callee (f := 9) rfl ?_); refine goesL_ (some 1) rfl rfl Try.func9 (by kernel_rfl) rfl #[.int .u32 4294967295, .int .u32 0] rfl (by (try simp only [List.map_toArray, List.map_cons, List.map_nil]); first | done | rfl | (simp only [List.length_drop, List.length_take]; rfl)) ?_; (with_reducible refine (serial_Less.calls 4294967295 0 true _ A1.out).mono ?_); rintro e w' ⟨rfl, ⟨nd, rfl⟩⟩; refine ⟨_, rfl, ?_⟩) | (go_at_call 9; (with_reducible refine (serial_Less.calls 0 4294967295 false _ A3.out).mono ?_); rintro e w' ⟨rfl, ⟨nd, rfl⟩⟩) | (go_at_call 11; (with_reducible refine (serial_Less16.calls 65535 0 true _ A5.out).mono ?_); rintro e w' ⟨rfl, ⟨nd, rfl⟩⟩) | (go_at_call 15; (with_reducible refine (serial_Max.calls 5 4294967290 t107 _ A7.out).mono ?_); rintro e w' ⟨rfl, ⟨nd, rfl⟩⟩))
          go_ret
          exact ⟨by first | rfl | (rw [HRT.out]; done) | (rw [HRT.out]; rfl) | (simp only [HRT.out]; done) | (simp [HRT.out]; done) | (simp; done) | (simp [*]; done), by repeat (first | exact Drawn0.refl _ | apply Drawn0.step)⟩
      · replace c6 := Bool.eq_false_iff.mpr c6
        subst c6
        have H1 : (some false) = some r := by rw [if_neg (show ¬ (false = true) by decide)] at H; exact H
        clear H
        have H := H1
        clear H1
        obtain rfl := Option.some.inj H
        go_enter Try.func8, Try.ntmps8
        go_wp2_with (first | ((with_reducible refine gate_callee (f := 9) rfl ?_); refine goesL_ (some 1) rfl rfl Try.func9 (by kernel_rfl) rfl #[.int .u32 4294967295, .int .u32 0] rfl (by (try simp only [List.map_toArray, List.map_cons, List.map_nil]); first | done | rfl | (simp only [List.length_drop, List.length_take]; rfl)) ?_; (with_reducible refine (serial_Less.calls 4294967295 0 true _ A1.out).mono ?_); rintro e w' ⟨rfl, ⟨nd, rfl⟩⟩; refine ⟨_, rfl, ?_⟩) | (go_at_call 9; (with_reducible refine (serial_Less.calls 0 4294967295 false _ A3.out).mono ?_); rintro e w' ⟨rfl, ⟨nd, rfl⟩⟩) | (go_at_call 11; (with_reducible refine (serial_Less16.calls 65535 0 false _ A5.out).mono ?_); rintro e w' ⟨rfl, ⟨nd, rfl⟩⟩))
        go_ret
        exact ⟨by first | rfl | (rw [HRT.out]; done) | (rw [HRT.out]; rfl) | (simp only [HRT.out]; done) | (simp [HRT.out]; done) | (simp; done) | (simp [*]; done), by repeat (first | exact Drawn0.refl _ | apply Drawn0.step)⟩
  · replace c2 := Bool.eq_false_iff.mpr c2
    subst c2
    have H1 : (some false) = some r := by rw [if_neg (show ¬ (false = true) by decide)] at H; exact H
    clear H
    have H := H1
    clear H1
    obtain rfl := Option.some.inj H
    go_enter Try.func8, Try.ntmps8
    go_wp2_with (first | ((with_reducible refine gate_callee (f := 9) rfl ?_); refine goesL_ (some 1) rfl rfl Try.func9 (by kernel_rfl) rfl #[.int .u32 4294967295, .int .u32 0] rfl (by (try simp only [List.map_toArray, List.map_cons, List.map_nil]); first | done | rfl | (simp only [List.length_drop, List.length_take]; rfl)) ?_; (with_reducible refine (serial_Less.calls 4294967295 0 false _ A1.out).mono ?_); rintro e w' ⟨rfl, ⟨nd, rfl⟩⟩; refine ⟨_, rfl, ?_⟩))
    go_ret
    exact ⟨by first | rfl | (rw [HRT.out]; done) | (rw [HRT.out]; rfl) | (simp only [HRT.out]; done) | (simp [HRT.out]; done) | (simp; done) | (simp [*]; done), by repeat (first | exact Drawn0.refl _ | apply Drawn0.step)⟩

/-! ### bollardlaw02_SerialSteps: function 6 -/
def bollardlaw02_SerialSteps.j0 : Nat → Int → Int → Bool → Int → Int → Bool → Option (Bool)
  | 0, _, _, _, _, _, _ => none
  | k + 1, x0, x2, x7, x8, x9, x36 => if x36 = true then (some false) else (if ((x8 + 1) % 4294967296) = 0 then (none) else (if x7 = true then ((serial_Between.f x0 ((x0 + (Int.tmod x2 ((x8 + 1) % 4294967296))) % 4294967296) x9).bind fun t114 => (if t114 = true then (if x8 = 0 then ((serial_Dist.f x9 x0).bind fun t115 => (some (((t115 + x8) % 4294967296) == 0))) else ((serial_Between.f x0 ((x9 + 1) % 4294967296) x9).bind fun t116 => (if (t116 == false) = true then ((serial_Dist.f x9 x0).bind fun t117 => (some (((t117 + x8) % 4294967296) == 0))) else (some false)))) else (some false))) else (some false)))
def bollardlaw02_SerialSteps.f (k : Nat) (a0 : Int) (a1 : Int) (a2 : Int) : Option (Bool) := (bollardlaw02_awake.f).bind fun t110 => ((serial_Dist.f a0 ((a0 + (Go.bits .and .u32 a1 2147483647)) % 4294967296)).bind fun t111 => (if t111 = (Go.bits .and .u32 a1 2147483647) then ((serial_Less.f a0 ((a0 + (Go.bits .and .u32 a1 2147483647)) % 4294967296)).bind fun t112 => (if (t112 != (decide ((Go.bits .and .u32 a1 2147483647) > 0))) = true then (bollardlaw02_SerialSteps.j0 k a0 a2 t110 (Go.bits .and .u32 a1 2147483647) ((a0 + (Go.bits .and .u32 a1 2147483647)) % 4294967296) true) else ((serial_Max.f a0 ((a0 + (Go.bits .and .u32 a1 2147483647)) % 4294967296)).bind fun t113 => (bollardlaw02_SerialSteps.j0 k a0 a2 t110 (Go.bits .and .u32 a1 2147483647) ((a0 + (Go.bits .and .u32 a1 2147483647)) % 4294967296) (t113 != ((a0 + (Go.bits .and .u32 a1 2147483647)) % 4294967296)))))) else (bollardlaw02_SerialSteps.j0 k a0 a2 t110 (Go.bits .and .u32 a1 2147483647) ((a0 + (Go.bits .and .u32 a1 2147483647)) % 4294967296) true)))
theorem bollardlaw02_SerialSteps.mono_l : ∀ k, (∀ y0 y1 y2 y3 y4 y5, LeO (bollardlaw02_SerialSteps.j0 k y0 y1 y2 y3 y4 y5) (bollardlaw02_SerialSteps.j0 (k + 1) y0 y1 y2 y3 y4 y5))
  | 0 => fun _ _ _ _ _ _ r h => by simp [bollardlaw02_SerialSteps.j0] at h
  | k + 1 => by
    have ih0 := bollardlaw02_SerialSteps.mono_l k
    · intro y0 y1 y2 y3 y4 y5
      unfold bollardlaw02_SerialSteps.j0
      repeat' first
      | (with_reducible exact ih0 _ _ _ _ _ _)
      | (with_reducible exact LeO.refl _)
      | (with_reducible exact LeO.none _)
      | (with_reducible refine LeO.ite ?_ ?_)
      | (with_reducible refine LeO.bind ?_ (fun _ => ?_))
      | exact ih0 _ _ _ _ _ _
      | exact LeO.none _
      | refine LeO.ite ?_ ?_
      | refine LeO.bind ?_ (fun _ => ?_)
theorem bollardlaw02_SerialSteps.mono : ∀ a0 a1 a2 k, LeO (bollardlaw02_SerialSteps.f k a0 a1 a2) (bollardlaw02_SerialSteps.f (k + 1) a0 a1 a2) := by
  intro a0 a1 a2 k
  have ih0 := bollardlaw02_SerialSteps.mono_l k
  unfold bollardlaw02_SerialSteps.f
  repeat' first
      | (with_reducible exact ih0 _ _ _ _ _ _)
      | (with_reducible exact LeO.refl _)
      | (with_reducible exact LeO.none _)
      | (with_reducible refine LeO.ite ?_ ?_)
      | (with_reducible refine LeO.bind ?_ (fun _ => ?_))
      | exact ih0 _ _ _ _ _ _
      | exact LeO.none _
      | refine LeO.ite ?_ ?_
      | refine LeO.bind ?_ (fun _ => ?_)
set_option maxHeartbeats 8000000 in
set_option maxRecDepth 100000 in
theorem bollardlaw02_SerialSteps.calls (k : Nat) (a0 : Int) (a1 : Int) (a2 : Int) (w : World) (h : bollardlaw02_SerialSteps.f k a0 a1 a2 = some true) :
    Calls Try.prog 6 #[.int .u32 a0, .int .u32 a1, .int .u32 a2] w fun e w' => e = .returned (.bool true) ∧ Drawn0 w w' := by
  have H : ((bollardlaw02_awake.f).bind fun t110 => ((serial_Dist.f a0 ((a0 + (Go.bits .and .u32 a1 2147483647)) % 4294967296)).bind fun t111 => (if t111 = (Go.bits .and .u32 a1 2147483647) then ((serial_Less.f a0 ((a0 + (Go.bits .and .u32 a1 2147483647)) % 4294967296)).bind fun t112 => (if (t112 != (decide ((Go.bits .and .u32 a1 2147483647) > 0))) = true then (bollardlaw02_SerialSteps.j0 k a0 a2 t110 (Go.bits .and .u32 a1 2147483647) ((a0 + (Go.bits .and .u32 a1 2147483647)) % 4294967296) true) else ((serial_Max.f a0 ((a0 + (Go.bits .and .u32 a1 2147483647)) % 4294967296)).bind fun t113 => (bollardlaw02_SerialSteps.j0 k a0 a2 t110 (Go.bits .and .u32 a1 2147483647) ((a0 + (Go.bits .and .u32 a1 2147483647)) % 4294967296) (t113 != ((a0 + (Go.bits .and .u32 a1 2147483647)) % 4294967296)))))) else (bollardlaw02_SerialSteps.j0 k a0 a2 t110 (Go.bits .and .u32 a1 2147483647) ((a0 + (Go.bits .and .u32 a1 2147483647)) % 4294967296) true)))) = some true := h
  clear h
  replace H := Option.bind_eq_some_iff.mp H
  obtain ⟨t110, A40, H⟩ := H
  replace H : ((serial_Dist.f a0 ((a0 + (Go.bits .and .u32 a1 2147483647)) % 4294967296)).bind fun t111 => (if t111 = (Go.bits .and .u32 a1 2147483647) then ((serial_Less.f a0 ((a0 + (Go.bits .and .u32 a1 2147483647)) % 4294967296)).bind fun t112 => (if (t112 != (decide ((Go.bits .and .u32 a1 2147483647) > 0))) = true then (bollardlaw02_SerialSteps.j0 k a0 a2 t110 (Go.bits .and .u32 a1 2147483647) ((a0 + (Go.bits .and .u32 a1 2147483647)) % 4294967296) true) else ((serial_Max.f a0 ((a0 + (Go.bits .and .u32 a1 2147483647)) % 4294967296)).bind fun t113 => (bollardlaw02_SerialSteps.j0 k a0 a2 t110 (Go.bits .and .u32 a1 2147483647) ((a0 + (Go.bits .and .u32 a1 2147483647)) % 4294967296) (t113 != ((a0 + (Go.bits .and .u32 a1 2147483647)) % 4294967296)))))) else (bollardlaw02_SerialSteps.j0 k a0 a2 t110 (Go.bits .and .u32 a1 2147483647) ((a0 + (Go.bits .and .u32 a1 2147483647)) % 4294967296) true))) = some true := H
  have A4 := Aside0.mk A40
  clear A40
  have HC5 := Aside0.mk H
  clear H
  go_enter Try.func6, Try.ntmps6
  go_upto_region 4 with (first | ((with_reducible refine gate_callee (f := 8) rfl ?_); refine goesL_ (some 11) rfl rfl Try.func8 (by kernel_rfl) rfl #[] rfl (by (try simp only [List.map_toArray, List.map_cons, List.map_nil]); first | done | rfl | (simp only [List.length_drop, List.length_take]; rfl)) ?_; (with_reducible refine (bollardlaw02_awake.calls  t110 _ A4.out).mono ?_); rintro e w' ⟨rfl, ⟨nd, rfl⟩⟩; refine ⟨_, rfl, ?_⟩))
  (try simp only [Act.put, List.setIfInBounds_toArray, List.set_cons_zero, List.set_cons_succ])
  go_cut [36] (fun v36 wc => ∃ (kq : Nat) (x36_4 : Bool), v36 = .bool x36_4 ∧ Aside0 (bollardlaw02_SerialSteps.j0 kq a0 a2 t110 (Go.bits .and .u32 a1 2147483647) ((a0 + (Go.bits .and .u32 a1 2147483647)) % 4294967296) x36_4 = some true) ∧ Aside0 (kq ≤ k) ∧ Drawn0 w wc)
  case first =>
    have H := HC5.out
    clear HC5
    replace H := Option.bind_eq_some_iff.mp H
    obtain ⟨t111, A60, H⟩ := H
    replace H : (if t111 = (Go.bits .and .u32 a1 2147483647) then ((serial_Less.f a0 ((a0 + (Go.bits .and .u32 a1 2147483647)) % 4294967296)).bind fun t112 => (if (t112 != (decide ((Go.bits .and .u32 a1 2147483647) > 0))) = true then (bollardlaw02_SerialSteps.j0 k a0 a2 t110 (Go.bits .and .u32 a1 2147483647) ((a0 + (Go.bits .and .u32 a1 2147483647)) % 4294967296) true) else ((serial_Max.f a0 ((a0 + (Go.bits .and .u32 a1 2147483647)) % 4294967296)).bind fun t113 => (bollardlaw02_SerialSteps.j0 k a0 a2 t110 (Go.bits .and .u32 a1 2147483647) ((a0 + (Go.bits .and .u32 a1 2147483647)) % 4294967296) (t113 != ((a0 + (Go.bits .and .u32 a1 2147483647)) % 4294967296)))))) else (bollardlaw02_SerialSteps.j0 k a0 a2 t110 (Go.bits .and .u32 a1 2147483647) ((a0 + (Go.bits .and .u32 a1 2147483647)) % 4294967296) true)) = some true := H
    have A6 := Aside0.mk A60
    clear A60
    by_cases c7 : t111 = (Go.bits .and .u32 a1 2147483647)
    · rw [if_pos c7] at H
      have c7b0 : (t111 == (Go.bits .and .u32 a1 2147483647)) = true := beq_iff_eq.mpr c7
      have c7b1 : (t111 != (Go.bits .and .u32 a1 2147483647)) = false := bne_eq_false_iff_eq.mpr c7
      clear c7
      (first | rw [c7b0] | (simp only [i64_w, i32_w]; rw [c7b0]) | skip)
      replace H := Option.bind_eq_some_iff.mp H
      obtain ⟨t112, A80, H⟩ := H
      replace H : (if (t112 != (decide ((Go.bits .and .u32 a1 2147483647) > 0))) = true then (bollardlaw02_SerialSteps.j0 k a0 a2 t110 (Go.bits .and .u32 a1 2147483647) ((a0 + (Go.bits .and .u32 a1 2147483647)) % 4294967296) true) else ((serial_Max.f a0 ((a0 + (Go.bits .and .u32 a1 2147483647)) % 4294967296)).bind fun t113 => (bollardlaw02_SerialSteps.j0 k a0 a2 t110 (Go.bits .and .u32 a1 2147483647) ((a0 + (Go.bits .and .u32 a1 2147483647)) % 4294967296) (t113 != ((a0 + (Go.bits .and .u32 a1 2147483647)) % 4294967296))))) = some true := H
      have A8 := Aside0.mk A80
      clear A80
      by_cases c9 : (t112 != (decide ((Go.bits .and .u32 a1 2147483647) > 0))) = true
      · rw [if_pos c9] at H
        have c9b0 : (t112 != (decide ((Go.bits .and .u32 a1 2147483647) > 0))) = true := c9
        (try (have c9b1 : decide (t112 = (decide ((Go.bits .and .u32 a1 2147483647) > 0))) = false := by simpa using c9))
        (try (have c9b2 : (t112 == (decide ((Go.bits .and .u32 a1 2147483647) > 0))) = false := by simpa using c9))
        (try (have c9b3 : ¬ (t112 = (decide ((Go.bits .and .u32 a1 2147483647) > 0))) := by simpa using c9))
        clear c9
        have H' := Aside0.mk H
        clear H
        go_wp2_with (first | ((with_reducible refine gate_callee (f := 13) rfl ?_); refine goesL_ (some 19) rfl rfl Try.func13 (by kernel_rfl) rfl #[.int .u32 a0, .int .u32 ((a0 + (Go.bits .and .u32 a1 2147483647)) % 4294967296)] rfl (by (try simp only [List.map_toArray, List.map_cons, List.map_nil]); first | done | rfl | (simp only [List.length_drop, List.length_take]; rfl)) ?_; (with_reducible refine (serial_Dist.calls a0 ((a0 + (Go.bits .and .u32 a1 2147483647)) % 4294967296) t111 _ A6.out).mono ?_); rintro e w' ⟨rfl, ⟨nd, rfl⟩⟩; refine ⟨_, rfl, ?_⟩) | (go_at_call 9; (with_reducible refine (serial_Less.calls a0 ((a0 + (Go.bits .and .u32 a1 2147483647)) % 4294967296) t112 _ A8.out).mono ?_); rintro e w' ⟨rfl, ⟨nd, rfl⟩⟩))
        go_meet
        case rel => exact ⟨_, (true), (by first | rfl | (simp; done) | (simp [*]; done)), H', ⟨by first | omega | exact Nat.le_refl _⟩, by repeat (first | exact Drawn0.refl _ | apply Drawn0.step)⟩
      · rw [if_neg c9] at H
        have c9b0 : (t112 != (decide ((Go.bits .and .u32 a1 2147483647) > 0))) = false := by simpa using c9
        (try (have c9b1 : decide (t112 = (decide ((Go.bits .and .u32 a1 2147483647) > 0))) = true := by simpa using c9))
        (try (have c9b2 : (t112 == (decide ((Go.bits .and .u32 a1 2147483647) > 0))) = true := by simpa using c9))
        clear c9
        replace H := Option.bind_eq_some_iff.mp H
        obtain ⟨t113, A100, H⟩ := H
        replace H : (bollardlaw02_SerialSteps.j0 k a0 a2 t110 (Go.bits .and .u32 a1 2147483647) ((a0 + (Go.bits .and .u32 a1 2147483647)) % 4294967296) (t113 != ((a0 + (Go.bits .and .u32 a1 2147483647)) % 4294967296))) = some true := H
        have A10 := Aside0.mk A100
        clear A100
        have H' := Aside0.mk H
        clear H
        go_wp2_with (first | ((with_reducible refine gate_callee (f := 13) rfl ?_); refine goesL_ (some 19) rfl rfl Try.func13 (by kernel_rfl) rfl #[.int .u32 a0, .int .u32 ((a0 + (Go.bits .and .u32 a1 2147483647)) % 4294967296)] rfl (by (try simp only [List.map_toArray, List.map_cons, List.map_nil]); first | done | rfl | (simp only [List.length_drop, List.length_take]; rfl)) ?_; (with_reducible refine (serial_Dist.calls a0 ((a0 + (Go.bits .and .u32 a1 2147483647)) % 4294967296) t111 _ A6.out).mono ?_); rintro e w' ⟨rfl, ⟨nd, rfl⟩⟩; refine ⟨_, rfl, ?_⟩) | (go_at_call 9; (with_reducible refine (serial_Less.calls a0 ((a0 + (Go.bits .and .u32 a1 2147483647)) % 4294967296) t112 _ A8.out).mono ?_); rintro e w' ⟨rfl, ⟨nd, rfl⟩⟩) | (go_at_call 15; (with_reducible refine (serial_Max.calls a0 ((a0 + (Go.bits .and .u32 a1 2147483647)) % 4294967296) t113 _ A10.out).mono ?_); rintro e w' ⟨rfl, ⟨nd, rfl⟩⟩))
        go_meet
        case rel => exact ⟨_, ((t113 != ((a0 + (Go.bits .and .u32 a1 2147483647)) % 4294967296))), (by first | rfl | (simp; done) | (simp [*]; done)), H', ⟨by first | omega | exact Nat.le_refl _⟩, by repeat (first | exact Drawn0.refl _ | apply Drawn0.step)⟩
    · rw [if_neg c7] at H
      have c7b0 : (t111 == (Go.bits .and .u32 a1 2147483647)) = false := beq_eq_false_iff_ne.mpr c7
      have c7b1 : (t111 != (Go.bits .and .u32 a1 2147483647)) = true := bne_iff_ne.mpr c7
      (first | rw [c7b0] | (simp only [i64_w, i32_w]; rw [c7b0]) | skip)
      have H' := Aside0.mk H
      clear H
      go_wp2_with (first | ((with_reducible refine gate_callee (f := 13) rfl ?_); refine goesL_ (some 19) rfl rfl Try.func13 (by kernel_rfl) rfl #[.int .u32 a0, .int .u32 ((a0 + (Go.bits .and .u32 a1 2147483647)) % 4294967296)] rfl (by (try simp only [List.map_toArray, List.map_cons, List.map_nil]); first | done | rfl | (simp only [List.length_drop, List.length_take]; rfl)) ?_; (with_reducible refine (serial_Dist.calls a0 ((a0 + (Go.bits .and .u32 a1 2147483647)) % 4294967296) t111 _ A6.out).mono ?_); rintro e w' ⟨rfl, ⟨nd, rfl⟩⟩; refine ⟨_, rfl, ?_⟩))
      go_meet
      case rel => exact ⟨_, (true), (by first | rfl | (simp; done) | (simp [*]; done)), H', ⟨by first | omega | exact Nat.le_refl _⟩, by repeat (first | exact Drawn0.refl _ | apply Drawn0.step)⟩
  case rest =>
    clear HC5
    try clear c1
    try clear p2
    try clear c6
    try clear c7
    try clear c7b0
    try clear c7b1
    try clear c8
    try clear c9
    try clear c9b0
    try clear c9b1
    try clear c9b2
    obtain ⟨kq, x36_4, rfl, HA, HJ4, ⟨mc4, rfl⟩⟩ := hcut
    cases kq with
    | zero => exact absurd HA.out (by simp [bollardlaw02_SerialSteps.j0])
    | succ kj4 =>
      have H := HA.out
      clear HA
      simp only [bollardlaw02_SerialSteps.j0] at H
      by_cases c11 : x36_4 = true
      · subst c11
        have H1 : (some false) = some true := by rw [if_pos rfl] at H; exact H
        clear H
        have H := H1
        clear H1
        exact absurd H (by decide)
      · replace c11 := Bool.eq_false_iff.mpr c11
        subst c11
        have H1 : (if (((Go.bits .and .u32 a1 2147483647) + 1) % 4294967296) = 0 then (none) else (if t110 = true then ((serial_Between.f a0 ((a0 + (Int.tmod a2 (((Go.bits .and .u32 a1 2147483647) + 1) % 4294967296))) % 4294967296) ((a0 + (Go.bits .and .u32 a1 2147483647)) % 4294967296)).bind fun t114 => (if t114 = true then (if (Go.bits .and .u32 a1 2147483647) = 0 then ((serial_Dist.f ((a0 + (Go.bits .and .u32 a1 2147483647)) % 4294967296) a0).bind fun t115 => (some (((t115 + (Go.bits .and .u32 a1 2147483647)) % 4294967296) == 0))) else ((serial_Between.f a0 ((((a0 + (Go.bits .and .u32 a1 2147483647)) % 4294967296) + 1) % 4294967296) ((a0 + (Go.bits .and .u32 a1 2147483647)) % 4294967296)).bind fun t116 => (if (t116 == false) = true then ((serial_Dist.f ((a0 + (Go.bits .and .u32 a1 2147483647)) % 4294967296) a0).bind fun t117 => (some (((t117 + (Go.bits .and .u32 a1 2147483647)) % 4294967296) == 0))) else (some false)))) else (some false))) else (some false))) = some true := by rw [if_neg (show ¬ (false = true) by decide)] at H; exact H
        clear H
        have H := H1
        clear H1
        by_cases c12 : (((Go.bits .and .u32 a1 2147483647) + 1) % 4294967296) = 0
        · rw [if_pos c12] at H
          exact absurd H (by simp)
        · rw [if_neg c12] at H
          have c12b0 : ((((Go.bits .and .u32 a1 2147483647) + 1) % 4294967296) == 0) = false := beq_eq_false_iff_ne.mpr c12
          have c12b1 : ((((Go.bits .and .u32 a1 2147483647) + 1) % 4294967296) != 0) = true := bne_iff_ne.mpr c12
          by_cases c13 : t110 = true
          · subst c13
            have H1 : ((serial_Between.f a0 ((a0 + (Int.tmod a2 (((Go.bits .and .u32 a1 2147483647) + 1) % 4294967296))) % 4294967296) ((a0 + (Go.bits .and .u32 a1 2147483647)) % 4294967296)).bind fun t114 => (if t114 = true then (if (Go.bits .and .u32 a1 2147483647) = 0 then ((serial_Dist.f ((a0 + (Go.bits .and .u32 a1 2147483647)) % 4294967296) a0).bind fun t115 => (some (((t115 + (Go.bits .and .u32 a1 2147483647)) % 4294967296) == 0))) else ((serial_Between.f a0 ((((a0 + (Go.bits .and .u32 a1 2147483647)) % 4294967296) + 1) % 4294967296) ((a0 + (Go.bits .and .u32 a1 2147483647)) % 4294967296)).bind fun t116 => (if (t116 == false) = true then ((serial_Dist.f ((a0 + (Go.bits .and .u32 a1 2147483647)) % 4294967296) a0).bind fun t117 => (some (((t117 + (Go.bits .and .u32 a1 2147483647)) % 4294967296) == 0))) else (some false)))) else (some false))) = some true := by rw [if_pos rfl] at H; exact H
            clear H
            have H := H1
            clear H1
            replace H := Option.bind_eq_some_iff.mp H
            obtain ⟨t114, A140, H⟩ := H
            replace H : (if t114 = true then (if (Go.bits .and .u32 a1 2147483647) = 0 then ((serial_Dist.f ((a0 + (Go.bits .and .u32 a1 2147483647)) % 4294967296) a0).bind fun t115 => (some (((t115 + (Go.bits .and .u32 a1 2147483647)) % 4294967296) == 0))) else ((serial_Between.f a0 ((((a0 + (Go.bits .and .u32 a1 2147483647)) % 4294967296) + 1) % 4294967296) ((a0 + (Go.bits .and .u32 a1 2147483647)) % 4294967296)).bind fun t116 => (if (t116 == false) = true then ((serial_Dist.f ((a0 + (Go.bits .and .u32 a1 2147483647)) % 4294967296) a0).bind fun t117 => (some (((t117 + (Go.bits .and .u32 a1 2147483647)) % 4294967296) == 0))) else (some false)))) else (some false)) = some true := H
            have A14 := Aside0.mk A140
            clear A140
            by_cases c15 : t114 = true
            · subst c15
              have H1 : (if (Go.bits .and .u32 a1 2147483647) = 0 then ((serial_Dist.f ((a0 + (Go.bits .and .u32 a1 2147483647)) % 4294967296) a0).bind fun t115 => (some (((t115 + (Go.bits .and .u32 a1 2147483647)) % 4294967296) == 0))) else ((serial_Between.f a0 ((((a0 + (Go.bits .and .u32 a1 2147483647)) % 4294967296) + 1) % 4294967296) ((a0 + (Go.bits .and .u32 a1 2147483647)) % 4294967296)).bind fun t116 => (if (t116 == false) = true then ((serial_Dist.f ((a0 + (Go.bits .and .u32 a1 2147483647)) % 4294967296) a0).bind fun t117 => (some (((t117 + (Go.bits .and .u32 a1 2147483647)) % 4294967296) == 0))) else (some false)))) = some true := by rw [if_pos rfl] at H; exact H
              clear H
              have H := H1
              clear H1
              by_cases c16 : (Go.bits .and .u32 a1 2147483647) = 0
              · rw [if_pos c16] at H
                have c16b0 : ((Go.bits .and .u32 a1 2147483647) == 0) = true := beq_iff_eq.mpr c16
                have c16b1 : ((Go.bits .and .u32 a1 2147483647) != 0) = false := bne_eq_false_iff_eq.mpr c16
                clear c16
                replace H := Option.bind_eq_some_iff.mp H
                obtain ⟨t115, A170, H⟩ := H
                replace H : (some (((t115 + (Go.bits .and .u32 a1 2147483647)) % 4294967296) == 0)) = some true := H
                have A17 := Aside0.mk A170
                clear A170
                have HRT := Aside0.mk (Option.some.inj H)
                clear H
                go_wp2_with (first | (go_at_call 17; (with_reducible refine (serial_Between.calls a0 ((a0 + (Int.tmod a2 (((Go.bits .and .u32 a1 2147483647) + 1) % 4294967296))) % 4294967296) ((a0 + (Go.bits .and .u32 a1 2147483647)) % 4294967296) true _ A14.out).mono ?_); rintro e w' ⟨rfl, ⟨nd, rfl⟩⟩) | (go_at_call 13; (with_reducible refine (serial_Dist.calls ((a0 + (Go.bits .and .u32 a1 2147483647)) % 4294967296) a0 t115 _ A17.out).mono ?_); rintro e w' ⟨rfl, ⟨nd, rfl⟩⟩))
                (try (any_goals (exfalso; simp_all; done)))
                all_goals go_ret
                all_goals exact ⟨by first | rfl | (rw [HRT.out]; done) | (rw [HRT.out]; rfl) | (simp only [HRT.out]; done) | (simp [HRT.out]; done) | (simp; done) | (simp [*]; done), by repeat (first | exact Drawn0.refl _ | apply Drawn0.step)⟩
              · rw [if_neg c16] at H
                have c16b0 : ((Go.bits .and .u32 a1 2147483647) == 0) = false := beq_eq_false_iff_ne.mpr c16
                have c16b1 : ((Go.bits .and .u32 a1 2147483647) != 0) = true := bne_iff_ne.mpr c16
                replace H := Option.bind_eq_some_iff.mp H
                obtain ⟨t116, A180, H⟩ := H
                replace H : (if (t116 == false) = true then ((serial_Dist.f ((a0 + (Go.bits .and .u32 a1 2147483647)) % 4294967296) a0).bind fun t117 => (some (((t117 + (Go.bits .and .u32 a1 2147483647)) % 4294967296) == 0))) else (some false)) = some true := H
                have A18 := Aside0.mk A180
                clear A180
                by_cases c19 : (t116 == false) = true
                · rw [if_pos c19] at H
                  have c19b0 : (t116 == false) = true := c19
                  (try (have c19b1 : decide (t116 = false) = true := by simpa using c19))
                  (try (have c19b2 : (t116 == false) = true := by simpa using c19))
                  clear c19
                  replace H := Option.bind_eq_some_iff.mp H
                  obtain ⟨t117, A200, H⟩ := H
                  replace H : (some (((t117 + (Go.bits .and .u32 a1 2147483647)) % 4294967296) == 0)) = some true := H
                  have A20 := Aside0.mk A200
                  clear A200
                  have HRT := Aside0.mk (Option.some.inj H)
                  clear H
                  go_wp2_with (first | (go_at_call 17; (with_reducible refine (serial_Between.calls a0 ((a0 + (Int.tmod a2 (((Go.bits .and .u32 a1 2147483647) + 1) % 4294967296))) % 4294967296) ((a0 + (Go.bits .and .u32 a1 2147483647)) % 4294967296) true _ A14.out).mono ?_); rintro e w' ⟨rfl, ⟨nd, rfl⟩⟩) | (go_at_call 17; refine calls_of_args (args' := #[.int .u32 a0, .int .u32 ((((a0 + (Go.bits .and .u32 a1 2147483647)) % 4294967296) + 1) % 4294967296), .int .u32 ((a0 + (Go.bits .and .u32 a1 2147483647)) % 4294967296)]) (by first | with_reducible rfl | (simp only [Int.emod_add_emod, Int.add_emod_emod]; done)) ?_; (with_reducible refine (serial_Between.calls a0 ((((a0 + (Go.bits .and .u32 a1 2147483647)) % 4294967296) + 1) % 4294967296) ((a0 + (Go.bits .and .u32 a1 2147483647)) % 4294967296) t116 _ A18.out).mono ?_); rintro e w' ⟨rfl, ⟨nd, rfl⟩⟩) | (go_at_call 13; (with_reducible refine (serial_Dist.calls ((a0 + (Go.bits .and .u32 a1 2147483647)) % 4294967296) a0 t117 _ A20.out).mono ?_); rintro e w' ⟨rfl, ⟨nd, rfl⟩⟩))
                  (try (any_goals (exfalso; simp_all; done)))
                  all_goals go_ret
                  all_goals exact ⟨by first | rfl | (rw [HRT.out]; done) | (rw [HRT.out]; rfl) | (simp only [HRT.out]; done) | (simp [HRT.out]; done) | (simp; done) | (simp [*]; done), by repeat (first | exact Drawn0.refl _ | apply Drawn0.step)⟩
                · rw [if_neg c19] at H
                  have c19b0 : (t116 == false) = false := by simpa using c19
                  (try (have c19b1 : decide (t116 = false) = false := by simpa using c19))
                  (try (have c19b2 : (t116 == false) = false := by simpa using c19))
                  (try (have c19b3 : ¬ (t116 = false) := by simpa using c19))
                  clear c19
                  exact absurd H (by decide)
            · replace c15 := Bool.eq_false_iff.mpr c15
              subst c15
              have H1 : (some false) = some true := by rw [if_neg (show ¬ (false = true) by decide)] at H; exact H
              clear H
              have H := H1
              clear H1
              exact absurd H (by decide)
          · replace c13 := Bool.eq_false_iff.mpr c13
            subst c13
            have H1 : (some false) = some true := by rw [if_neg (show ¬ (false = true) by decide)] at H; exact H
            clear H
            have H := H1
            clear H1
            exact absurd H (by decide)

/-- THE ONE PURE STATEMENT of bollardlaw02_SerialSteps: yours. -/
def bollardlaw02_SerialSteps.Pure : Prop := ∀ (a0 : Int) (a1 : Int) (a2 : Int), (Lit.int .u32 a0).wf = true → (Lit.int .u32 a1).wf = true → (Lit.int .u32 a2).wf = true → ∃ k, bollardlaw02_SerialSteps.f k a0 a1 a2 = some true
theorem bollardlaw02_SerialSteps.walk (P : bollardlaw02_SerialSteps.Pure) (a0 : Int) (a1 : Int) (a2 : Int) (w : World) (w0 : (Lit.int .u32 a0).wf = true) (w1 : (Lit.int .u32 a1).wf = true) (w2 : (Lit.int .u32 a2).wf = true) :
    Calls Try.prog 6 #[.int .u32 a0, .int .u32 a1, .int .u32 a2] w fun e w' => e = .returned (.bool true) ∧ Below w.heap.size w w' := by
  obtain ⟨k, h⟩ := P a0 a1 a2 w0 w1 w2
  refine (bollardlaw02_SerialSteps.calls k a0 a1 a2 w h).mono ?_
  rintro e w' ⟨rfl, hd⟩
  exact ⟨rfl, hd.below⟩

end Go.Proofs.Ytbiolmpoooajpaa.PSerialSteps
