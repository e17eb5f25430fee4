-- Written by a program of this session (wip/mprint.py) after the manner of the kit's print.
import Derived.Test.YtbiolmpoooajpaaPSerialMostx0
namespace Go.Proofs.Ytbiolmpoooajpaa.PSerialMost
open Go.RowKit Go.Proofs.YtbiolmpoooajpaaW.PrintWords Go.Proofs.YtbiolmpoooajpaaW.PrintLast Go.Proofs.YtbiolmpoooajpaaW.PrintMore
attribute [local go_sem] max2_int min2_int max_two min_two max_three min_three max_four min_four   -- for this text's walks alone
set_option linter.unusedVariables false
set_option linter.unusedSimpArgs false

/-! ### serial_less_uint32: function 19 -/
def serial_less_uint32.f (a0 : Int) (a1 : Int) : Option (Bool) := if ((a1 - a0) % 4294967296) = 0 then (some false) else (some (decide (((a1 - a0) % 4294967296) ≤ ((Go.bits .xor .u32 4294967295 0) / 2))))
set_option maxHeartbeats 8000000 in
set_option maxRecDepth 100000 in
theorem serial_less_uint32.calls (a0 : Int) (a1 : Int) (r : Bool) (w : World) (h : serial_less_uint32.f a0 a1 = some r) :
    Calls Try.prog 19 #[.int .u32 a0, .int .u32 a1] w fun e w' => e = .returned (.bool r) ∧ Drawn0 w w' := by
  have H : (if ((a1 - a0) % 4294967296) = 0 then (some false) else (some (decide (((a1 - a0) % 4294967296) ≤ ((Go.bits .xor .u32 4294967295 0) / 2))))) = some r := h
  clear h
  by_cases c3 : ((a1 - a0) % 4294967296) = 0
  · rw [if_pos c3] at H
    have c3b0 : (((a1 - a0) % 4294967296) == 0) = true := beq_iff_eq.mpr c3
    have c3b1 : (((a1 - a0) % 4294967296) != 0) = false := bne_eq_false_iff_eq.mpr c3
    clear c3
    obtain rfl := Option.some.inj H
    go_enter Try.func19, Try.ntmps19
    go_wp2
    go_ret
    exact ⟨by first | rfl | (simp; done) | (simp [*]; done), by repeat (first | exact Drawn0.refl _ | apply Drawn0.step)⟩
  · rw [if_neg c3] at H
    have c3b0 : (((a1 - a0) % 4294967296) == 0) = false := beq_eq_false_iff_ne.mpr c3
    have c3b1 : (((a1 - a0) % 4294967296) != 0) = true := bne_iff_ne.mpr c3
    obtain rfl := Option.some.inj H
    go_enter Try.func19, Try.ntmps19
    go_wp2
    go_ret
    exact ⟨by first | rfl | (simp; done) | (simp [*]; done), by repeat (first | exact Drawn0.refl _ | apply Drawn0.step)⟩

/-! ### serial_Less: function 9 -/
def serial_Less.f (a0 : Int) (a1 : Int) : Option (Bool) := (serial_less_uint32.f a0 a1).bind fun t101 => (some t101)
set_option maxHeartbeats 8000000 in
set_option maxRecDepth 100000 in
theorem serial_Less.calls (a0 : Int) (a1 : Int) (r : Bool) (w : World) (h : serial_Less.f a0 a1 = some r) :
    Calls Try.prog 9 #[.int .u32 a0, .int .u32 a1] w fun e w' => e = .returned (.bool r) ∧ Drawn0 w w' := by
  have H : ((serial_less_uint32.f a0 a1).bind fun t101 => (some t101)) = some r := h
  clear h
  replace H := Option.bind_eq_some_iff.mp H
  obtain ⟨t101, A30, H⟩ := H
  replace H : (some t101) = some r := H
  have A3 := Aside0.mk A30
  clear A30
  obtain rfl := Option.some.inj H
  go_enter Try.func9, Try.ntmps9
  go_wp2_with (first | ((with_reducible refine gate_callee (f := 19) rfl ?_); refine goesL_ (some 7) rfl rfl Try.func19 (by kernel_rfl) rfl #[.int .u32 a0, .int .u32 a1] rfl (by (try simp only [List.map_toArray, List.map_cons, List.map_nil]); first | done | rfl | (simp only [List.length_drop, List.length_take]; rfl)) ?_; (with_reducible refine (serial_less_uint32.calls a0 a1 t101 _ A3.out).mono ?_); rintro e w' ⟨rfl, ⟨nd, rfl⟩⟩; refine ⟨_, rfl, ?_⟩))
  go_ret
  exact ⟨by first | rfl | (simp; done) | (simp [*]; done), by repeat (first | exact Drawn0.refl _ | apply Drawn0.step)⟩

/-! ### serial_less_uint16: function 21 -/
def serial_less_uint16.f (a0 : Int) (a1 : Int) : Option (Bool) := if (IntKind.u16.wrap (a1 - a0)) = 0 then (some false) else (some (decide ((IntKind.u16.wrap (a1 - a0)) ≤ ((Go.bits .xor .u16 65535 0) / 2))))
set_option maxHeartbeats 8000000 in
set_option maxRecDepth 100000 in
theorem serial_less_uint16.calls (a0 : Int) (a1 : Int) (r : Bool) (w : World) (h : serial_less_uint16.f a0 a1 = some r) :
    Calls Try.prog 21 #[.int .u16 a0, .int .u16 a1] w fun e w' => e = .returned (.bool r) ∧ Drawn0 w w' := by
  have H : (if (IntKind.u16.wrap (a1 - a0)) = 0 then (some false) else (some (decide ((IntKind.u16.wrap (a1 - a0)) ≤ ((Go.bits .xor .u16 65535 0) / 2))))) = some r := h
  clear h
  by_cases c3 : (IntKind.u16.wrap (a1 - a0)) = 0
  · rw [if_pos c3] at H
    have c3b0 : ((IntKind.u16.wrap (a1 - a0)) == 0) = true := beq_iff_eq.mpr c3
    have c3b1 : ((IntKind.u16.wrap (a1 - a0)) != 0) = false := bne_eq_false_iff_eq.mpr c3
    clear c3
    obtain rfl := Option.some.inj H
    go_enter Try.func21, Try.ntmps21
    go_wp2
    go_ret
    exact ⟨by first | rfl | (simp; done) | (simp [*]; done), by repeat (first | exact Drawn0.refl _ | apply Drawn0.step)⟩
  · rw [if_neg c3] at H
    have c3b0 : ((IntKind.u16.wrap (a1 - a0)) == 0) = false := beq_eq_false_iff_ne.mpr c3
    have c3b1 : ((IntKind.u16.wrap (a1 - a0)) != 0) = true := bne_iff_ne.mpr c3
    obtain rfl := Option.some.inj H
    go_enter Try.func21, Try.ntmps21
    go_wp2
    go_ret
    exact ⟨by first | rfl | (simp; done) | (simp [*]; done), by repeat (first | exact Drawn0.refl _ | apply Drawn0.step)⟩

/-! ### serial_Less16: function 11 -/
def serial_Less16.f (a0 : Int) (a1 : Int) : Option (Bool) := (serial_less_uint16.f a0 a1).bind fun t102 => (some t102)
set_option maxHeartbeats 8000000 in
set_option maxRecDepth 100000 in
theorem serial_Less16.calls (a0 : Int) (a1 : Int) (r : Bool) (w : World) (h : serial_Less16.f a0 a1 = some r) :
    Calls Try.prog 11 #[.int .u16 a0, .int .u16 a1] w fun e w' => e = .returned (.bool r) ∧ Drawn0 w w' := by
  have H : ((serial_less_uint16.f a0 a1).bind fun t102 => (some t102)) = some r := h
  clear h
  replace H := Option.bind_eq_some_iff.mp H
  obtain ⟨t102, A30, H⟩ := H
  replace H : (some t102) = some r := H
  have A3 := Aside0.mk A30
  clear A30
  obtain rfl := Option.some.inj H
  go_enter Try.func11, Try.ntmps11
  go_wp2_with (first | ((with_reducible refine gate_callee (f := 21) rfl ?_); refine goesL_ (some 7) rfl rfl Try.func21 (by kernel_rfl) rfl #[.int .u16 a0, .int .u16 a1] rfl (by (try simp only [List.map_toArray, List.map_cons, List.map_nil]); first | done | rfl | (simp only [List.length_drop, List.length_take]; rfl)) ?_; (with_reducible refine (serial_less_uint16.calls a0 a1 t102 _ A3.out).mono ?_); rintro e w' ⟨rfl, ⟨nd, rfl⟩⟩; refine ⟨_, rfl, ?_⟩))
  go_ret
  exact ⟨by first | rfl | (simp; done) | (simp [*]; done), by repeat (first | exact Drawn0.refl _ | apply Drawn0.step)⟩

/-! ### serial_Dist: function 13 -/
def serial_Dist.f (a0 : Int) (a1 : Int) : Option (Int) := some ((a1 - a0) % 4294967296)
set_option maxHeartbeats 8000000 in
set_option maxRecDepth 100000 in
theorem serial_Dist.calls (a0 : Int) (a1 : Int) (r : Int) (w : World) (h : serial_Dist.f a0 a1 = some r) :
    Calls Try.prog 13 #[.int .u32 a0, .int .u32 a1] w fun e w' => e = .returned (.int .u32 r) ∧ Drawn0 w w' := by
  have H : (some ((a1 - a0) % 4294967296)) = some r := h
  clear h
  obtain rfl := Option.some.inj H
  go_enter Try.func13, Try.ntmps13
  go_wp2
  go_ret
  exact ⟨by first | rfl | (simp; done) | (simp [*]; done), by repeat (first | exact Drawn0.refl _ | apply Drawn0.step)⟩

/-! ### serial_Max: function 15 -/
def serial_Max.f (a0 : Int) (a1 : Int) : Option (Int) := (serial_less_uint32.f a0 a1).bind fun t103 => (if t103 = true then (some a1) else (some a0))
set_option maxHeartbeats 8000000 in
set_option maxRecDepth 100000 in
theorem serial_Max.calls (a0 : Int) (a1 : Int) (r : Int) (w : World) (h : serial_Max.f a0 a1 = some r) :
    Calls Try.prog 15 #[.int .u32 a0, .int .u32 a1] w fun e w' => e = .returned (.int .u32 r) ∧ Drawn0 w w' := by
  have H : ((serial_less_uint32.f a0 a1).bind fun t103 => (if t103 = true then (some a1) else (some a0))) = some r := h
  clear h
  replace H := Option.bind_eq_some_iff.mp H
  obtain ⟨t103, A30, H⟩ := H
  replace H : (if t103 = true then (some a1) else (some a0)) = some r := H
  have A3 := Aside0.mk A30
  clear A30
  by_cases c4 : t103 = true
  · subst c4
    have H1 : (some a1) = some r := by rw [if_pos rfl] at H; exact H
    clear H
    have H := H1
    clear H1
    obtain rfl := Option.some.inj H
    go_enter Try.func15, Try.ntmps15
    go_wp2_with (first | ((with_reducible refine gate_callee (f := 19) rfl ?_); refine goesL_ (some 7) rfl rfl Try.func19 (by kernel_rfl) rfl #[.int .u32 a0, .int .u32 a1] rfl (by (try simp only [List.map_toArray, List.map_cons, List.map_nil]); first | done | rfl | (simp only [List.length_drop, List.length_take]; rfl)) ?_; (with_reducible refine (serial_less_uint32.calls a0 a1 true _ A3.out).mono ?_); rintro e w' ⟨rfl, ⟨nd, rfl⟩⟩; refine ⟨_, rfl, ?_⟩))
    go_ret
    exact ⟨by first | rfl | (simp; done) | (simp [*]; done), by repeat (first | exact Drawn0.refl _ | apply Drawn0.step)⟩
  · replace c4 := Bool.eq_false_iff.mpr c4
    subst c4
    have H1 : (some a0) = some r := by rw [if_neg (show ¬ (false = true) by decide)] at H; exact H
    clear H
    have H := H1
    clear H1
    obtain rfl := Option.some.inj H
    go_enter Try.func15, Try.ntmps15
    go_wp2_with (first | ((with_reducible refine gate_callee (f := 19) rfl ?_); refine goesL_ (some 7) rfl rfl Try.func19 (by kernel_rfl) rfl #[.int .u32 a0, .int .u32 a1] rfl (by (try simp only [List.map_toArray, List.map_cons, List.map_nil]); first | done | rfl | (simp only [List.length_drop, List.length_take]; rfl)) ?_; (with_reducible refine (serial_less_uint32.calls a0 a1 false _ A3.out).mono ?_); rintro e w' ⟨rfl, ⟨nd, rfl⟩⟩; refine ⟨_, rfl, ?_⟩))
    go_ret
    exact ⟨by first | rfl | (simp; done) | (simp [*]; done), by repeat (first | exact Drawn0.refl _ | apply Drawn0.step)⟩

/-! ### serial_Between: function 17 -/
def serial_Between.f (a0 : Int) (a1 : Int) (a2 : Int) : Option (Bool) := some (decide (((a1 - a0) % 4294967296) ≤ ((a2 - a0) % 4294967296)))
set_option maxHeartbeats 8000000 in
set_option maxRecDepth 100000 in
theorem serial_Between.calls (a0 : Int) (a1 : Int) (a2 : Int) (r : Bool) (w : World) (h : serial_Between.f a0 a1 a2 = some r) :
    Calls Try.prog 17 #[.int .u32 a0, .int .u32 a1, .int .u32 a2] w fun e w' => e = .returned (.bool r) ∧ Drawn0 w w' := by
  have H : (some (decide (((a1 - a0) % 4294967296) ≤ ((a2 - a0) % 4294967296)))) = some r := h
  clear h
  obtain rfl := Option.some.inj H
  go_enter Try.func17, Try.ntmps17
  go_wp2
  go_ret
  exact ⟨by first | rfl | (simp; done) | (simp [*]; done), by repeat (first | exact Drawn0.refl _ | apply Drawn0.step)⟩

/-! ### bollardlaw02_awake: function 8 -/
def bollardlaw02_awake.f  : Option (Bool) := (serial_Less.f 4294967295 0).bind fun t104 => (if t104 = true then ((serial_Less.f 0 4294967295).bind fun t105 => (if t105 = true then (some false) else ((serial_Less16.f 65535 0).bind fun t106 => (if t106 = true then ((serial_Max.f 5 4294967290).bind fun t107 => (if t107 = 5 then ((serial_Between.f 4294967295 1 3).bind fun t108 => (if t108 = true then ((serial_Dist.f 4294967295 1).bind fun t109 => (some (t109 == 2))) else (some false))) else (some false))) else (some false))))) else (some false))
set_option maxHeartbeats 8000000 in
set_option maxRecDepth 100000 in
theorem bollardlaw02_awake.calls  (r : Bool) (w : World) (h : bollardlaw02_awake.f  = some r) :
    Calls Try.prog 8 #[] w fun e w' => e = .returned (.bool r) ∧ Drawn0 w w' := by
  have H : ((serial_Less.f 4294967295 0).bind fun t104 => (if t104 = true then ((serial_Less.f 0 4294967295).bind fun t105 => (if t105 = true then (some false) else ((serial_Less16.f 65535 0).bind fun t106 => (if t106 = true then ((serial_Max.f 5 4294967290).bind fun t107 => (if t107 = 5 then ((serial_Between.f 4294967295 1 3).bind fun t108 => (if t108 = true then ((serial_Dist.f 4294967295 1).bind fun t109 => (some (t109 == 2))) else (some false))) else (some false))) else (some false))))) else (some false))) = some r := h
  clear h
  replace H := Option.bind_eq_some_iff.mp H
  obtain ⟨t104, A10, H⟩ := H
  replace H : (if t104 = true then ((serial_Less.f 0 4294967295).bind fun t105 => (if t105 = true then (some false) else ((serial_Less16.f 65535 0).bind fun t106 => (if t106 = true then ((serial_Max.f 5 4294967290).bind fun t107 => (if t107 = 5 then ((serial_Between.f 4294967295 1 3).bind fun t108 => (if t108 = true then ((serial_Dist.f 4294967295 1).bind fun t109 => (some (t109 == 2))) else (some false))) else (some false))) else (some false))))) else (some false)) = some r := H
  have A1 := Aside0.mk A10
  clear A10
  by_cases c2 : t104 = true
  · subst c2
    have H1 : ((serial_Less.f 0 4294967295).bind fun t105 => (if t105 = true then (some false) else ((serial_Less16.f 65535 0).bind fun t106 => (if t106 = true then ((serial_Max.f 5 4294967290).bind fun t107 => (if t107 = 5 then ((serial_Between.f 4294967295 1 3).bind fun t108 => (if t108 = true then ((serial_Dist.f 4294967295 1).bind fun t109 => (some (t109 == 2))) else (some false))) else (some false))) else (some false))))) = some r := by rw [if_pos rfl] at H; exact H
    clear H
    have H := H1
    clear H1
    replace H := Option.bind_eq_some_iff.mp H
    obtain ⟨t105, A30, H⟩ := H
    replace H : (if t105 = true then (some false) else ((serial_Less16.f 65535 0).bind fun t106 => (if t106 = true then ((serial_Max.f 5 4294967290).bind fun t107 => (if t107 = 5 then ((serial_Between.f 4294967295 1 3).bind fun t108 => (if t108 = true then ((serial_Dist.f 4294967295 1).bind fun t109 => (some (t109 == 2))) else (some false))) else (some false))) else (some false)))) = some r := H
    have A3 := Aside0.mk A30
    clear A30
    by_cases c4 : t105 = true
    · subst c4
      have H1 : (some false) = some r := by rw [if_pos rfl] at H; exact H
      clear H
      have H := H1
      clear H1
      obtain rfl := Option.some.inj H
      go_enter Try.func8, Try.ntmps8
      go_wp2_with (first | ((with_reducible refine gate_callee (f := 9) rfl ?_); refine goesL_ (some 1) rfl rfl Try.func9 (by kernel_rfl) rfl #[.int .u32 4294967295, .int .u32 0] rfl (by (try simp only [List.map_toArray, List.map_cons, List.map_nil]); first | done | rfl | (simp only [List.length_drop, List.length_take]; rfl)) ?_; (with_reducible refine (serial_Less.calls 4294967295 0 true _ A1.out).mono ?_); rintro e w' ⟨rfl, ⟨nd, rfl⟩⟩; refine ⟨_, rfl, ?_⟩) | (go_at_call 9; (with_reducible refine (serial_Less.calls 0 4294967295 true _ A3.out).mono ?_); rintro e w' ⟨rfl, ⟨nd, rfl⟩⟩))
      go_ret
      exact ⟨by first | rfl | (simp; done) | (simp [*]; done), by repeat (first | exact Drawn0.refl _ | apply Drawn0.step)⟩
    · replace c4 := Bool.eq_false_iff.mpr c4
      subst c4
      have H1 : ((serial_Less16.f 65535 0).bind fun t106 => (if t106 = true then ((serial_Max.f 5 4294967290).bind fun t107 => (if t107 = 5 then ((serial_Between.f 4294967295 1 3).bind fun t108 => (if t108 = true then ((serial_Dist.f 4294967295 1).bind fun t109 => (some (t109 == 2))) else (some false))) else (some false))) else (some false))) = some r := by rw [if_neg (show ¬ (false = true) by decide)] at H; exact H
      clear H
      have H := H1
      clear H1
      replace H := Option.bind_eq_some_iff.mp H
      obtain ⟨t106, A50, H⟩ := H
      replace H : (if t106 = true then ((serial_Max.f 5 4294967290).bind fun t107 => (if t107 = 5 then ((serial_Between.f 4294967295 1 3).bind fun t108 => (if t108 = true then ((serial_Dist.f 4294967295 1).bind fun t109 => (some (t109 == 2))) else (some false))) else (some false))) else (some false)) = some r := H
      have A5 := Aside0.mk A50
      clear A50
      by_cases c6 : t106 = true
      · subst c6
        have H1 : ((serial_Max.f 5 4294967290).bind fun t107 => (if t107 = 5 then ((serial_Between.f 4294967295 1 3).bind fun t108 => (if t108 = true then ((serial_Dist.f 4294967295 1).bind fun t109 => (some (t109 == 2))) else (some false))) else (some false))) = some r := by rw [if_pos rfl] at H; exact H
        clear H
        have H := H1
        clear H1
        replace H := Option.bind_eq_some_iff.mp H
        obtain ⟨t107, A70, H⟩ := H
        replace H : (if t107 = 5 then ((serial_Between.f 4294967295 1 3).bind fun t108 => (if t108 = true then ((serial_Dist.f 4294967295 1).bind fun t109 => (some (t109 == 2))) else (some false))) else (some false)) = some r := H
        have A7 := Aside0.mk A70
        clear A70
        by_cases c8 : t107 = 5
        · rw [if_pos c8] at H
          have c8b0 : (t107 == 5) = true := beq_iff_eq.mpr c8
          have c8b1 : (t107 != 5) = false := bne_eq_false_iff_eq.mpr c8
          clear c8
          replace H := Option.bind_eq_some_iff.mp H
          obtain ⟨t108, A90, H⟩ := H
          replace H : (if t108 = true then ((serial_Dist.f 4294967295 1).bind fun t109 => (some (t109 == 2))) else (some false)) = some r := H
          have A9 := Aside0.mk A90
          clear A90
          by_cases c10 : t108 = true
          · subst c10
            have H1 : ((serial_Dist.f 4294967295 1).bind fun t109 => (some (t109 == 2))) = some r := by rw [if_pos rfl] at H; exact H
            clear H
            have H := H1
            clear H1
            replace H := Option.bind_eq_some_iff.mp H
            obtain ⟨t109, A110, H⟩ := H
            replace H : (some (t109 == 2)) = some r := H
            have A11 := Aside0.mk A110
            clear A110
            obtain rfl := Option.some.inj H
            go_enter Try.func8, Try.ntmps8
            go_wp2_with (first | ((with_reducible refine gate_callee (f := 9) rfl ?_); refine goesL_ (some 1) rfl rfl Try.func9 (by kernel_rfl) rfl #[.int .u32 4294967295, .int .u32 0] rfl (by (try simp only [List.map_toArray, List.map_cons, List.map_nil]); first | done | rfl | (simp only [List.length_drop, List.length_take]; rfl)) ?_; (with_reducible refine (serial_Less.calls 4294967295 0 true _ A1.out).mono ?_); rintro e w' ⟨rfl, ⟨nd, rfl⟩⟩; refine ⟨_, rfl, ?_⟩) | (go_at_call 9; (with_reducible refine (serial_Less.calls 0 4294967295 false _ A3.out).mono ?_); rintro e w' ⟨rfl, ⟨nd, rfl⟩⟩) | (go_at_call 11; (with_reducible refine (serial_Less16.calls 65535 0 true _ A5.out).mono ?_); rintro e w' ⟨rfl, ⟨nd, rfl⟩⟩) | (go_at_call 15; (with_reducible refine (serial_Max.calls 5 4294967290 t107 _ A7.out).mono ?_); rintro e w' ⟨rfl, ⟨nd, rfl⟩⟩) | (go_at_call 17; (with_reducible refine (serial_Between.calls 4294967295 1 3 true _ A9.out).mono ?_); rintro e w' ⟨rfl, ⟨nd, rfl⟩⟩) | (go_at_call 13; (with_reducible refine (serial_Dist.calls 4294967295 1 t109 _ A11.out).mono ?_); rintro e w' ⟨rfl, ⟨nd, rfl⟩⟩))
            go_ret
            exact ⟨by first | rfl | (simp; done) | (simp [*]; done), by repeat (first | exact Drawn0.refl _ | apply Drawn0.step)⟩
          · replace c10 := Bool.eq_false_iff.mpr c10
            subst c10
            have H1 : (some false) = some r := by rw [if_neg (show ¬ (false = true) by decide)] at H; exact H
            clear H
            have H := H1
            clear H1
            obtain rfl := Option.some.inj H
            go_enter Try.func8, Try.ntmps8
            go_wp2_with (first | ((with_reducible refine gate_callee (f := 9) rfl ?_); refine goesL_ (some 1) rfl rfl Try.func9 (by kernel_rfl) rfl #[.int .u32 4294967295, .int .u32 0] rfl (by (try simp only [List.map_toArray, List.map_cons, List.map_nil]); first | done | rfl | (simp only [List.length_drop, List.length_take]; rfl)) ?_; (with_reducible refine (serial_Less.calls 4294967295 0 true _ A1.out).mono ?_); rintro e w' ⟨rfl, ⟨nd, rfl⟩⟩; refine ⟨_, rfl, ?_⟩) | (go_at_call 9; (with_reducible refine (serial_Less.calls 0 4294967295 false _ A3.out).mono ?_); rintro e w' ⟨rfl, ⟨nd, rfl⟩⟩) | (go_at_call 11; (with_reducible refine (serial_Less16.calls 65535 0 true _ A5.out).mono ?_); rintro e w' ⟨rfl, ⟨nd, rfl⟩⟩) | (go_at_call 15; (with_reducible refine (serial_Max.calls 5 4294967290 t107 _ A7.out).mono ?_); rintro e w' ⟨rfl, ⟨nd, rfl⟩⟩) | (go_at_call 17; (with_reducible refine (serial_Between.calls 4294967295 1 3 false _ A9.out).mono ?_); rintro e w' ⟨rfl, ⟨nd, rfl⟩⟩))
            go_ret
            exact ⟨by first | rfl | (simp; done) | (simp [*]; done), by repeat (first | exact Drawn0.refl _ | apply Drawn0.step)⟩
        · rw [if_neg c8] at H
          have c8b0 : (t107 == 5) = false := beq_eq_false_iff_ne.mpr c8
          have c8b1 : (t107 != 5) = true := bne_iff_ne.mpr c8
          obtain rfl := Option.some.inj H
          go_enter Try.func8, Try.ntmps8
          go_wp2_with (first | ((with_reducible refine gate_callee (f := 9) rfl ?_); refine goesL_ (some 1) rfl rfl Try.func9 (by kernel_rfl) rfl #[.int .u32 4294967295, .int .u32 0] rfl (by (try simp only [List.map_toArray, List.map_cons, List.map_nil]); first | done | rfl | (simp only [List.length_drop, List.length_take]; rfl)) ?_; (with_reducible refine (serial_Less.calls 4294967295 0 true _ A1.out).mono ?_); rintro e w' ⟨rfl, ⟨nd, rfl⟩⟩; refine ⟨_, rfl, ?_⟩) | (go_at_call 9; (with_reducible refine (serial_Less.calls 0 4294967295 false _ A3.out).mono ?_); rintro e w' ⟨rfl, ⟨nd, rfl⟩⟩) | (go_at_call 11; (with_reducible refine (serial_Less16.calls 65535 0 true _ A5.out).mono ?_); rintro e w' ⟨rfl, ⟨nd, rfl⟩⟩) | (go_at_call 15; (with_reducible refine (serial_Max.calls 5 4294967290 t107 _ A7.out).mono ?_); rintro e w' ⟨rfl, ⟨nd, rfl⟩⟩))
          go_ret
          exact ⟨by first | rfl | (simp; done) | (simp [*]; done), by repeat (first | exact Drawn0.refl _ | apply Drawn0.step)⟩
      · replace c6 := Bool.eq_false_iff.mpr c6
        subst c6
        have H1 : (some false) = some r := by rw [if_neg (show ¬ (false = true) by decide)] at H; exact H
        clear H
        have H := H1
        clear H1
        obtain rfl := Option.some.inj H
        go_enter Try.func8, Try.ntmps8
        go_wp2_with (first | ((with_reducible refine gate_callee (f := 9) rfl ?_); refine goesL_ (some 1) rfl rfl Try.func9 (by kernel_rfl) rfl #[.int .u32 4294967295, .int .u32 0] rfl (by (try simp only [List.map_toArray, List.map_cons, List.map_nil]); first | done | rfl | (simp only [List.length_drop, List.length_take]; rfl)) ?_; (with_reducible refine (serial_Less.calls 4294967295 0 true _ A1.out).mono ?_); rintro e w' ⟨rfl, ⟨nd, rfl⟩⟩; refine ⟨_, rfl, ?_⟩) | (go_at_call 9; (with_reducible refine (serial_Less.calls 0 4294967295 false _ A3.out).mono ?_); rintro e w' ⟨rfl, ⟨nd, rfl⟩⟩) | (go_at_call 11; (with_reducible refine (serial_Less16.calls 65535 0 false _ A5.out).mono ?_); rintro e w' ⟨rfl, ⟨nd, rfl⟩⟩))
        go_ret
        exact ⟨by first | rfl | (simp; done) | (simp [*]; done), by repeat (first | exact Drawn0.refl _ | apply Drawn0.step)⟩
  · replace c2 := Bool.eq_false_iff.mpr c2
    subst c2
    have H1 : (some false) = some r := by rw [if_neg (show ¬ (false = true) by decide)] at H; exact H
    clear H
    have H := H1
    clear H1
    obtain rfl := Option.some.inj H
    go_enter Try.func8, Try.ntmps8
    go_wp2_with (first | ((with_reducible refine gate_callee (f := 9) rfl ?_); refine goesL_ (some 1) rfl rfl Try.func9 (by kernel_rfl) rfl #[.int .u32 4294967295, .int .u32 0] rfl (by (try simp only [List.map_toArray, List.map_cons, List.map_nil]); first | done | rfl | (simp only [List.length_drop, List.length_take]; rfl)) ?_; (with_reducible refine (serial_Less.calls 4294967295 0 false _ A1.out).mono ?_); rintro e w' ⟨rfl, ⟨nd, rfl⟩⟩; refine ⟨_, rfl, ?_⟩))
    go_ret
    exact ⟨by first | rfl | (simp; done) | (simp [*]; done), by repeat (first | exact Drawn0.refl _ | apply Drawn0.step)⟩

/-! ### bollardlaw02_SerialMost: function 7 -/
def bollardlaw02_SerialMost.l0 : Nat → Int → List Int → Bool → Int → Int → Int → Option (Bool)
  | 0, _, _, _, _, _, _ => none
  | k + 1, x0, x1, x5, x6, x7, x8 => if x8 < (x1.length : Int) then (if 0 ≤ x8 then ((serial_Max.f x6 ((x0 + (Go.bits .and .u32 (rd x1 x8) 1073741823)) % 4294967296)).bind fun t112 => (bollardlaw02_SerialMost.l0 k x0 x1 x5 t112 (mx x7 (Go.bits .and .u32 (rd x1 x8) 1073741823)) (wrap64 (x8 + 1)))) else (none)) else (if x5 = true then ((serial_Dist.f x0 x6).bind fun t113 => (some (t113 == x7))) else (some false))
def bollardlaw02_SerialMost.f (k : Nat) (a0 : Int) (l1 : List Int) : Option (Bool) := (bollardlaw02_awake.f).bind fun t110 => (if (l1.length : Int) > 500 then (some t110) else (bollardlaw02_SerialMost.l0 k a0 l1 t110 a0 0 0))
theorem bollardlaw02_SerialMost.mono_l : ∀ k, (∀ y0 y1 y2 y3 y4 y5, LeO (bollardlaw02_SerialMost.l0 k y0 y1 y2 y3 y4 y5) (bollardlaw02_SerialMost.l0 (k + 1) y0 y1 y2 y3 y4 y5))
  | 0 => fun _ _ _ _ _ _ r h => by simp [bollardlaw02_SerialMost.l0] at h
  | k + 1 => by
    have ih0 := bollardlaw02_SerialMost.mono_l k
    · intro y0 y1 y2 y3 y4 y5
      unfold bollardlaw02_SerialMost.l0
      repeat' first
      | (with_reducible exact ih0 _ _ _ _ _ _)
      | (with_reducible exact LeO.refl _)
      | (with_reducible exact LeO.none _)
      | (with_reducible refine LeO.ite ?_ ?_)
      | (with_reducible refine LeO.bind ?_ (fun _ => ?_))
      | exact ih0 _ _ _ _ _ _
      | exact LeO.none _
      | refine LeO.ite ?_ ?_
      | refine LeO.bind ?_ (fun _ => ?_)
theorem bollardlaw02_SerialMost.mono : ∀ a0 a1 k, LeO (bollardlaw02_SerialMost.f k a0 a1) (bollardlaw02_SerialMost.f (k + 1) a0 a1) := by
  intro a0 a1 k
  have ih0 := bollardlaw02_SerialMost.mono_l k
  unfold bollardlaw02_SerialMost.f
  repeat' first
      | (with_reducible exact ih0 _ _ _ _ _ _)
      | (with_reducible exact LeO.refl _)
      | (with_reducible exact LeO.none _)
      | (with_reducible refine LeO.ite ?_ ?_)
      | (with_reducible refine LeO.bind ?_ (fun _ => ?_))
      | exact ih0 _ _ _ _ _ _
      | exact LeO.none _
      | refine LeO.ite ?_ ?_
      | refine LeO.bind ?_ (fun _ => ?_)
set_option maxHeartbeats 8000000 in
set_option maxRecDepth 100000 in
theorem bollardlaw02_SerialMost.calls (k : Nat) (a0 : Int) (A1 : Option Addr) (c1 : Nat) (l1 : List Int) (r : Bool) (w : World) (hr1 : Kd.C (Kd.int .u32) w A1 l1.length l1) (hc1 : l1.length ≤ c1) (h : bollardlaw02_SerialMost.f k a0 l1 = some r) :
    Calls Try.prog 7 #[.int .u32 a0, .slice A1 l1.length c1] w fun e w' => e = .returned (.bool r) ∧ Below w.heap.size w w' := by
  have HR1 := Aside0.mk hr1
  have HC1 := Aside0.mk hc1
  clear hr1 hc1
  have HB := Aside0.mk (Below.refl w.heap.size w)
  have H : ((bollardlaw02_awake.f).bind fun t110 => (if (l1.length : Int) > 500 then (some t110) else (bollardlaw02_SerialMost.l0 k a0 l1 t110 a0 0 0))) = some r := h
  clear h
  replace H := Option.bind_eq_some_iff.mp H
  obtain ⟨t110, A30, H⟩ := H
  replace H : (if (l1.length : Int) > 500 then (some t110) else (bollardlaw02_SerialMost.l0 k a0 l1 t110 a0 0 0)) = some r := H
  have A3 := Aside0.mk A30
  clear A30
  by_cases c4 : (l1.length : Int) > 500
  · rw [if_pos c4] at H
    have c4b0 : decide (500 < (l1.length : Int)) = true := decide_eq_true c4
    have c4b1 : decide (500 < l1.length) = true := decide_eq_true (by omega)
    clear c4
    obtain rfl := Option.some.inj H
    go_enter Try.func7, Try.ntmps7
    go_wp2_with (first | ((with_reducible refine gate_callee (f := 8) rfl ?_); refine goesL_ (some 10) rfl rfl Try.func8 (by kernel_rfl) rfl #[] rfl (by (try simp only [List.map_toArray, List.map_cons, List.map_nil]); first | done | rfl | (simp only [List.length_drop, List.length_take]; rfl)) ?_; (with_reducible refine (bollardlaw02_awake.calls  t110 _ A3.out).mono ?_); rintro e w' ⟨rfl, ⟨nd, rfl⟩⟩; refine ⟨_, rfl, ?_⟩))
    go_ret
    exact ⟨by first | rfl | (simp [errW_none, errW_some] <;> rfl) | (simp [*, errW_none, errW_some] <;> rfl), by repeat (first | (with_reducible first | exact HB.out | apply below_alloc | apply pw_below_drewN | apply below_drew1) | exact HB.out)⟩
  · rw [if_neg c4] at H
    have c4b0 : decide (500 < (l1.length : Int)) = false := decide_eq_false c4
    have c4b1 : decide (500 < l1.length) = false := decide_eq_false (by omega)
    clear c4
    have H' := Aside0.mk H
    clear H
    go_enter Try.func7, Try.ntmps7
    go_wp2_with (first | ((with_reducible refine gate_callee (f := 8) rfl ?_); refine goesL_ (some 10) rfl rfl Try.func8 (by kernel_rfl) rfl #[] rfl (by (try simp only [List.map_toArray, List.map_cons, List.map_nil]); first | done | rfl | (simp only [List.length_drop, List.length_take]; rfl)) ?_; (with_reducible refine (bollardlaw02_awake.calls  t110 _ A3.out).mono ?_); rintro e w' ⟨rfl, ⟨nd, rfl⟩⟩; refine ⟨_, rfl, ?_⟩))
    go_loopg [6, 7, 8] k (fun kq v6 v7 v8 w' => ∃ (x6_1 : Int) (x7_1 : Int) (x8_1 : Int), v6 = .int .u32 x6_1 ∧ v7 = .int .u32 x7_1 ∧ v8 = .int .i64 x8_1 ∧ Aside0 (bollardlaw02_SerialMost.l0 kq a0 l1 t110 x6_1 x7_1 x8_1 = some r) ∧ Aside0 (kq ≤ k) ∧ Aside0 (Below w.heap.size w w'))
    case atStart => exact ⟨(a0), (0), (0), (by first | rfl | (simp; done) | (simp [*]; done)), (by first | rfl | (simp; done) | (simp [*]; done)), (by first | rfl | (simp; done) | (simp [*]; done)), H', ⟨Nat.le_refl _⟩, ⟨by repeat (first | (with_reducible first | exact HB.out | apply below_alloc | apply pw_below_drewN | apply below_drew1) | exact HB.out)⟩⟩
    case round =>
      clear H'
      try clear c1
      try clear p2
      try clear c4
      try clear c4b0
      try clear c4b1
      obtain ⟨x6_1, x7_1, x8_1, rfl, rfl, rfl, HA, HK1, HB⟩ := hrel
      cases gk with
      | zero => exact absurd HA.out (by simp [bollardlaw02_SerialMost.l0])
      | succ k1 =>
        have H := HA.out
        clear HA
        simp only [bollardlaw02_SerialMost.l0] at H
        by_cases c5 : x8_1 < (l1.length : Int)
        · rw [if_pos c5] at H
          have c5b0 : decide (x8_1 < (l1.length : Int)) = true := decide_eq_true c5
          clear c5
          by_cases c6 : 0 ≤ x8_1
          · rw [if_pos c6] at H
            have c6b0 : decide (0 ≤ x8_1) = true := decide_eq_true c6
            clear c6
            replace H := Option.bind_eq_some_iff.mp H
            obtain ⟨t112, A70, H⟩ := H
            replace H : (bollardlaw02_SerialMost.l0 k1 a0 l1 t110 t112 (mx x7_1 (Go.bits .and .u32 (rd l1 x8_1) 1073741823)) (wrap64 (x8_1 + 1))) = some r := H
            have A7 := Aside0.mk A70
            clear A70
            obtain ⟨ji8, hji8⟩ : ∃ j_ : Int, (mx x7_1 (Go.bits .and .u32 (rd l1 x8_1) 1073741823)) = j_ := ⟨_, rfl⟩
            replace H : (bollardlaw02_SerialMost.l0 k1 a0 l1 t110 t112 ji8 (wrap64 (x8_1 + 1))) = some r := by first | (rw [hji8] at H; exact H) | (simp only [hji8] at H ⊢; exact H)
            (try rw [hji8] at A7)
            have hji8_ : (if x7_1 < (Go.bits .and .u32 (rd l1 x8_1) 1073741823) then (Go.bits .and .u32 (rd l1 x8_1) 1073741823) else x7_1) = ji8 := hji8
            have H' := Aside0.mk H
            clear H
            have p111 : 0 ≤ (x8_1 : Int) := of_decide_eq_true (by first | (with_reducible assumption) | assumption)
            have q111 : x8_1 < (l1.length : Int) := of_decide_eq_true (by first | (with_reducible assumption) | assumption)
            obtain ⟨ad111, e111, hx111_0⟩ := Kd.at_int HR1.out x8_1 p111 q111
            cases e111
            replace hx111_0 := (HB.out.cell (World.block_lt_of_cell? w _ hx111_0)).trans hx111_0
            replace p111 := eq_true p111
            replace q111 := eq_true q111
            go_wp2_with (first | ((with_reducible refine gate_callee (f := 15) rfl ?_); refine goesL_ (some 31) rfl rfl Try.func15 (by kernel_rfl) rfl #[.int .u32 x6_1, .int .u32 ((a0 + (Go.bits .and .u32 (rd l1 x8_1) 1073741823)) % 4294967296)] rfl (by (try simp only [List.map_toArray, List.map_cons, List.map_nil]); first | done | rfl | (simp only [List.length_drop, List.length_take]; rfl)) ?_; (with_reducible refine (serial_Max.calls x6_1 ((a0 + (Go.bits .and .u32 (rd l1 x8_1) 1073741823)) % 4294967296) t112 _ A7.out).mono ?_); rintro e w' ⟨rfl, ⟨nd, rfl⟩⟩; refine ⟨_, rfl, ?_⟩))
            go_roundg k1
            case measure => have := HK1.out; omega
            case rel => exact ⟨(t112), (ji8), (wrap64 (x8_1 + 1)), (by first | rfl | (simp; done) | (simp [*]; done)), (by first | rfl | (simp; done) | (simp only [← hji8] <;> (first | rfl | simp)) | (simp [*]; done)), (by first | rfl | (simp; done) | (simp [*]; done)), H', ⟨by have := HK1.out; omega⟩, ⟨by repeat (first | (with_reducible first | exact HB.out | apply below_alloc | apply pw_below_drewN | apply below_drew1) | exact HB.out)⟩⟩
          · rw [if_neg c6] at H
            exact absurd H (by simp)
        · rw [if_neg c5] at H
          have c5b0 : decide (x8_1 < (l1.length : Int)) = false := decide_eq_false c5
          clear c5
          by_cases c9 : t110 = true
          · subst c9
            have H1 : ((serial_Dist.f a0 x6_1).bind fun t113 => (some (t113 == x7_1))) = some r := by rw [if_pos rfl] at H; exact H
            clear H
            have H := H1
            clear H1
            replace H := Option.bind_eq_some_iff.mp H
            obtain ⟨t113, A100, H⟩ := H
            replace H : (some (t113 == x7_1)) = some r := H
            have A10 := Aside0.mk A100
            clear A100
            obtain rfl := Option.some.inj H
            go_wp2_with (first | (go_at_call 13; (with_reducible refine (serial_Dist.calls a0 x6_1 t113 _ A10.out).mono ?_); rintro e w' ⟨rfl, ⟨nd, rfl⟩⟩))
            go_ret
            exact ⟨by first | rfl | (simp [errW_none, errW_some] <;> rfl) | (simp [*, errW_none, errW_some] <;> rfl), by repeat (first | (with_reducible first | exact HB.out | apply below_alloc | apply pw_below_drewN | apply below_drew1) | exact HB.out)⟩
          · replace c9 := Bool.eq_false_iff.mpr c9
            subst c9
            have H1 : (some false) = some r := by rw [if_neg (show ¬ (false = true) by decide)] at H; exact H
            clear H
            have H := H1
            clear H1
            obtain rfl := Option.some.inj H
            go_wp2
            go_ret
            exact ⟨by first | rfl | (simp [errW_none, errW_some] <;> rfl) | (simp [*, errW_none, errW_some] <;> rfl), by repeat (first | (with_reducible first | exact HB.out | apply below_alloc | apply pw_below_drewN | apply below_drew1) | exact HB.out)⟩

/-- THE ONE PURE STATEMENT of bollardlaw02_SerialMost: yours. -/
def bollardlaw02_SerialMost.Pure : Prop := ∀ (a0 : Int) (l1 : List Int), (Lit.int .u32 a0).wf = true → l1.length ≤ maxLen → l1.length * 4 ≤ 140737488351232 → (∀ x ∈ l1, (Lit.int .u32 x).wf = true) → ∃ k, bollardlaw02_SerialMost.f k a0 l1 = some true
theorem bollardlaw02_SerialMost.walk (P : bollardlaw02_SerialMost.Pure) (a0 : Int) (a1 : Option Addr) (len1 cap1 : Nat) (z1 : List Int) (w : World) (w0 : (Lit.int .u32 a0).wf = true) (w1 : (a1 = none ∧ len1 = 0 ∧ cap1 = 0 ∧ z1 = []) ∨ ∃ x, a1 = some x ∧ len1 ≤ cap1 ∧ cap1 ≤ maxLen ∧ z1.length = cap1 ∧ (∀ i, i < z1.length → w.cell? (x.add i) = some (.int .u32 (z1.getD i 0))) ∧ ∀ n ∈ z1, (Lit.int .u32 n).wf = true) (y1 : len1 * 4 ≤ 140737488351232) :
    Calls Try.prog 7 #[.int .u32 a0, .slice a1 len1 cap1] w fun e w' => e = .returned (.bool true) ∧ Below w.heap.size w w' := by
  obtain ⟨l1, rfl, hr1, hm1, hw1, hc1⟩ := ReadsInt.ofRowC w1
  obtain ⟨k, h⟩ := P a0 l1 w0 hm1 y1 hw1
  refine (bollardlaw02_SerialMost.calls k a0 _ _ l1 true w (Kd.C_of_reads (d := (0 : Int)) (h1 := fun _ => rfl) hr1) hc1 h).mono ?_
  rintro e w' ⟨rfl, hd⟩
  exact ⟨rfl, hd⟩

end Go.Proofs.Ytbiolmpoooajpaa.PSerialMost
