-- PRINTED BY print.sh 35421559b90ae4d0a3588c463048766b98c2df88dd9212a6774a882060cdf62d: not written by this session
import Derived.Test.YtbnmpopcnpjjdaaPSerialLaterx0
namespace Go.Proofs.Ytbnmpopcnpjjdaa.PSerialLater
open Go.RowKit Go.Proofs.YtbnmpopcnpjjdaaW.PrintWords Go.Proofs.YtbnmpopcnpjjdaaW.PrintLast Go.Proofs.YtbnmpopcnpjjdaaW.PrintMore
attribute [local go_sem] max2_int min2_int max_two min_two max_three min_three max_four min_four   -- for this text's walks alone
set_option linter.unusedVariables false
set_option linter.unusedSimpArgs false

/-! ### serial_Later: function 15 -/
def serial_Later.f (a0 : Int) (a1 : Int) : Option (Bool) := if ((a0 - a1) % 4294967296) > 0 then (some (decide (((a0 - a1) % 4294967296) < 2147483648))) else (some false)
set_option maxHeartbeats 8000000 in
set_option maxRecDepth 100000 in
theorem serial_Later.calls (a0 : Int) (a1 : Int) (r : Bool) (w : World) (h : serial_Later.f a0 a1 = some r) :
    Calls Try.prog 15 #[.int .u32 a0, .int .u32 a1] w fun e w' => e = .returned (.bool r) ∧ Drawn0 w w' := by
  have H : (if ((a0 - a1) % 4294967296) > 0 then (some (decide (((a0 - a1) % 4294967296) < 2147483648))) else (some false)) = some r := h
  clear h
  by_cases c3 : ((a0 - a1) % 4294967296) > 0
  · rw [if_pos c3] at H
    have c3b0 : decide (0 < ((a0 - a1) % 4294967296)) = true := decide_eq_true c3
    clear c3
    obtain rfl := Option.some.inj H
    go_enter Try.func15, Try.ntmps15
    go_wp2
    go_ret
    exact ⟨by first | rfl | (simp; done) | (simp [*]; done), by repeat (first | exact Drawn0.refl _ | apply Drawn0.step)⟩
  · rw [if_neg c3] at H
    have c3b0 : decide (0 < ((a0 - a1) % 4294967296)) = false := decide_eq_false c3
    clear c3
    obtain rfl := Option.some.inj H
    go_enter Try.func15, Try.ntmps15
    go_wp2
    go_ret
    exact ⟨by first | rfl | (simp; done) | (simp [*]; done), by repeat (first | exact Drawn0.refl _ | apply Drawn0.step)⟩

/-! ### serial_Apart: function 16 -/
def serial_Apart.f (a0 : Int) (a1 : Int) : Option (Bool) := some (((a0 - a1) % 4294967296) == 2147483648)
set_option maxHeartbeats 8000000 in
set_option maxRecDepth 100000 in
theorem serial_Apart.calls (a0 : Int) (a1 : Int) (r : Bool) (w : World) (h : serial_Apart.f a0 a1 = some r) :
    Calls Try.prog 16 #[.int .u32 a0, .int .u32 a1] w fun e w' => e = .returned (.bool r) ∧ Drawn0 w w' := by
  have H : (some (((a0 - a1) % 4294967296) == 2147483648)) = some r := h
  clear h
  obtain rfl := Option.some.inj H
  go_enter Try.func16, Try.ntmps16
  go_wp2
  go_ret
  exact ⟨by first | rfl | (simp; done) | (simp [*]; done), by repeat (first | exact Drawn0.refl _ | apply Drawn0.step)⟩

/-! ### bolterlaw06_awake: function 14 -/
def bolterlaw06_awake.f  : Option (Bool) := (serial_Later.f 1 4294967295).bind fun t101 => (if t101 = true then ((serial_Later.f 2147483648 0).bind fun t102 => (if t102 = true then (some false) else ((serial_Apart.f 2147483648 0).bind fun t103 => (some t103)))) else (some false))
set_option maxHeartbeats 8000000 in
set_option maxRecDepth 100000 in
theorem bolterlaw06_awake.calls  (r : Bool) (w : World) (h : bolterlaw06_awake.f  = some r) :
    Calls Try.prog 14 #[] w fun e w' => e = .returned (.bool r) ∧ Drawn0 w w' := by
  have H : ((serial_Later.f 1 4294967295).bind fun t101 => (if t101 = true then ((serial_Later.f 2147483648 0).bind fun t102 => (if t102 = true then (some false) else ((serial_Apart.f 2147483648 0).bind fun t103 => (some t103)))) else (some false))) = some r := h
  clear h
  replace H := Option.bind_eq_some_iff.mp H
  obtain ⟨t101, A10, H⟩ := H
  replace H : (if t101 = true then ((serial_Later.f 2147483648 0).bind fun t102 => (if t102 = true then (some false) else ((serial_Apart.f 2147483648 0).bind fun t103 => (some t103)))) else (some false)) = some r := H
  have A1 := Aside0.mk A10
  clear A10
  by_cases c2 : t101 = true
  · subst c2
    have H1 : ((serial_Later.f 2147483648 0).bind fun t102 => (if t102 = true then (some false) else ((serial_Apart.f 2147483648 0).bind fun t103 => (some t103)))) = some r := by rw [if_pos rfl] at H; exact H
    clear H
    have H := H1
    clear H1
    replace H := Option.bind_eq_some_iff.mp H
    obtain ⟨t102, A30, H⟩ := H
    replace H : (if t102 = true then (some false) else ((serial_Apart.f 2147483648 0).bind fun t103 => (some t103))) = some r := H
    have A3 := Aside0.mk A30
    clear A30
    by_cases c4 : t102 = true
    · subst c4
      have H1 : (some false) = some r := by rw [if_pos rfl] at H; exact H
      clear H
      have H := H1
      clear H1
      obtain rfl := Option.some.inj H
      go_enter Try.func14, Try.ntmps14
      go_wp2_with (first | ((with_reducible refine gate_callee (f := 15) rfl ?_); refine goesL_ (some 1) rfl rfl Try.func15 (by kernel_rfl) rfl #[.int .u32 1, .int .u32 4294967295] rfl (by (try simp only [List.map_toArray, List.map_cons, List.map_nil]); first | done | rfl | (simp only [List.length_drop, List.length_take]; rfl)) ?_; (with_reducible refine (serial_Later.calls 1 4294967295 true _ A1.out).mono ?_); rintro e w' ⟨rfl, ⟨nd, rfl⟩⟩; refine ⟨_, rfl, ?_⟩) | (go_at_call 15; (with_reducible refine (serial_Later.calls 2147483648 0 true _ A3.out).mono ?_); rintro e w' ⟨rfl, ⟨nd, rfl⟩⟩))
      go_ret
      exact ⟨by first | rfl | (simp; done) | (simp [*]; done), by repeat (first | exact Drawn0.refl _ | apply Drawn0.step)⟩
    · replace c4 := Bool.eq_false_iff.mpr c4
      subst c4
      have H1 : ((serial_Apart.f 2147483648 0).bind fun t103 => (some t103)) = some r := by rw [if_neg (show ¬ (false = true) by decide)] at H; exact H
      clear H
      have H := H1
      clear H1
      replace H := Option.bind_eq_some_iff.mp H
      obtain ⟨t103, A50, H⟩ := H
      replace H : (some t103) = some r := H
      have A5 := Aside0.mk A50
      clear A50
      obtain rfl := Option.some.inj H
      go_enter Try.func14, Try.ntmps14
      go_wp2_with (first | ((with_reducible refine gate_callee (f := 15) rfl ?_); refine goesL_ (some 1) rfl rfl Try.func15 (by kernel_rfl) rfl #[.int .u32 1, .int .u32 4294967295] rfl (by (try simp only [List.map_toArray, List.map_cons, List.map_nil]); first | done | rfl | (simp only [List.length_drop, List.length_take]; rfl)) ?_; (with_reducible refine (serial_Later.calls 1 4294967295 true _ A1.out).mono ?_); rintro e w' ⟨rfl, ⟨nd, rfl⟩⟩; refine ⟨_, rfl, ?_⟩) | (go_at_call 15; (with_reducible refine (serial_Later.calls 2147483648 0 false _ A3.out).mono ?_); rintro e w' ⟨rfl, ⟨nd, rfl⟩⟩) | (go_at_call 16; (with_reducible refine (serial_Apart.calls 2147483648 0 t103 _ A5.out).mono ?_); rintro e w' ⟨rfl, ⟨nd, rfl⟩⟩))
      go_ret
      exact ⟨by first | rfl | (simp; done) | (simp [*]; done), by repeat (first | exact Drawn0.refl _ | apply Drawn0.step)⟩
  · replace c2 := Bool.eq_false_iff.mpr c2
    subst c2
    have H1 : (some false) = some r := by rw [if_neg (show ¬ (false = true) by decide)] at H; exact H
    clear H
    have H := H1
    clear H1
    obtain rfl := Option.some.inj H
    go_enter Try.func14, Try.ntmps14
    go_wp2_with (first | ((with_reducible refine gate_callee (f := 15) rfl ?_); refine goesL_ (some 1) rfl rfl Try.func15 (by kernel_rfl) rfl #[.int .u32 1, .int .u32 4294967295] rfl (by (try simp only [List.map_toArray, List.map_cons, List.map_nil]); first | done | rfl | (simp only [List.length_drop, List.length_take]; rfl)) ?_; (with_reducible refine (serial_Later.calls 1 4294967295 false _ A1.out).mono ?_); rintro e w' ⟨rfl, ⟨nd, rfl⟩⟩; refine ⟨_, rfl, ?_⟩))
    go_ret
    exact ⟨by first | rfl | (simp; done) | (simp [*]; done), by repeat (first | exact Drawn0.refl _ | apply Drawn0.step)⟩

/-! ### bolterlaw06_SerialLater: function 3 -/
def bolterlaw06_SerialLater.f (a0 : Int) (a1 : Int) : Option (Bool) := (bolterlaw06_awake.f).bind fun t104 => (if t104 = true then ((serial_Later.f a0 a1).bind fun t105 => ((serial_Later.f a1 a0).bind fun t106 => ((serial_Apart.f a0 a1).bind fun t107 => (if (Int.tmod (wrap64 ((wrap64 ((wrap64 (a0)) - (wrap64 (a1)))) + 4294967296)) 4294967296) > 0 then (if (t105 == (decide ((Int.tmod (wrap64 ((wrap64 ((wrap64 (a0)) - (wrap64 (a1)))) + 4294967296)) 4294967296) < 2147483648))) = true then (if (t106 == (decide ((Int.tmod (wrap64 ((wrap64 ((wrap64 (a0)) - (wrap64 (a1)))) + 4294967296)) 4294967296) > 2147483648))) = true then (some (t107 == ((Int.tmod (wrap64 ((wrap64 ((wrap64 (a0)) - (wrap64 (a1)))) + 4294967296)) 4294967296) == 2147483648))) else (some false)) else (some false)) else (if (t105 == false) = true then (if (t106 == (decide ((Int.tmod (wrap64 ((wrap64 ((wrap64 (a0)) - (wrap64 (a1)))) + 4294967296)) 4294967296) > 2147483648))) = true then (some (t107 == ((Int.tmod (wrap64 ((wrap64 ((wrap64 (a0)) - (wrap64 (a1)))) + 4294967296)) 4294967296) == 2147483648))) else (some false)) else (some false)))))) else (some false))
set_option maxHeartbeats 8000000 in
set_option maxRecDepth 100000 in
theorem bolterlaw06_SerialLater.calls (a0 : Int) (a1 : Int) (r : Bool) (w : World) (h : bolterlaw06_SerialLater.f a0 a1 = some r) :
    Calls Try.prog 3 #[.int .u32 a0, .int .u32 a1] w fun e w' => e = .returned (.bool r) ∧ Drawn0 w w' := by
  have H : ((bolterlaw06_awake.f).bind fun t104 => (if t104 = true then ((serial_Later.f a0 a1).bind fun t105 => ((serial_Later.f a1 a0).bind fun t106 => ((serial_Apart.f a0 a1).bind fun t107 => (if (Int.tmod (wrap64 ((wrap64 ((wrap64 (a0)) - (wrap64 (a1)))) + 4294967296)) 4294967296) > 0 then (if (t105 == (decide ((Int.tmod (wrap64 ((wrap64 ((wrap64 (a0)) - (wrap64 (a1)))) + 4294967296)) 4294967296) < 2147483648))) = true then (if (t106 == (decide ((Int.tmod (wrap64 ((wrap64 ((wrap64 (a0)) - (wrap64 (a1)))) + 4294967296)) 4294967296) > 2147483648))) = true then (some (t107 == ((Int.tmod (wrap64 ((wrap64 ((wrap64 (a0)) - (wrap64 (a1)))) + 4294967296)) 4294967296) == 2147483648))) else (some false)) else (some false)) else (if (t105 == false) = true then (if (t106 == (decide ((Int.tmod (wrap64 ((wrap64 ((wrap64 (a0)) - (wrap64 (a1)))) + 4294967296)) 4294967296) > 2147483648))) = true then (some (t107 == ((Int.tmod (wrap64 ((wrap64 ((wrap64 (a0)) - (wrap64 (a1)))) + 4294967296)) 4294967296) == 2147483648))) else (some false)) else (some false)))))) else (some false))) = some r := h
  clear h
  replace H := Option.bind_eq_some_iff.mp H
  obtain ⟨t104, A30, H⟩ := H
  replace H : (if t104 = true then ((serial_Later.f a0 a1).bind fun t105 => ((serial_Later.f a1 a0).bind fun t106 => ((serial_Apart.f a0 a1).bind fun t107 => (if (Int.tmod (wrap64 ((wrap64 ((wrap64 (a0)) - (wrap64 (a1)))) + 4294967296)) 4294967296) > 0 then (if (t105 == (decide ((Int.tmod (wrap64 ((wrap64 ((wrap64 (a0)) - (wrap64 (a1)))) + 4294967296)) 4294967296) < 2147483648))) = true then (if (t106 == (decide ((Int.tmod (wrap64 ((wrap64 ((wrap64 (a0)) - (wrap64 (a1)))) + 4294967296)) 4294967296) > 2147483648))) = true then (some (t107 == ((Int.tmod (wrap64 ((wrap64 ((wrap64 (a0)) - (wrap64 (a1)))) + 4294967296)) 4294967296) == 2147483648))) else (some false)) else (some false)) else (if (t105 == false) = true then (if (t106 == (decide ((Int.tmod (wrap64 ((wrap64 ((wrap64 (a0)) - (wrap64 (a1)))) + 4294967296)) 4294967296) > 2147483648))) = true then (some (t107 == ((Int.tmod (wrap64 ((wrap64 ((wrap64 (a0)) - (wrap64 (a1)))) + 4294967296)) 4294967296) == 2147483648))) else (some false)) else (some false)))))) else (some false)) = some r := H
  have A3 := Aside0.mk A30
  clear A30
  by_cases c4 : t104 = true
  · subst c4
    have H1 : ((serial_Later.f a0 a1).bind fun t105 => ((serial_Later.f a1 a0).bind fun t106 => ((serial_Apart.f a0 a1).bind fun t107 => (if (Int.tmod (wrap64 ((wrap64 ((wrap64 (a0)) - (wrap64 (a1)))) + 4294967296)) 4294967296) > 0 then (if (t105 == (decide ((Int.tmod (wrap64 ((wrap64 ((wrap64 (a0)) - (wrap64 (a1)))) + 4294967296)) 4294967296) < 2147483648))) = true then (if (t106 == (decide ((Int.tmod (wrap64 ((wrap64 ((wrap64 (a0)) - (wrap64 (a1)))) + 4294967296)) 4294967296) > 2147483648))) = true then (some (t107 == ((Int.tmod (wrap64 ((wrap64 ((wrap64 (a0)) - (wrap64 (a1)))) + 4294967296)) 4294967296) == 2147483648))) else (some false)) else (some false)) else (if (t105 == false) = true then (if (t106 == (decide ((Int.tmod (wrap64 ((wrap64 ((wrap64 (a0)) - (wrap64 (a1)))) + 4294967296)) 4294967296) > 2147483648))) = true then (some (t107 == ((Int.tmod (wrap64 ((wrap64 ((wrap64 (a0)) - (wrap64 (a1)))) + 4294967296)) 4294967296) == 2147483648))) else (some false)) else (some false)))))) = some r := by rw [if_pos rfl] at H; exact H
    clear H
    have H := H1
    clear H1
    replace H := Option.bind_eq_some_iff.mp H
    obtain ⟨t105, A50, H⟩ := H
    replace H : ((serial_Later.f a1 a0).bind fun t106 => ((serial_Apart.f a0 a1).bind fun t107 => (if (Int.tmod (wrap64 ((wrap64 ((wrap64 (a0)) - (wrap64 (a1)))) + 4294967296)) 4294967296) > 0 then (if (t105 == (decide ((Int.tmod (wrap64 ((wrap64 ((wrap64 (a0)) - (wrap64 (a1)))) + 4294967296)) 4294967296) < 2147483648))) = true then (if (t106 == (decide ((Int.tmod (wrap64 ((wrap64 ((wrap64 (a0)) - (wrap64 (a1)))) + 4294967296)) 4294967296) > 2147483648))) = true then (some (t107 == ((Int.tmod (wrap64 ((wrap64 ((wrap64 (a0)) - (wrap64 (a1)))) + 4294967296)) 4294967296) == 2147483648))) else (some false)) else (some false)) else (if (t105 == false) = true then (if (t106 == (decide ((Int.tmod (wrap64 ((wrap64 ((wrap64 (a0)) - (wrap64 (a1)))) + 4294967296)) 4294967296) > 2147483648))) = true then (some (t107 == ((Int.tmod (wrap64 ((wrap64 ((wrap64 (a0)) - (wrap64 (a1)))) + 4294967296)) 4294967296) == 2147483648))) else (some false)) else (some false))))) = some r := H
    have A5 := Aside0.mk A50
    clear A50
    replace H := Option.bind_eq_some_iff.mp H
    obtain ⟨t106, A60, H⟩ := H
    replace H : ((serial_Apart.f a0 a1).bind fun t107 => (if (Int.tmod (wrap64 ((wrap64 ((wrap64 (a0)) - (wrap64 (a1)))) + 4294967296)) 4294967296) > 0 then (if (t105 == (decide ((Int.tmod (wrap64 ((wrap64 ((wrap64 (a0)) - (wrap64 (a1)))) + 4294967296)) 4294967296) < 2147483648))) = true then (if (t106 == (decide ((Int.tmod (wrap64 ((wrap64 ((wrap64 (a0)) - (wrap64 (a1)))) + 4294967296)) 4294967296) > 2147483648))) = true then (some (t107 == ((Int.tmod (wrap64 ((wrap64 ((wrap64 (a0)) - (wrap64 (a1)))) + 4294967296)) 4294967296) == 2147483648))) else (some false)) else (some false)) else (if (t105 == false) = true then (if (t106 == (decide ((Int.tmod (wrap64 ((wrap64 ((wrap64 (a0)) - (wrap64 (a1)))) + 4294967296)) 4294967296) > 2147483648))) = true then (some (t107 == ((Int.tmod (wrap64 ((wrap64 ((wrap64 (a0)) - (wrap64 (a1)))) + 4294967296)) 4294967296) == 2147483648))) else (some false)) else (some false)))) = some r := H
    have A6 := Aside0.mk A60
    clear A60
    replace H := Option.bind_eq_some_iff.mp H
    obtain ⟨t107, A70, H⟩ := H
    replace H : (if (Int.tmod (wrap64 ((wrap64 ((wrap64 (a0)) - (wrap64 (a1)))) + 4294967296)) 4294967296) > 0 then (if (t105 == (decide ((Int.tmod (wrap64 ((wrap64 ((wrap64 (a0)) - (wrap64 (a1)))) + 4294967296)) 4294967296) < 2147483648))) = true then (if (t106 == (decide ((Int.tmod (wrap64 ((wrap64 ((wrap64 (a0)) - (wrap64 (a1)))) + 4294967296)) 4294967296) > 2147483648))) = true then (some (t107 == ((Int.tmod (wrap64 ((wrap64 ((wrap64 (a0)) - (wrap64 (a1)))) + 4294967296)) 4294967296) == 2147483648))) else (some false)) else (some false)) else (if (t105 == false) = true then (if (t106 == (decide ((Int.tmod (wrap64 ((wrap64 ((wrap64 (a0)) - (wrap64 (a1)))) + 4294967296)) 4294967296) > 2147483648))) = true then (some (t107 == ((Int.tmod (wrap64 ((wrap64 ((wrap64 (a0)) - (wrap64 (a1)))) + 4294967296)) 4294967296) == 2147483648))) else (some false)) else (some false))) = some r := H
    have A7 := Aside0.mk A70
    clear A70
    by_cases c8 : (Int.tmod (wrap64 ((wrap64 ((wrap64 (a0)) - (wrap64 (a1)))) + 4294967296)) 4294967296) > 0
    · rw [if_pos c8] at H
      have c8b0 : decide (0 < (Int.tmod (wrap64 ((wrap64 ((wrap64 (a0)) - (wrap64 (a1)))) + 4294967296)) 4294967296)) = true := decide_eq_true c8
      clear c8
      by_cases c9 : (t105 == (decide ((Int.tmod (wrap64 ((wrap64 ((wrap64 (a0)) - (wrap64 (a1)))) + 4294967296)) 4294967296) < 2147483648))) = true
      · rw [if_pos c9] at H
        have c9b0 : (t105 == (decide ((Int.tmod (wrap64 ((wrap64 ((wrap64 (a0)) - (wrap64 (a1)))) + 4294967296)) 4294967296) < 2147483648))) = true := c9
        (try (have c9b1 : decide (t105 = (decide ((Int.tmod (wrap64 ((wrap64 ((wrap64 (a0)) - (wrap64 (a1)))) + 4294967296)) 4294967296) < 2147483648))) = true := by simpa using c9))
        (try (have c9b2 : (t105 == (decide ((Int.tmod (wrap64 ((wrap64 ((wrap64 (a0)) - (wrap64 (a1)))) + 4294967296)) 4294967296) < 2147483648))) = true := by simpa using c9))
        clear c9
        by_cases c10 : (t106 == (decide ((Int.tmod (wrap64 ((wrap64 ((wrap64 (a0)) - (wrap64 (a1)))) + 4294967296)) 4294967296) > 2147483648))) = true
        · rw [if_pos c10] at H
          have c10b0 : (t106 == (decide ((Int.tmod (wrap64 ((wrap64 ((wrap64 (a0)) - (wrap64 (a1)))) + 4294967296)) 4294967296) > 2147483648))) = true := c10
          (try (have c10b1 : decide (t106 = (decide ((Int.tmod (wrap64 ((wrap64 ((wrap64 (a0)) - (wrap64 (a1)))) + 4294967296)) 4294967296) > 2147483648))) = true := by simpa using c10))
          (try (have c10b2 : (t106 == (decide ((Int.tmod (wrap64 ((wrap64 ((wrap64 (a0)) - (wrap64 (a1)))) + 4294967296)) 4294967296) > 2147483648))) = true := by simpa using c10))
          clear c10
          obtain rfl := Option.some.inj H
          go_enter Try.func3, Try.ntmps3
          go_wp2_with (first | ((with_reducible refine gate_callee (f := 14) rfl ?_); refine goesL_ (some 9) rfl rfl Try.func14 (by kernel_rfl) rfl #[] rfl (by (try simp only [List.map_toArray, List.map_cons, List.map_nil]); first | done | rfl | (simp only [List.length_drop, List.length_take]; rfl)) ?_; (with_reducible refine (bolterlaw06_awake.calls  true _ A3.out).mono ?_); rintro e w' ⟨rfl, ⟨nd, rfl⟩⟩; refine ⟨_, rfl, ?_⟩) | ((with_reducible refine gate_callee (f := 15) rfl ?_); refine goesL_ (some 20) rfl rfl Try.func15 (by kernel_rfl) rfl #[.int .u32 a0, .int .u32 a1] rfl (by (try simp only [List.map_toArray, List.map_cons, List.map_nil]); first | done | rfl | (simp only [List.length_drop, List.length_take]; rfl)) ?_; (with_reducible refine (serial_Later.calls a0 a1 t105 _ A5.out).mono ?_); rintro e w' ⟨rfl, ⟨nd, rfl⟩⟩; refine ⟨_, rfl, ?_⟩) | ((with_reducible refine gate_callee (f := 15) rfl ?_); refine goesL_ (some 23) rfl rfl Try.func15 (by kernel_rfl) rfl #[.int .u32 a1, .int .u32 a0] rfl (by (try simp only [List.map_toArray, List.map_cons, List.map_nil]); first | done | rfl | (simp only [List.length_drop, List.length_take]; rfl)) ?_; (with_reducible refine (serial_Later.calls a1 a0 t106 _ A6.out).mono ?_); rintro e w' ⟨rfl, ⟨nd, rfl⟩⟩; refine ⟨_, rfl, ?_⟩) | ((with_reducible refine gate_callee (f := 16) rfl ?_); refine goesL_ (some 26) rfl rfl Try.func16 (by kernel_rfl) rfl #[.int .u32 a0, .int .u32 a1] rfl (by (try simp only [List.map_toArray, List.map_cons, List.map_nil]); first | done | rfl | (simp only [List.length_drop, List.length_take]; rfl)) ?_; (with_reducible refine (serial_Apart.calls a0 a1 t107 _ A7.out).mono ?_); rintro e w' ⟨rfl, ⟨nd, rfl⟩⟩; refine ⟨_, rfl, ?_⟩))
          go_ret
          exact ⟨by first | rfl | (simp; done) | (simp [*]; done), by repeat (first | exact Drawn0.refl _ | apply Drawn0.step)⟩
        · rw [if_neg c10] at H
          have c10b0 : (t106 == (decide ((Int.tmod (wrap64 ((wrap64 ((wrap64 (a0)) - (wrap64 (a1)))) + 4294967296)) 4294967296) > 2147483648))) = false := by simpa using c10
          (try (have c10b1 : decide (t106 = (decide ((Int.tmod (wrap64 ((wrap64 ((wrap64 (a0)) - (wrap64 (a1)))) + 4294967296)) 4294967296) > 2147483648))) = false := by simpa using c10))
          (try (have c10b2 : (t106 == (decide ((Int.tmod (wrap64 ((wrap64 ((wrap64 (a0)) - (wrap64 (a1)))) + 4294967296)) 4294967296) > 2147483648))) = false := by simpa using c10))
          (try (have c10b3 : ¬ (t106 = (decide ((Int.tmod (wrap64 ((wrap64 ((wrap64 (a0)) - (wrap64 (a1)))) + 4294967296)) 4294967296) > 2147483648))) := by simpa using c10))
          clear c10
          obtain rfl := Option.some.inj H
          go_enter Try.func3, Try.ntmps3
          go_wp2_with (first | ((with_reducible refine gate_callee (f := 14) rfl ?_); refine goesL_ (some 9) rfl rfl Try.func14 (by kernel_rfl) rfl #[] rfl (by (try simp only [List.map_toArray, List.map_cons, List.map_nil]); first | done | rfl | (simp only [List.length_drop, List.length_take]; rfl)) ?_; (with_reducible refine (bolterlaw06_awake.calls  true _ A3.out).mono ?_); rintro e w' ⟨rfl, ⟨nd, rfl⟩⟩; refine ⟨_, rfl, ?_⟩) | ((with_reducible refine gate_callee (f := 15) rfl ?_); refine goesL_ (some 20) rfl rfl Try.func15 (by kernel_rfl) rfl #[.int .u32 a0, .int .u32 a1] rfl (by (try simp only [List.map_toArray, List.map_cons, List.map_nil]); first | done | rfl | (simp only [List.length_drop, List.length_take]; rfl)) ?_; (with_reducible refine (serial_Later.calls a0 a1 t105 _ A5.out).mono ?_); rintro e w' ⟨rfl, ⟨nd, rfl⟩⟩; refine ⟨_, rfl, ?_⟩) | ((with_reducible refine gate_callee (f := 15) rfl ?_); refine goesL_ (some 23) rfl rfl Try.func15 (by kernel_rfl) rfl #[.int .u32 a1, .int .u32 a0] rfl (by (try simp only [List.map_toArray, List.map_cons, List.map_nil]); first | done | rfl | (simp only [List.length_drop, List.length_take]; rfl)) ?_; (with_reducible refine (serial_Later.calls a1 a0 t106 _ A6.out).mono ?_); rintro e w' ⟨rfl, ⟨nd, rfl⟩⟩; refine ⟨_, rfl, ?_⟩) | ((with_reducible refine gate_callee (f := 16) rfl ?_); refine goesL_ (some 26) rfl rfl Try.func16 (by kernel_rfl) rfl #[.int .u32 a0, .int .u32 a1] rfl (by (try simp only [List.map_toArray, List.map_cons, List.map_nil]); first | done | rfl | (simp only [List.length_drop, List.length_take]; rfl)) ?_; (with_reducible refine (serial_Apart.calls a0 a1 t107 _ A7.out).mono ?_); rintro e w' ⟨rfl, ⟨nd, rfl⟩⟩; refine ⟨_, rfl, ?_⟩))
          go_ret
          exact ⟨by first | rfl | (simp; done) | (simp [*]; done), by repeat (first | exact Drawn0.refl _ | apply Drawn0.step)⟩
      · rw [if_neg c9] at H
        have c9b0 : (t105 == (decide ((Int.tmod (wrap64 ((wrap64 ((wrap64 (a0)) - (wrap64 (a1)))) + 4294967296)) 4294967296) < 2147483648))) = false := by simpa using c9
        (try (have c9b1 : decide (t105 = (decide ((Int.tmod (wrap64 ((wrap64 ((wrap64 (a0)) - (wrap64 (a1)))) + 4294967296)) 4294967296) < 2147483648))) = false := by simpa using c9))
        (try (have c9b2 : (t105 == (decide ((Int.tmod (wrap64 ((wrap64 ((wrap64 (a0)) - (wrap64 (a1)))) + 4294967296)) 4294967296) < 2147483648))) = false := by simpa using c9))
        (try (have c9b3 : ¬ (t105 = (decide ((Int.tmod (wrap64 ((wrap64 ((wrap64 (a0)) - (wrap64 (a1)))) + 4294967296)) 4294967296) < 2147483648))) := by simpa using c9))
        clear c9
        obtain rfl := Option.some.inj H
        go_enter Try.func3, Try.ntmps3
        go_wp2_with (first | ((with_reducible refine gate_callee (f := 14) rfl ?_); refine goesL_ (some 9) rfl rfl Try.func14 (by kernel_rfl) rfl #[] rfl (by (try simp only [List.map_toArray, List.map_cons, List.map_nil]); first | done | rfl | (simp only [List.length_drop, List.length_take]; rfl)) ?_; (with_reducible refine (bolterlaw06_awake.calls  true _ A3.out).mono ?_); rintro e w' ⟨rfl, ⟨nd, rfl⟩⟩; refine ⟨_, rfl, ?_⟩) | ((with_reducible refine gate_callee (f := 15) rfl ?_); refine goesL_ (some 20) rfl rfl Try.func15 (by kernel_rfl) rfl #[.int .u32 a0, .int .u32 a1] rfl (by (try simp only [List.map_toArray, List.map_cons, List.map_nil]); first | done | rfl | (simp only [List.length_drop, List.length_take]; rfl)) ?_; (with_reducible refine (serial_Later.calls a0 a1 t105 _ A5.out).mono ?_); rintro e w' ⟨rfl, ⟨nd, rfl⟩⟩; refine ⟨_, rfl, ?_⟩) | ((with_reducible refine gate_callee (f := 15) rfl ?_); refine goesL_ (some 23) rfl rfl Try.func15 (by kernel_rfl) rfl #[.int .u32 a1, .int .u32 a0] rfl (by (try simp only [List.map_toArray, List.map_cons, List.map_nil]); first | done | rfl | (simp only [List.length_drop, List.length_take]; rfl)) ?_; (with_reducible refine (serial_Later.calls a1 a0 t106 _ A6.out).mono ?_); rintro e w' ⟨rfl, ⟨nd, rfl⟩⟩; refine ⟨_, rfl, ?_⟩) | ((with_reducible refine gate_callee (f := 16) rfl ?_); refine goesL_ (some 26) rfl rfl Try.func16 (by kernel_rfl) rfl #[.int .u32 a0, .int .u32 a1] rfl (by (try simp only [List.map_toArray, List.map_cons, List.map_nil]); first | done | rfl | (simp only [List.length_drop, List.length_take]; rfl)) ?_; (with_reducible refine (serial_Apart.calls a0 a1 t107 _ A7.out).mono ?_); rintro e w' ⟨rfl, ⟨nd, rfl⟩⟩; refine ⟨_, rfl, ?_⟩))
        go_ret
        exact ⟨by first | rfl | (simp; done) | (simp [*]; done), by repeat (first | exact Drawn0.refl _ | apply Drawn0.step)⟩
    · rw [if_neg c8] at H
      have c8b0 : decide (0 < (Int.tmod (wrap64 ((wrap64 ((wrap64 (a0)) - (wrap64 (a1)))) + 4294967296)) 4294967296)) = false := decide_eq_false c8
      clear c8
      by_cases c11 : (t105 == false) = true
      · rw [if_pos c11] at H
        have c11b0 : (t105 == false) = true := c11
        (try (have c11b1 : decide (t105 = false) = true := by simpa using c11))
        (try (have c11b2 : (t105 == false) = true := by simpa using c11))
        clear c11
        by_cases c12 : (t106 == (decide ((Int.tmod (wrap64 ((wrap64 ((wrap64 (a0)) - (wrap64 (a1)))) + 4294967296)) 4294967296) > 2147483648))) = true
        · rw [if_pos c12] at H
          have c12b0 : (t106 == (decide ((Int.tmod (wrap64 ((wrap64 ((wrap64 (a0)) - (wrap64 (a1)))) + 4294967296)) 4294967296) > 2147483648))) = true := c12
          (try (have c12b1 : decide (t106 = (decide ((Int.tmod (wrap64 ((wrap64 ((wrap64 (a0)) - (wrap64 (a1)))) + 4294967296)) 4294967296) > 2147483648))) = true := by simpa using c12))
          (try (have c12b2 : (t106 == (decide ((Int.tmod (wrap64 ((wrap64 ((wrap64 (a0)) - (wrap64 (a1)))) + 4294967296)) 4294967296) > 2147483648))) = true := by simpa using c12))
          clear c12
          obtain rfl := Option.some.inj H
          go_enter Try.func3, Try.ntmps3
          go_wp2_with (first | ((with_reducible refine gate_callee (f := 14) rfl ?_); refine goesL_ (some 9) rfl rfl Try.func14 (by kernel_rfl) rfl #[] rfl (by (try simp only [List.map_toArray, List.map_cons, List.map_nil]); first | done | rfl | (simp only [List.length_drop, List.length_take]; rfl)) ?_; (with_reducible refine (bolterlaw06_awake.calls  true _ A3.out).mono ?_); rintro e w' ⟨rfl, ⟨nd, rfl⟩⟩; refine ⟨_, rfl, ?_⟩) | ((with_reducible refine gate_callee (f := 15) rfl ?_); refine goesL_ (some 20) rfl rfl Try.func15 (by kernel_rfl) rfl #[.int .u32 a0, .int .u32 a1] rfl (by (try simp only [List.map_toArray, List.map_cons, List.map_nil]); first | done | rfl | (simp only [List.length_drop, List.length_take]; rfl)) ?_; (with_reducible refine (serial_Later.calls a0 a1 t105 _ A5.out).mono ?_); rintro e w' ⟨rfl, ⟨nd, rfl⟩⟩; refine ⟨_, rfl, ?_⟩) | ((with_reducible refine gate_callee (f := 15) rfl ?_); refine goesL_ (some 23) rfl rfl Try.func15 (by kernel_rfl) rfl #[.int .u32 a1, .int .u32 a0] rfl (by (try simp only [List.map_toArray, List.map_cons, List.map_nil]); first | done | rfl | (simp only [List.length_drop, List.length_take]; rfl)) ?_; (with_reducible refine (serial_Later.calls a1 a0 t106 _ A6.out).mono ?_); rintro e w' ⟨rfl, ⟨nd, rfl⟩⟩; refine ⟨_, rfl, ?_⟩) | ((with_reducible refine gate_callee (f := 16) rfl ?_); refine goesL_ (some 26) rfl rfl Try.func16 (by kernel_rfl) rfl #[.int .u32 a0, .int .u32 a1] rfl (by (try simp only [List.map_toArray, List.map_cons, List.map_nil]); first | done | rfl | (simp only [List.length_drop, List.length_take]; rfl)) ?_; (with_reducible refine (serial_Apart.calls a0 a1 t107 _ A7.out).mono ?_); rintro e w' ⟨rfl, ⟨nd, rfl⟩⟩; refine ⟨_, rfl, ?_⟩))
          go_ret
          exact ⟨by first | rfl | (simp; done) | (simp [*]; done), by repeat (first | exact Drawn0.refl _ | apply Drawn0.step)⟩
        · rw [if_neg c12] at H
          have c12b0 : (t106 == (decide ((Int.tmod (wrap64 ((wrap64 ((wrap64 (a0)) - (wrap64 (a1)))) + 4294967296)) 4294967296) > 2147483648))) = false := by simpa using c12
          (try (have c12b1 : decide (t106 = (decide ((Int.tmod (wrap64 ((wrap64 ((wrap64 (a0)) - (wrap64 (a1)))) + 4294967296)) 4294967296) > 2147483648))) = false := by simpa using c12))
          (try (have c12b2 : (t106 == (decide ((Int.tmod (wrap64 ((wrap64 ((wrap64 (a0)) - (wrap64 (a1)))) + 4294967296)) 4294967296) > 2147483648))) = false := by simpa using c12))
          (try (have c12b3 : ¬ (t106 = (decide ((Int.tmod (wrap64 ((wrap64 ((wrap64 (a0)) - (wrap64 (a1)))) + 4294967296)) 4294967296) > 2147483648))) := by simpa using c12))
          clear c12
          obtain rfl := Option.some.inj H
          go_enter Try.func3, Try.ntmps3
          go_wp2_with (first | ((with_reducible refine gate_callee (f := 14) rfl ?_); refine goesL_ (some 9) rfl rfl Try.func14 (by kernel_rfl) rfl #[] rfl (by (try simp only [List.map_toArray, List.map_cons, List.map_nil]); first | done | rfl | (simp only [List.length_drop, List.length_take]; rfl)) ?_; (with_reducible refine (bolterlaw06_awake.calls  true _ A3.out).mono ?_); rintro e w' ⟨rfl, ⟨nd, rfl⟩⟩; refine ⟨_, rfl, ?_⟩) | ((with_reducible refine gate_callee (f := 15) rfl ?_); refine goesL_ (some 20) rfl rfl Try.func15 (by kernel_rfl) rfl #[.int .u32 a0, .int .u32 a1] rfl (by (try simp only [List.map_toArray, List.map_cons, List.map_nil]); first | done | rfl | (simp only [List.length_drop, List.length_take]; rfl)) ?_; (with_reducible refine (serial_Later.calls a0 a1 t105 _ A5.out).mono ?_); rintro e w' ⟨rfl, ⟨nd, rfl⟩⟩; refine ⟨_, rfl, ?_⟩) | ((with_reducible refine gate_callee (f := 15) rfl ?_); refine goesL_ (some 23) rfl rfl Try.func15 (by kernel_rfl) rfl #[.int .u32 a1, .int .u32 a0] rfl (by (try simp only [List.map_toArray, List.map_cons, List.map_nil]); first | done | rfl | (simp only [List.length_drop, List.length_take]; rfl)) ?_; (with_reducible refine (serial_Later.calls a1 a0 t106 _ A6.out).mono ?_); rintro e w' ⟨rfl, ⟨nd, rfl⟩⟩; refine ⟨_, rfl, ?_⟩) | ((with_reducible refine gate_callee (f := 16) rfl ?_); refine goesL_ (some 26) rfl rfl Try.func16 (by kernel_rfl) rfl #[.int .u32 a0, .int .u32 a1] rfl (by (try simp only [List.map_toArray, List.map_cons, List.map_nil]); first | done | rfl | (simp only [List.length_drop, List.length_take]; rfl)) ?_; (with_reducible refine (serial_Apart.calls a0 a1 t107 _ A7.out).mono ?_); rintro e w' ⟨rfl, ⟨nd, rfl⟩⟩; refine ⟨_, rfl, ?_⟩))
          go_ret
          exact ⟨by first | rfl | (simp; done) | (simp [*]; done), by repeat (first | exact Drawn0.refl _ | apply Drawn0.step)⟩
      · rw [if_neg c11] at H
        have c11b0 : (t105 == false) = false := by simpa using c11
        (try (have c11b1 : decide (t105 = false) = false := by simpa using c11))
        (try (have c11b2 : (t105 == false) = false := by simpa using c11))
        (try (have c11b3 : ¬ (t105 = false) := by simpa using c11))
        clear c11
        obtain rfl := Option.some.inj H
        go_enter Try.func3, Try.ntmps3
        go_wp2_with (first | ((with_reducible refine gate_callee (f := 14) rfl ?_); refine goesL_ (some 9) rfl rfl Try.func14 (by kernel_rfl) rfl #[] rfl (by (try simp only [List.map_toArray, List.map_cons, List.map_nil]); first | done | rfl | (simp only [List.length_drop, List.length_take]; rfl)) ?_; (with_reducible refine (bolterlaw06_awake.calls  true _ A3.out).mono ?_); rintro e w' ⟨rfl, ⟨nd, rfl⟩⟩; refine ⟨_, rfl, ?_⟩) | ((with_reducible refine gate_callee (f := 15) rfl ?_); refine goesL_ (some 20) rfl rfl Try.func15 (by kernel_rfl) rfl #[.int .u32 a0, .int .u32 a1] rfl (by (try simp only [List.map_toArray, List.map_cons, List.map_nil]); first | done | rfl | (simp only [List.length_drop, List.length_take]; rfl)) ?_; (with_reducible refine (serial_Later.calls a0 a1 t105 _ A5.out).mono ?_); rintro e w' ⟨rfl, ⟨nd, rfl⟩⟩; refine ⟨_, rfl, ?_⟩) | ((with_reducible refine gate_callee (f := 15) rfl ?_); refine goesL_ (some 23) rfl rfl Try.func15 (by kernel_rfl) rfl #[.int .u32 a1, .int .u32 a0] rfl (by (try simp only [List.map_toArray, List.map_cons, List.map_nil]); first | done | rfl | (simp only [List.length_drop, List.length_take]; rfl)) ?_; (with_reducible refine (serial_Later.calls a1 a0 t106 _ A6.out).mono ?_); rintro e w' ⟨rfl, ⟨nd, rfl⟩⟩; refine ⟨_, rfl, ?_⟩) | ((with_reducible refine gate_callee (f := 16) rfl ?_); refine goesL_ (some 26) rfl rfl Try.func16 (by kernel_rfl) rfl #[.int .u32 a0, .int .u32 a1] rfl (by (try simp only [List.map_toArray, List.map_cons, List.map_nil]); first | done | rfl | (simp only [List.length_drop, List.length_take]; rfl)) ?_; (with_reducible refine (serial_Apart.calls a0 a1 t107 _ A7.out).mono ?_); rintro e w' ⟨rfl, ⟨nd, rfl⟩⟩; refine ⟨_, rfl, ?_⟩))
        go_ret
        exact ⟨by first | rfl | (simp; done) | (simp [*]; done), by repeat (first | exact Drawn0.refl _ | apply Drawn0.step)⟩
  · replace c4 := Bool.eq_false_iff.mpr c4
    subst c4
    have H1 : (some false) = some r := by rw [if_neg (show ¬ (false = true) by decide)] at H; exact H
    clear H
    have H := H1
    clear H1
    obtain rfl := Option.some.inj H
    go_enter Try.func3, Try.ntmps3
    go_wp2_with (first | ((with_reducible refine gate_callee (f := 14) rfl ?_); refine goesL_ (some 9) rfl rfl Try.func14 (by kernel_rfl) rfl #[] rfl (by (try simp only [List.map_toArray, List.map_cons, List.map_nil]); first | done | rfl | (simp only [List.length_drop, List.length_take]; rfl)) ?_; (with_reducible refine (bolterlaw06_awake.calls  false _ A3.out).mono ?_); rintro e w' ⟨rfl, ⟨nd, rfl⟩⟩; refine ⟨_, rfl, ?_⟩))
    go_ret
    exact ⟨by first | rfl | (simp; done) | (simp [*]; done), by repeat (first | exact Drawn0.refl _ | apply Drawn0.step)⟩

/-- THE ONE PURE STATEMENT of bolterlaw06_SerialLater: yours. -/
def bolterlaw06_SerialLater.Pure : Prop := ∀ (a0 : Int) (a1 : Int), (Lit.int .u32 a0).wf = true → (Lit.int .u32 a1).wf = true → bolterlaw06_SerialLater.f a0 a1 = some true
theorem bolterlaw06_SerialLater.walk (P : bolterlaw06_SerialLater.Pure) (a0 : Int) (a1 : Int) (w : World) (w0 : (Lit.int .u32 a0).wf = true) (w1 : (Lit.int .u32 a1).wf = true) :
    Calls Try.prog 3 #[.int .u32 a0, .int .u32 a1] w fun e w' => e = .returned (.bool true) ∧ Below w.heap.size w w' := by
  have h := P a0 a1 w0 w1
  refine (bolterlaw06_SerialLater.calls a0 a1 true w h).mono ?_
  rintro e w' ⟨rfl, hd⟩
  exact ⟨rfl, hd.below⟩

end Go.Proofs.Ytbnmpopcnpjjdaa.PSerialLater
