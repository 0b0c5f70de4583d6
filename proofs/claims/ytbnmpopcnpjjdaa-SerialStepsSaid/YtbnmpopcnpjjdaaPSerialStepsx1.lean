-- PRINTED BY print.sh 35421559b90ae4d0a3588c463048766b98c2df88dd9212a6774a882060cdf62d: not written by this session
import Derived.Test.YtbnmpopcnpjjdaaPSerialStepsx0
namespace Go.Proofs.Ytbnmpopcnpjjdaa.PSerialSteps
open Go.RowKit Go.Proofs.YtbnmpopcnpjjdaaW.PrintWords Go.Proofs.YtbnmpopcnpjjdaaW.PrintLast Go.Proofs.YtbnmpopcnpjjdaaW.PrintMore
attribute [local go_sem] max2_int min2_int max_two min_two max_three min_three max_four min_four   -- for this text's walks alone
set_option linter.unusedVariables false
set_option linter.unusedSimpArgs false

/-! ### serial_Later: function 15 -/
def serial_Later.f (a0 : Int) (a1 : Int) : Option (Bool) := if ((a0 - a1) % 4294967296) > 0 then (some (decide (((a0 - a1) % 4294967296) < 2147483648))) else (some false)
set_option maxHeartbeats 8000000 in
set_option maxRecDepth 100000 in
theorem serial_Later.calls (a0 : Int) (a1 : Int) (r : Bool) (w : World) (h : serial_Later.f a0 a1 = some r) :
    Calls Try.prog 15 #[.int .u32 a0, .int .u32 a1] w fun e w' => e = .returned (.bool r) ∧ Drawn0 w w' := by
  have H : (if ((a0 - a1) % 4294967296) > 0 then (some (decide (((a0 - a1) % 4294967296) < 2147483648))) else (some false)) = some r := h
  clear h
  by_cases c3 : ((a0 - a1) % 4294967296) > 0
  · rw [if_pos c3] at H
    have c3b0 : decide (0 < ((a0 - a1) % 4294967296)) = true := decide_eq_true c3
    clear c3
    obtain rfl := Option.some.inj H
    go_enter Try.func15, Try.ntmps15
    go_wp2
    go_ret
    exact ⟨by first | rfl | (simp; done) | (simp [*]; done), by repeat (first | exact Drawn0.refl _ | apply Drawn0.step)⟩
  · rw [if_neg c3] at H
    have c3b0 : decide (0 < ((a0 - a1) % 4294967296)) = false := decide_eq_false c3
    clear c3
    obtain rfl := Option.some.inj H
    go_enter Try.func15, Try.ntmps15
    go_wp2
    go_ret
    exact ⟨by first | rfl | (simp; done) | (simp [*]; done), by repeat (first | exact Drawn0.refl _ | apply Drawn0.step)⟩

/-! ### serial_Apart: function 16 -/
def serial_Apart.f (a0 : Int) (a1 : Int) : Option (Bool) := some (((a0 - a1) % 4294967296) == 2147483648)
set_option maxHeartbeats 8000000 in
set_option maxRecDepth 100000 in
theorem serial_Apart.calls (a0 : Int) (a1 : Int) (r : Bool) (w : World) (h : serial_Apart.f a0 a1 = some r) :
    Calls Try.prog 16 #[.int .u32 a0, .int .u32 a1] w fun e w' => e = .returned (.bool r) ∧ Drawn0 w w' := by
  have H : (some (((a0 - a1) % 4294967296) == 2147483648)) = some r := h
  clear h
  obtain rfl := Option.some.inj H
  go_enter Try.func16, Try.ntmps16
  go_wp2
  go_ret
  exact ⟨by first | rfl | (simp; done) | (simp [*]; done), by repeat (first | exact Drawn0.refl _ | apply Drawn0.step)⟩

/-! ### bolterlaw06_awake: function 14 -/
def bolterlaw06_awake.f  : Option (Bool) := (serial_Later.f 1 4294967295).bind fun t101 => (if t101 = true then ((serial_Later.f 2147483648 0).bind fun t102 => (if t102 = true then (some false) else ((serial_Apart.f 2147483648 0).bind fun t103 => (some t103)))) else (some false))
set_option maxHeartbeats 8000000 in
set_option maxRecDepth 100000 in
theorem bolterlaw06_awake.calls  (r : Bool) (w : World) (h : bolterlaw06_awake.f  = some r) :
    Calls Try.prog 14 #[] w fun e w' => e = .returned (.bool r) ∧ Drawn0 w w' := by
  have H : ((serial_Later.f 1 4294967295).bind fun t101 => (if t101 = true then ((serial_Later.f 2147483648 0).bind fun t102 => (if t102 = true then (some false) else ((serial_Apart.f 2147483648 0).bind fun t103 => (some t103)))) else (some false))) = some r := h
  clear h
  replace H := Option.bind_eq_some_iff.mp H
  obtain ⟨t101, A10, H⟩ := H
  replace H : (if t101 = true then ((serial_Later.f 2147483648 0).bind fun t102 => (if t102 = true then (some false) else ((serial_Apart.f 2147483648 0).bind fun t103 => (some t103)))) else (some false)) = some r := H
  have A1 := Aside0.mk A10
  clear A10
  by_cases c2 : t101 = true
  · subst c2
    have H1 : ((serial_Later.f 2147483648 0).bind fun t102 => (if t102 = true then (some false) else ((serial_Apart.f 2147483648 0).bind fun t103 => (some t103)))) = some r := by rw [if_pos rfl] at H; exact H
    clear H
    have H := H1
    clear H1
    replace H := Option.bind_eq_some_iff.mp H
    obtain ⟨t102, A30, H⟩ := H
    replace H : (if t102 = true then (some false) else ((serial_Apart.f 2147483648 0).bind fun t103 => (some t103))) = some r := H
    have A3 := Aside0.mk A30
    clear A30
    by_cases c4 : t102 = true
    · subst c4
      have H1 : (some false) = some r := by rw [if_pos rfl] at H; exact H
      clear H
      have H := H1
      clear H1
      obtain rfl := Option.some.inj H
      go_enter Try.func14, Try.ntmps14
      go_wp2_with (first | ((with_reducible refine gate_callee (f := 15) rfl ?_); refine goesL_ (some 1) rfl rfl Try.func15 (by kernel_rfl) rfl #[.int .u32 1, .int .u32 4294967295] rfl (by (try simp only [List.map_toArray, List.map_cons, List.map_nil]); first | done | rfl | (simp only [List.length_drop, List.length_take]; rfl)) ?_; (with_reducible refine (serial_Later.calls 1 4294967295 true _ A1.out).mono ?_); rintro e w' ⟨rfl, ⟨nd, rfl⟩⟩; refine ⟨_, rfl, ?_⟩) | (go_at_call 15; (with_reducible refine (serial_Later.calls 2147483648 0 true _ A3.out).mono ?_); rintro e w' ⟨rfl, ⟨nd, rfl⟩⟩))
      go_ret
      exact ⟨by first | rfl | (simp; done) | (simp [*]; done), by repeat (first | exact Drawn0.refl _ | apply Drawn0.step)⟩
    · replace c4 := Bool.eq_false_iff.mpr c4
      subst c4
      have H1 : ((serial_Apart.f 2147483648 0).bind fun t103 => (some t103)) = some r := by rw [if_neg (show ¬ (false = true) by decide)] at H; exact H
      clear H
      have H := H1
      clear H1
      replace H := Option.bind_eq_some_iff.mp H
      obtain ⟨t103, A50, H⟩ := H
      replace H : (some t103) = some r := H
      have A5 := Aside0.mk A50
      clear A50
      obtain rfl := Option.some.inj H
      go_enter Try.func14, Try.ntmps14
      go_wp2_with (first | ((with_reducible refine gate_callee (f := 15) rfl ?_); refine goesL_ (some 1) rfl rfl Try.func15 (by kernel_rfl) rfl #[.int .u32 1, .int .u32 4294967295] rfl (by (try simp only [List.map_toArray, List.map_cons, List.map_nil]); first | done | rfl | (simp only [List.length_drop, List.length_take]; rfl)) ?_; (with_reducible refine (serial_Later.calls 1 4294967295 true _ A1.out).mono ?_); rintro e w' ⟨rfl, ⟨nd, rfl⟩⟩; refine ⟨_, rfl, ?_⟩) | (go_at_call 15; (with_reducible refine (serial_Later.calls 2147483648 0 false _ A3.out).mono ?_); rintro e w' ⟨rfl, ⟨nd, rfl⟩⟩) | (go_at_call 16; (with_reducible refine (serial_Apart.calls 2147483648 0 t103 _ A5.out).mono ?_); rintro e w' ⟨rfl, ⟨nd, rfl⟩⟩))
      go_ret
      exact ⟨by first | rfl | (simp; done) | (simp [*]; done), by repeat (first | exact Drawn0.refl _ | apply Drawn0.step)⟩
  · replace c2 := Bool.eq_false_iff.mpr c2
    subst c2
    have H1 : (some false) = some r := by rw [if_neg (show ¬ (false = true) by decide)] at H; exact H
    clear H
    have H := H1
    clear H1
    obtain rfl := Option.some.inj H
    go_enter Try.func14, Try.ntmps14
    go_wp2_with (first | ((with_reducible refine gate_callee (f := 15) rfl ?_); refine goesL_ (some 1) rfl rfl Try.func15 (by kernel_rfl) rfl #[.int .u32 1, .int .u32 4294967295] rfl (by (try simp only [List.map_toArray, List.map_cons, List.map_nil]); first | done | rfl | (simp only [List.length_drop, List.length_take]; rfl)) ?_; (with_reducible refine (serial_Later.calls 1 4294967295 false _ A1.out).mono ?_); rintro e w' ⟨rfl, ⟨nd, rfl⟩⟩; refine ⟨_, rfl, ?_⟩))
    go_ret
    exact ⟨by first | rfl | (simp; done) | (simp [*]; done), by repeat (first | exact Drawn0.refl _ | apply Drawn0.step)⟩

/-! ### serial_Add: function 17 -/
def serial_Add.f (a0 : Int) (a1 : Int) : Option (Int × Bool) := if a1 ≥ 2147483648 then (some (0, false)) else (some ((a0 + a1) % 4294967296, true))
set_option maxHeartbeats 8000000 in
set_option maxRecDepth 100000 in
theorem serial_Add.calls (a0 : Int) (a1 : Int) (r1 : Int) (r2 : Bool) (w : World) (h : serial_Add.f a0 a1 = some (r1, r2)) :
    Calls Try.prog 17 #[.int .u32 a0, .int .u32 a1] w fun e w' => e = .returned (.tuple #[.int .u32 r1, .bool r2]) ∧ Drawn0 w w' := by
  have H : (if a1 ≥ 2147483648 then (some (0, false)) else (some ((a0 + a1) % 4294967296, true))) = some (r1, r2) := h
  clear h
  by_cases c3 : a1 ≥ 2147483648
  · rw [if_pos c3] at H
    have c3b0 : decide (2147483648 ≤ a1) = true := decide_eq_true c3
    clear c3
    simp only [Option.some.injEq, Prod.mk.injEq] at H
    obtain ⟨rfl, rfl⟩ := H
    go_enter Try.func17, Try.ntmps17
    go_wp2
    go_ret2
    exact ⟨by first | rfl | (simp; done) | (simp [*]; done), by repeat (first | exact Drawn0.refl _ | apply Drawn0.step)⟩
  · rw [if_neg c3] at H
    have c3b0 : decide (2147483648 ≤ a1) = false := decide_eq_false c3
    clear c3
    simp only [Option.some.injEq, Prod.mk.injEq] at H
    obtain ⟨rfl, rfl⟩ := H
    go_enter Try.func17, Try.ntmps17
    go_wp2
    go_ret2
    exact ⟨by first | rfl | (simp; done) | (simp [*]; done), by repeat (first | exact Drawn0.refl _ | apply Drawn0.step)⟩

/-! ### bolterlaw06_SerialSteps: function 6 -/
def bolterlaw06_SerialSteps.l0 : Nat → Int → Int → Int → List Int → Int → Int → Option (Bool)
  | 0, _, _, _, _, _, _ => none
  | k + 1, x0, x5, x6, x14, x15, x16 => if x16 < x15 then (if 0 ≤ x16 then (if x16 < (x14.length : Int) then ((serial_Add.f x5 ((rd x14 x16) % 4294967296)).bind fun bt106 => (if bt106.2 = true then (if (IntKind.u64.wrap (x6 + (IntKind.u64.wrap (rd x14 x16)))) < 2147483648 then ((serial_Later.f bt106.1 x0).bind fun t108 => (if (t108 != (decide ((IntKind.u64.wrap (x6 + (IntKind.u64.wrap (rd x14 x16)))) > 0))) = true then (some false) else (bolterlaw06_SerialSteps.l0 k x0 bt106.1 (IntKind.u64.wrap (x6 + (IntKind.u64.wrap (rd x14 x16)))) x14 x15 (wrap64 (x16 + 1))))) else (bolterlaw06_SerialSteps.l0 k x0 bt106.1 (IntKind.u64.wrap (x6 + (IntKind.u64.wrap (rd x14 x16)))) x14 x15 (wrap64 (x16 + 1)))) else (some false))) else (none)) else (none)) else (some ((IntKind.u64.wrap (x5)) == (Int.tmod (IntKind.u64.wrap ((IntKind.u64.wrap (x0)) + x6)) 4294967296)))
def bolterlaw06_SerialSteps.f (k : Nat) (a0 : Int) (l1 : List Int) : Option (Bool) := (bolterlaw06_awake.f).bind fun t104 => (if t104 = true then (bolterlaw06_SerialSteps.l0 k a0 a0 0 l1 (l1.length : Int) 0) else (some false))
theorem bolterlaw06_SerialSteps.mono_l : ∀ k, (∀ y0 y1 y2 y3 y4 y5, LeO (bolterlaw06_SerialSteps.l0 k y0 y1 y2 y3 y4 y5) (bolterlaw06_SerialSteps.l0 (k + 1) y0 y1 y2 y3 y4 y5))
  | 0 => fun _ _ _ _ _ _ r h => by simp [bolterlaw06_SerialSteps.l0] at h
  | k + 1 => by
    have ih0 := bolterlaw06_SerialSteps.mono_l k
    · intro y0 y1 y2 y3 y4 y5
      unfold bolterlaw06_SerialSteps.l0
      repeat' first
      | (with_reducible exact ih0 _ _ _ _ _ _)
      | (with_reducible exact LeO.refl _)
      | (with_reducible exact LeO.none _)
      | (with_reducible refine LeO.ite ?_ ?_)
      | (with_reducible refine LeO.bind ?_ (fun _ => ?_))
      | exact ih0 _ _ _ _ _ _
      | exact LeO.none _
      | refine LeO.ite ?_ ?_
      | refine LeO.bind ?_ (fun _ => ?_)
theorem bolterlaw06_SerialSteps.mono : ∀ a0 a1 k, LeO (bolterlaw06_SerialSteps.f k a0 a1) (bolterlaw06_SerialSteps.f (k + 1) a0 a1) := by
  intro a0 a1 k
  have ih0 := bolterlaw06_SerialSteps.mono_l k
  unfold bolterlaw06_SerialSteps.f
  repeat' first
      | (with_reducible exact ih0 _ _ _ _ _ _)
      | (with_reducible exact LeO.refl _)
      | (with_reducible exact LeO.none _)
      | (with_reducible refine LeO.ite ?_ ?_)
      | (with_reducible refine LeO.bind ?_ (fun _ => ?_))
      | exact ih0 _ _ _ _ _ _
      | exact LeO.none _
      | refine LeO.ite ?_ ?_
      | refine LeO.bind ?_ (fun _ => ?_)
set_option maxHeartbeats 8000000 in
set_option maxRecDepth 100000 in
theorem bolterlaw06_SerialSteps.calls (k : Nat) (a0 : Int) (A1 : Option Addr) (c1 : Nat) (l1 : List Int) (r : Bool) (w : World) (hr1 : Kd.C (Kd.int .u16) w A1 l1.length l1) (hc1 : l1.length ≤ c1) (h : bolterlaw06_SerialSteps.f k a0 l1 = some r) :
    Calls Try.prog 6 #[.int .u32 a0, .slice A1 l1.length c1] w fun e w' => e = .returned (.bool r) ∧ Drawn0 w w' := by
  have HR1 := Aside0.mk hr1
  have HC1 := Aside0.mk hc1
  clear hr1 hc1
  have H : ((bolterlaw06_awake.f).bind fun t104 => (if t104 = true then (bolterlaw06_SerialSteps.l0 k a0 a0 0 l1 (l1.length : Int) 0) else (some false))) = some r := h
  clear h
  replace H := Option.bind_eq_some_iff.mp H
  obtain ⟨t104, A30, H⟩ := H
  replace H : (if t104 = true then (bolterlaw06_SerialSteps.l0 k a0 a0 0 l1 (l1.length : Int) 0) else (some false)) = some r := H
  have A3 := Aside0.mk A30
  clear A30
  by_cases c4 : t104 = true
  · subst c4
    have H1 : (bolterlaw06_SerialSteps.l0 k a0 a0 0 l1 (l1.length : Int) 0) = some r := by rw [if_pos rfl] at H; exact H
    clear H
    have H := H1
    clear H1
    have H' := Aside0.mk H
    clear H
    go_enter Try.func6, Try.ntmps6
    go_wp2_with (first | ((with_reducible refine gate_callee (f := 14) rfl ?_); refine goesL_ (some 11) rfl rfl Try.func14 (by kernel_rfl) rfl #[] rfl (by (try simp only [List.map_toArray, List.map_cons, List.map_nil]); first | done | rfl | (simp only [List.length_drop, List.length_take]; rfl)) ?_; (with_reducible refine (bolterlaw06_awake.calls  true _ A3.out).mono ?_); rintro e w' ⟨rfl, ⟨nd, rfl⟩⟩; refine ⟨_, rfl, ?_⟩))
    go_loopg [5, 6, 16] k (fun kq v5 v6 v16 w' => ∃ (x5_1 : Int) (x6_1 : Int) (x16_1 : Int), v5 = .int .u32 x5_1 ∧ v6 = .int .u64 x6_1 ∧ v16 = .int .i64 x16_1 ∧ Aside0 (bolterlaw06_SerialSteps.l0 kq a0 x5_1 x6_1 l1 (l1.length : Int) x16_1 = some r) ∧ Aside0 (kq ≤ k) ∧ Drawn0 w w')
    case atStart => exact ⟨(a0), (0), (0), (by first | rfl | (simp; done) | (simp [*]; done)), (by first | rfl | (simp; done) | (simp [*]; done)), (by first | rfl | (simp; done) | (simp [*]; done)), H', ⟨Nat.le_refl _⟩, by repeat (first | exact Drawn0.refl _ | apply Drawn0.step)⟩
    case round =>
      clear H'
      try clear c1
      try clear p2
      try clear c4
      obtain ⟨x5_1, x6_1, x16_1, rfl, rfl, rfl, HA, HK1, ⟨m1, rfl⟩⟩ := hrel
      cases gk with
      | zero => exact absurd HA.out (by simp [bolterlaw06_SerialSteps.l0])
      | succ k1 =>
        have H := HA.out
        clear HA
        simp only [bolterlaw06_SerialSteps.l0] at H
        by_cases c5 : x16_1 < (l1.length : Int)
        · rw [if_pos c5] at H
          have c5b0 : decide (x16_1 < (l1.length : Int)) = true := decide_eq_true c5
          clear c5
          by_cases c6 : 0 ≤ x16_1
          · rw [if_pos c6] at H
            have c6b0 : decide (0 ≤ x16_1) = true := decide_eq_true c6
            clear c6
            by_cases c7 : x16_1 < (l1.length : Int)
            · rw [if_pos c7] at H
              have c7b0 : decide (x16_1 < (l1.length : Int)) = true := decide_eq_true c7
              clear c7
              replace H := Option.bind_eq_some_iff.mp H
              obtain ⟨⟨t106, t107⟩, A80, H⟩ := H
              replace H : (if t107 = true then (if (IntKind.u64.wrap (x6_1 + (IntKind.u64.wrap (rd l1 x16_1)))) < 2147483648 then ((serial_Later.f t106 a0).bind fun t108 => (if (t108 != (decide ((IntKind.u64.wrap (x6_1 + (IntKind.u64.wrap (rd l1 x16_1)))) > 0))) = true then (some false) else (bolterlaw06_SerialSteps.l0 k1 a0 t106 (IntKind.u64.wrap (x6_1 + (IntKind.u64.wrap (rd l1 x16_1)))) l1 (l1.length : Int) (wrap64 (x16_1 + 1))))) else (bolterlaw06_SerialSteps.l0 k1 a0 t106 (IntKind.u64.wrap (x6_1 + (IntKind.u64.wrap (rd l1 x16_1)))) l1 (l1.length : Int) (wrap64 (x16_1 + 1)))) else (some false)) = some r := H
              have A8 := Aside0.mk A80
              clear A80
              by_cases c9 : t107 = true
              · subst c9
                have H1 : (if (IntKind.u64.wrap (x6_1 + (IntKind.u64.wrap (rd l1 x16_1)))) < 2147483648 then ((serial_Later.f t106 a0).bind fun t108 => (if (t108 != (decide ((IntKind.u64.wrap (x6_1 + (IntKind.u64.wrap (rd l1 x16_1)))) > 0))) = true then (some false) else (bolterlaw06_SerialSteps.l0 k1 a0 t106 (IntKind.u64.wrap (x6_1 + (IntKind.u64.wrap (rd l1 x16_1)))) l1 (l1.length : Int) (wrap64 (x16_1 + 1))))) else (bolterlaw06_SerialSteps.l0 k1 a0 t106 (IntKind.u64.wrap (x6_1 + (IntKind.u64.wrap (rd l1 x16_1)))) l1 (l1.length : Int) (wrap64 (x16_1 + 1)))) = some r := by rw [if_pos rfl] at H; exact H
                clear H
                have H := H1
                clear H1
                by_cases c10 : (IntKind.u64.wrap (x6_1 + (IntKind.u64.wrap (rd l1 x16_1)))) < 2147483648
                · rw [if_pos c10] at H
                  have c10b0 : decide ((IntKind.u64.wrap (x6_1 + (IntKind.u64.wrap (rd l1 x16_1)))) < 2147483648) = true := decide_eq_true c10
                  clear c10
                  replace H := Option.bind_eq_some_iff.mp H
                  obtain ⟨t108, A110, H⟩ := H
                  replace H : (if (t108 != (decide ((IntKind.u64.wrap (x6_1 + (IntKind.u64.wrap (rd l1 x16_1)))) > 0))) = true then (some false) else (bolterlaw06_SerialSteps.l0 k1 a0 t106 (IntKind.u64.wrap (x6_1 + (IntKind.u64.wrap (rd l1 x16_1)))) l1 (l1.length : Int) (wrap64 (x16_1 + 1)))) = some r := H
                  have A11 := Aside0.mk A110
                  clear A110
                  by_cases c12 : (t108 != (decide ((IntKind.u64.wrap (x6_1 + (IntKind.u64.wrap (rd l1 x16_1)))) > 0))) = true
                  · rw [if_pos c12] at H
                    have c12b0 : (t108 != (decide ((IntKind.u64.wrap (x6_1 + (IntKind.u64.wrap (rd l1 x16_1)))) > 0))) = true := c12
                    (try (have c12b1 : decide (t108 = (decide ((IntKind.u64.wrap (x6_1 + (IntKind.u64.wrap (rd l1 x16_1)))) > 0))) = false := by simpa using c12))
                    (try (have c12b2 : (t108 == (decide ((IntKind.u64.wrap (x6_1 + (IntKind.u64.wrap (rd l1 x16_1)))) > 0))) = false := by simpa using c12))
                    (try (have c12b3 : ¬ (t108 = (decide ((IntKind.u64.wrap (x6_1 + (IntKind.u64.wrap (rd l1 x16_1)))) > 0))) := by simpa using c12))
                    clear c12
                    obtain rfl := Option.some.inj H
                    have p105 : 0 ≤ (x16_1 : Int) := of_decide_eq_true (by first | (with_reducible assumption) | assumption)
                    have q105 : x16_1 < (l1.length : Int) := of_decide_eq_true (by first | (with_reducible assumption) | assumption)
                    obtain ⟨ad105, e105, hx105_0⟩ := Kd.at_int HR1.out x16_1 p105 q105
                    cases e105
                    replace p105 := eq_true p105
                    replace q105 := eq_true q105
                    go_wp2_with (first | ((with_reducible refine gate_callee (f := 17) rfl ?_); refine goesL_ (some 24) rfl rfl Try.func17 (by kernel_rfl) rfl #[.int .u32 x5_1, .int .u32 ((rd l1 x16_1) % 4294967296)] rfl (by (try simp only [List.map_toArray, List.map_cons, List.map_nil]); first | done | rfl | (simp only [List.length_drop, List.length_take]; rfl)) ?_; (with_reducible refine (serial_Add.calls x5_1 ((rd l1 x16_1) % 4294967296) t106 true _ A8.out).mono ?_); rintro e w' ⟨rfl, ⟨nd, rfl⟩⟩; refine ⟨_, rfl, ?_⟩) | (go_at_call 15; (with_reducible refine (serial_Later.calls t106 a0 t108 _ A11.out).mono ?_); rintro e w' ⟨rfl, ⟨nd, rfl⟩⟩))
                    go_ret
                    exact ⟨by first | rfl | (simp; done) | (simp [*]; done), by repeat (first | exact Drawn0.refl _ | apply Drawn0.step)⟩
                  · rw [if_neg c12] at H
                    have c12b0 : (t108 != (decide ((IntKind.u64.wrap (x6_1 + (IntKind.u64.wrap (rd l1 x16_1)))) > 0))) = false := by simpa using c12
                    (try (have c12b1 : decide (t108 = (decide ((IntKind.u64.wrap (x6_1 + (IntKind.u64.wrap (rd l1 x16_1)))) > 0))) = true := by simpa using c12))
                    (try (have c12b2 : (t108 == (decide ((IntKind.u64.wrap (x6_1 + (IntKind.u64.wrap (rd l1 x16_1)))) > 0))) = true := by simpa using c12))
                    clear c12
                    have H' := Aside0.mk H
                    clear H
                    have p105 : 0 ≤ (x16_1 : Int) := of_decide_eq_true (by first | (with_reducible assumption) | assumption)
                    have q105 : x16_1 < (l1.length : Int) := of_decide_eq_true (by first | (with_reducible assumption) | assumption)
                    obtain ⟨ad105, e105, hx105_0⟩ := Kd.at_int HR1.out x16_1 p105 q105
                    cases e105
                    replace p105 := eq_true p105
                    replace q105 := eq_true q105
                    go_wp2_with (first | ((with_reducible refine gate_callee (f := 17) rfl ?_); refine goesL_ (some 24) rfl rfl Try.func17 (by kernel_rfl) rfl #[.int .u32 x5_1, .int .u32 ((rd l1 x16_1) % 4294967296)] rfl (by (try simp only [List.map_toArray, List.map_cons, List.map_nil]); first | done | rfl | (simp only [List.length_drop, List.length_take]; rfl)) ?_; (with_reducible refine (serial_Add.calls x5_1 ((rd l1 x16_1) % 4294967296) t106 true _ A8.out).mono ?_); rintro e w' ⟨rfl, ⟨nd, rfl⟩⟩; refine ⟨_, rfl, ?_⟩) | (go_at_call 15; (with_reducible refine (serial_Later.calls t106 a0 t108 _ A11.out).mono ?_); rintro e w' ⟨rfl, ⟨nd, rfl⟩⟩))
                    go_roundg k1
                    case measure => have := HK1.out; omega
                    case rel => exact ⟨(t106), (IntKind.u64.wrap (x6_1 + (IntKind.u64.wrap (rd l1 x16_1)))), (wrap64 (x16_1 + 1)), (by first | rfl | (simp; done) | (simp [*]; done)), (by first | rfl | (simp; done) | (simp [*]; done)), (by first | rfl | (simp; done) | (simp [*]; done)), H', ⟨by have := HK1.out; omega⟩, by repeat (first | exact Drawn0.refl _ | apply Drawn0.step)⟩
                · rw [if_neg c10] at H
                  have c10b0 : decide ((IntKind.u64.wrap (x6_1 + (IntKind.u64.wrap (rd l1 x16_1)))) < 2147483648) = false := decide_eq_false c10
                  clear c10
                  have H' := Aside0.mk H
                  clear H
                  have p105 : 0 ≤ (x16_1 : Int) := of_decide_eq_true (by first | (with_reducible assumption) | assumption)
                  have q105 : x16_1 < (l1.length : Int) := of_decide_eq_true (by first | (with_reducible assumption) | assumption)
                  obtain ⟨ad105, e105, hx105_0⟩ := Kd.at_int HR1.out x16_1 p105 q105
                  cases e105
                  replace p105 := eq_true p105
                  replace q105 := eq_true q105
                  go_wp2_with (first | ((with_reducible refine gate_callee (f := 17) rfl ?_); refine goesL_ (some 24) rfl rfl Try.func17 (by kernel_rfl) rfl #[.int .u32 x5_1, .int .u32 ((rd l1 x16_1) % 4294967296)] rfl (by (try simp only [List.map_toArray, List.map_cons, List.map_nil]); first | done | rfl | (simp only [List.length_drop, List.length_take]; rfl)) ?_; (with_reducible refine (serial_Add.calls x5_1 ((rd l1 x16_1) % 4294967296) t106 true _ A8.out).mono ?_); rintro e w' ⟨rfl, ⟨nd, rfl⟩⟩; refine ⟨_, rfl, ?_⟩))
                  go_roundg k1
                  case measure => have := HK1.out; omega
                  case rel => exact ⟨(t106), (IntKind.u64.wrap (x6_1 + (IntKind.u64.wrap (rd l1 x16_1)))), (wrap64 (x16_1 + 1)), (by first | rfl | (simp; done) | (simp [*]; done)), (by first | rfl | (simp; done) | (simp [*]; done)), (by first | rfl | (simp; done) | (simp [*]; done)), H', ⟨by have := HK1.out; omega⟩, by repeat (first | exact Drawn0.refl _ | apply Drawn0.step)⟩
              · replace c9 := Bool.eq_false_iff.mpr c9
                subst c9
                have H1 : (some false) = some r := by rw [if_neg (show ¬ (false = true) by decide)] at H; exact H
                clear H
                have H := H1
                clear H1
                obtain rfl := Option.some.inj H
                have p105 : 0 ≤ (x16_1 : Int) := of_decide_eq_true (by first | (with_reducible assumption) | assumption)
                have q105 : x16_1 < (l1.length : Int) := of_decide_eq_true (by first | (with_reducible assumption) | assumption)
                obtain ⟨ad105, e105, hx105_0⟩ := Kd.at_int HR1.out x16_1 p105 q105
                cases e105
                replace p105 := eq_true p105
                replace q105 := eq_true q105
                go_wp2_with (first | ((with_reducible refine gate_callee (f := 17) rfl ?_); refine goesL_ (some 24) rfl rfl Try.func17 (by kernel_rfl) rfl #[.int .u32 x5_1, .int .u32 ((rd l1 x16_1) % 4294967296)] rfl (by (try simp only [List.map_toArray, List.map_cons, List.map_nil]); first | done | rfl | (simp only [List.length_drop, List.length_take]; rfl)) ?_; (with_reducible refine (serial_Add.calls x5_1 ((rd l1 x16_1) % 4294967296) t106 false _ A8.out).mono ?_); rintro e w' ⟨rfl, ⟨nd, rfl⟩⟩; refine ⟨_, rfl, ?_⟩))
                go_ret
                exact ⟨by first | rfl | (simp; done) | (simp [*]; done), by repeat (first | exact Drawn0.refl _ | apply Drawn0.step)⟩
            · rw [if_neg c7] at H
              exact absurd H (by simp)
          · rw [if_neg c6] at H
            exact absurd H (by simp)
        · rw [if_neg c5] at H
          have c5b0 : decide (x16_1 < (l1.length : Int)) = false := decide_eq_false c5
          clear c5
          obtain rfl := Option.some.inj H
          go_wp2
          go_ret
          exact ⟨by first | rfl | (simp; done) | (simp [*]; done), by repeat (first | exact Drawn0.refl _ | apply Drawn0.step)⟩
  · replace c4 := Bool.eq_false_iff.mpr c4
    subst c4
    have H1 : (some false) = some r := by rw [if_neg (show ¬ (false = true) by decide)] at H; exact H
    clear H
    have H := H1
    clear H1
    obtain rfl := Option.some.inj H
    go_enter Try.func6, Try.ntmps6
    go_wp2_with (first | ((with_reducible refine gate_callee (f := 14) rfl ?_); refine goesL_ (some 11) rfl rfl Try.func14 (by kernel_rfl) rfl #[] rfl (by (try simp only [List.map_toArray, List.map_cons, List.map_nil]); first | done | rfl | (simp only [List.length_drop, List.length_take]; rfl)) ?_; (with_reducible refine (bolterlaw06_awake.calls  false _ A3.out).mono ?_); rintro e w' ⟨rfl, ⟨nd, rfl⟩⟩; refine ⟨_, rfl, ?_⟩))
    go_ret
    exact ⟨by first | rfl | (simp; done) | (simp [*]; done), by repeat (first | exact Drawn0.refl _ | apply Drawn0.step)⟩

/-- THE ONE PURE STATEMENT of bolterlaw06_SerialSteps: yours. -/
def bolterlaw06_SerialSteps.Pure : Prop := ∀ (a0 : Int) (l1 : List Int), (Lit.int .u32 a0).wf = true → l1.length ≤ maxLen → l1.length * 2 ≤ 140737488351232 → (∀ x ∈ l1, (Lit.int .u16 x).wf = true) → ∃ k, bolterlaw06_SerialSteps.f k a0 l1 = some true
theorem bolterlaw06_SerialSteps.walk (P : bolterlaw06_SerialSteps.Pure) (a0 : Int) (a1 : Option Addr) (len1 cap1 : Nat) (z1 : List Int) (w : World) (w0 : (Lit.int .u32 a0).wf = true) (w1 : (a1 = none ∧ len1 = 0 ∧ cap1 = 0 ∧ z1 = []) ∨ ∃ x, a1 = some x ∧ len1 ≤ cap1 ∧ cap1 ≤ maxLen ∧ z1.length = cap1 ∧ (∀ i, i < z1.length → w.cell? (x.add i) = some (.int .u16 (z1.getD i 0))) ∧ ∀ n ∈ z1, (Lit.int .u16 n).wf = true) (y1 : len1 * 2 ≤ 140737488351232) :
    Calls Try.prog 6 #[.int .u32 a0, .slice a1 len1 cap1] w fun e w' => e = .returned (.bool true) ∧ Below w.heap.size w w' := by
  obtain ⟨l1, rfl, hr1, hm1, hw1, hc1⟩ := ReadsInt.ofRowC w1
  obtain ⟨k, h⟩ := P a0 l1 w0 hm1 y1 hw1
  refine (bolterlaw06_SerialSteps.calls k a0 _ _ l1 true w (Kd.C_of_reads (d := (0 : Int)) (h1 := fun _ => rfl) hr1) hc1 h).mono ?_
  rintro e w' ⟨rfl, hd⟩
  exact ⟨rfl, hd.below⟩

end Go.Proofs.Ytbnmpopcnpjjdaa.PSerialSteps
