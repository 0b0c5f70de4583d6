-- Written by a program of this session (wip/tools/drive.py over the kit's printer): functions, contracts and rows (Pre).
import Derived.Test.YtbnmpopcnpjjdaaPPrex0
namespace Go.Proofs.Ytbnmpopcnpjjdaa.PPre
open Go.RowKit Go.Proofs.YtbnmpopcnpjjdaaW.PrintWords Go.Proofs.YtbnmpopcnpjjdaaW.PrintLast Go.Proofs.YtbnmpopcnpjjdaaW.PrintMore
attribute [local go_sem] max2_int min2_int max_two min_two max_three min_three max_four min_four   -- for this text's walks alone
open Go.Proofs.Ytbnmpopcnpjjdaa.Hand Go.Proofs.Ytbnmpopcnpjjdaa.PBase0
set_option linter.unusedVariables false
set_option linter.unusedSimpArgs false

/-! ### bolterlaw12_bits: function 23 -/
mutual
def bolterlaw12_bits.l0 : Nat → ByteArray → ByteArray → Int → Option (ByteArray)
  | 0, _, _, _ => none
  | k + 1, x0, x3, x4 => if x4 < (x0.size : Int) then (bolterlaw12_bits.l1 k x0 x3 x4 128) else (some x3)
def bolterlaw12_bits.l1 : Nat → ByteArray → ByteArray → Int → Int → Option (ByteArray)
  | 0, _, _, _, _ => none
  | k + 1, x0, x3, x4, x5 => if x5 > 0 then (if 0 ≤ x4 then (if x4 < (x0.size : Int) then (if x5 = 0 then (none) else (if (Int.tmod (wrap64 (Int.tdiv (wrap64 (bt x0 x4)) x5)) 2) = 1 then (if x3.size + 1 ≤ 9223372036854775807 then (bolterlaw12_bits.l1 k x0 (x3 ++ (⟨#[49]⟩ : ByteArray)) x4 (wrap64 (Int.tdiv x5 2))) else (none)) else (if x3.size + 1 ≤ 9223372036854775807 then (bolterlaw12_bits.l1 k x0 (x3 ++ (⟨#[48]⟩ : ByteArray)) x4 (wrap64 (Int.tdiv x5 2))) else (none)))) else (none)) else (none)) else (bolterlaw12_bits.l0 k x0 x3 (wrap64 (x4 + 1)))
end
def bolterlaw12_bits.f (k : Nat) (a0 : ByteArray) : Option (ByteArray) := bolterlaw12_bits.l0 k a0 (⟨#[]⟩ : ByteArray) 0
theorem bolterlaw12_bits.mono_l : ∀ k, (∀ y0 y1 y2, LeO (bolterlaw12_bits.l0 k y0 y1 y2) (bolterlaw12_bits.l0 (k + 1) y0 y1 y2)) ∧ (∀ y0 y1 y2 y3, LeO (bolterlaw12_bits.l1 k y0 y1 y2 y3) (bolterlaw12_bits.l1 (k + 1) y0 y1 y2 y3))
  | 0 => ⟨fun _ _ _ r h => by simp [bolterlaw12_bits.l0] at h, fun _ _ _ _ r h => by simp [bolterlaw12_bits.l1] at h⟩
  | k + 1 => by
    obtain ⟨ih0, ih1⟩ := bolterlaw12_bits.mono_l k
    refine ⟨?_, ?_⟩
    · intro y0 y1 y2
      unfold bolterlaw12_bits.l0
      repeat' first
      | (with_reducible exact ih0 _ _ _)
      | (with_reducible exact ih1 _ _ _ _)
      | (with_reducible exact LeO.refl _)
      | (with_reducible exact LeO.none _)
      | (with_reducible refine LeO.ite ?_ ?_)
      | (with_reducible refine LeO.bind ?_ (fun _ => ?_))
      | exact ih0 _ _ _
      | exact ih1 _ _ _ _
      | exact LeO.none _
      | refine LeO.ite ?_ ?_
      | refine LeO.bind ?_ (fun _ => ?_)
    · intro y0 y1 y2 y3
      unfold bolterlaw12_bits.l1
      repeat' first
      | (with_reducible exact ih0 _ _ _)
      | (with_reducible exact ih1 _ _ _ _)
      | (with_reducible exact LeO.refl _)
      | (with_reducible exact LeO.none _)
      | (with_reducible refine LeO.ite ?_ ?_)
      | (with_reducible refine LeO.bind ?_ (fun _ => ?_))
      | exact ih0 _ _ _
      | exact ih1 _ _ _ _
      | exact LeO.none _
      | refine LeO.ite ?_ ?_
      | refine LeO.bind ?_ (fun _ => ?_)
theorem bolterlaw12_bits.mono : ∀ a0 k, LeO (bolterlaw12_bits.f k a0) (bolterlaw12_bits.f (k + 1) a0) := by
  intro a0 k
  obtain ⟨ih0, ih1⟩ := bolterlaw12_bits.mono_l k
  unfold bolterlaw12_bits.f
  repeat' first
      | (with_reducible exact ih0 _ _ _)
      | (with_reducible exact ih1 _ _ _ _)
      | (with_reducible exact LeO.refl _)
      | (with_reducible exact LeO.none _)
      | (with_reducible refine LeO.ite ?_ ?_)
      | (with_reducible refine LeO.bind ?_ (fun _ => ?_))
      | exact ih0 _ _ _
      | exact ih1 _ _ _ _
      | exact LeO.none _
      | refine LeO.ite ?_ ?_
      | refine LeO.bind ?_ (fun _ => ?_)
set_option maxHeartbeats 8000000 in
set_option maxRecDepth 100000 in
theorem bolterlaw12_bits.calls (k : Nat) (a0 : ByteArray) (r : ByteArray) (w : World) (h : bolterlaw12_bits.f k a0 = some r) :
    Calls Try.prog 23 #[.string a0] w fun e w' => e = .returned (.string r) ∧ Drawn0 w w' := by
  have H : (bolterlaw12_bits.l0 k a0 (⟨#[]⟩ : ByteArray) 0) = some r := h
  clear h
  have H' := Aside0.mk H
  clear H
  go_enter Try.func23, Try.ntmps23
  go_wp2
  go_loopg [3, 4] k (fun kq v3 v4 w' => ∃ (x3_1 : ByteArray) (x4_1 : Int), v3 = .string x3_1 ∧ v4 = .int .i64 x4_1 ∧ Aside0 (bolterlaw12_bits.l0 kq a0 x3_1 x4_1 = some r) ∧ Aside0 (kq ≤ k) ∧ Drawn0 w w')
  case atStart => exact ⟨((⟨#[]⟩ : ByteArray)), (0), (by first | rfl | (simp; done) | (simp [*]; done)), (by first | rfl | (simp; done) | (simp [*]; done)), H', ⟨Nat.le_refl _⟩, by repeat (first | exact Drawn0.refl _ | apply Drawn0.step)⟩
  case round =>
    clear H'
    obtain ⟨x3_1, x4_1, rfl, rfl, HA, HK1, ⟨m1, rfl⟩⟩ := hrel
    cases gk with
    | zero => exact absurd HA.out (by simp [bolterlaw12_bits.l0])
    | succ k1 =>
      have H := HA.out
      clear HA
      simp only [bolterlaw12_bits.l0] at H
      by_cases c2 : x4_1 < (a0.size : Int)
      · rw [if_pos c2] at H
        have c2b0 : decide (x4_1 < (a0.size : Int)) = true := decide_eq_true c2
        clear c2
        have H' := Aside0.mk H
        clear H
        go_wp2
        go_loopg [3, 5] k1 (fun kq v3 v5 w' => ∃ (x3_2 : ByteArray) (x5_2 : Int), v3 = .string x3_2 ∧ v5 = .int .i64 x5_2 ∧ Aside0 (bolterlaw12_bits.l1 kq a0 x3_2 x4_1 x5_2 = some r) ∧ Aside0 (kq ≤ k1) ∧ Drawn0 w w')
        case atStart => exact ⟨(x3_1), (128), (by first | rfl | (simp; done) | (simp [*]; done)), (by first | rfl | (simp; done) | (simp [*]; done)), H', ⟨Nat.le_refl _⟩, by repeat (first | exact Drawn0.refl _ | apply Drawn0.step)⟩
        case round =>
          clear H'
          try clear c2
          try clear c2b0
          try clear p2
          obtain ⟨x3_2, x5_2, rfl, rfl, HA, HK2, ⟨m2, rfl⟩⟩ := hrel
          cases gk with
          | zero => exact absurd HA.out (by simp [bolterlaw12_bits.l1])
          | succ k2 =>
            have H := HA.out
            clear HA
            simp only [bolterlaw12_bits.l1] at H
            by_cases c3 : x5_2 > 0
            · rw [if_pos c3] at H
              have c3b0 : decide (0 < x5_2) = true := decide_eq_true c3
              clear c3
              by_cases c4 : 0 ≤ x4_1
              · rw [if_pos c4] at H
                have c4b0 : decide (0 ≤ x4_1) = true := decide_eq_true c4
                clear c4
                by_cases c5 : x4_1 < (a0.size : Int)
                · rw [if_pos c5] at H
                  have c5b0 : decide (x4_1 < (a0.size : Int)) = true := decide_eq_true c5
                  clear c5
                  by_cases c7 : x5_2 = 0
                  · rw [if_pos c7] at H
                    exact absurd H (by simp)
                  · rw [if_neg c7] at H
                    have c7b0 : (x5_2 == 0) = false := beq_eq_false_iff_ne.mpr c7
                    have c7b1 : (x5_2 != 0) = true := bne_iff_ne.mpr c7
                    by_cases c8 : (Int.tmod (wrap64 (Int.tdiv (wrap64 (bt a0 x4_1)) x5_2)) 2) = 1
                    · rw [if_pos c8] at H
                      have c8b0 : ((Int.tmod (wrap64 (Int.tdiv (wrap64 (bt a0 x4_1)) x5_2)) 2) == 1) = true := beq_iff_eq.mpr c8
                      have c8b1 : ((Int.tmod (wrap64 (Int.tdiv (wrap64 (bt a0 x4_1)) x5_2)) 2) != 1) = false := bne_eq_false_iff_eq.mpr c8
                      clear c8
                      by_cases c9 : x3_2.size + 1 ≤ 9223372036854775807
                      · rw [if_pos c9] at H
                        have c9b0 := eq_true c9
                        have c9b1 : decide (x3_2.size + 1 ≤ 9223372036854775807) = true := decide_eq_true c9
                        try have c9b2 : (9223372036854775807 < x3_2.size + 1) = False := eq_false (Nat.not_lt.2 c9)
                        have H' := Aside0.mk H
                        clear H
                        have p6 : 0 ≤ (x4_1 : Int) := of_decide_eq_true (by first | (with_reducible assumption) | assumption)
                        have q6 : x4_1 < (a0.size : Int) := of_decide_eq_true (by first | (with_reducible assumption) | assumption)
                        have hx6 := bt_at a0 x4_1
                        replace p6 := eq_true p6
                        replace q6 := eq_true q6
                        go_wp2
                        go_roundg k2
                        case measure => have := HK1.out; have := HK2.out; omega
                        case rel => exact ⟨(x3_2 ++ (⟨#[49]⟩ : ByteArray)), (wrap64 (Int.tdiv x5_2 2)), (by first | rfl | (simp; done) | (simp [*]; done)), (by first | rfl | (simp; done) | (simp [*]; done)), H', ⟨by have := HK1.out; have := HK2.out; omega⟩, by repeat (first | exact Drawn0.refl _ | apply Drawn0.step)⟩
                      · rw [if_neg c9] at H
                        exact absurd H (by simp)
                    · rw [if_neg c8] at H
                      have c8b0 : ((Int.tmod (wrap64 (Int.tdiv (wrap64 (bt a0 x4_1)) x5_2)) 2) == 1) = false := beq_eq_false_iff_ne.mpr c8
                      have c8b1 : ((Int.tmod (wrap64 (Int.tdiv (wrap64 (bt a0 x4_1)) x5_2)) 2) != 1) = true := bne_iff_ne.mpr c8
                      by_cases c10 : x3_2.size + 1 ≤ 9223372036854775807
                      · rw [if_pos c10] at H
                        have c10b0 := eq_true c10
                        have c10b1 : decide (x3_2.size + 1 ≤ 9223372036854775807) = true := decide_eq_true c10
                        try have c10b2 : (9223372036854775807 < x3_2.size + 1) = False := eq_false (Nat.not_lt.2 c10)
                        have H' := Aside0.mk H
                        clear H
                        have p6 : 0 ≤ (x4_1 : Int) := of_decide_eq_true (by first | (with_reducible assumption) | assumption)
                        have q6 : x4_1 < (a0.size : Int) := of_decide_eq_true (by first | (with_reducible assumption) | assumption)
                        have hx6 := bt_at a0 x4_1
                        replace p6 := eq_true p6
                        replace q6 := eq_true q6
                        go_wp2
                        go_roundg k2
                        case measure => have := HK1.out; have := HK2.out; omega
                        case rel => exact ⟨(x3_2 ++ (⟨#[48]⟩ : ByteArray)), (wrap64 (Int.tdiv x5_2 2)), (by first | rfl | (simp; done) | (simp [*]; done)), (by first | rfl | (simp; done) | (simp [*]; done)), H', ⟨by have := HK1.out; have := HK2.out; omega⟩, by repeat (first | exact Drawn0.refl _ | apply Drawn0.step)⟩
                      · rw [if_neg c10] at H
                        exact absurd H (by simp)
                · rw [if_neg c5] at H
                  exact absurd H (by simp)
              · rw [if_neg c4] at H
                exact absurd H (by simp)
            · rw [if_neg c3] at H
              have c3b0 : decide (0 < x5_2) = false := decide_eq_false c3
              clear c3
              have H' := Aside0.mk H
              clear H
              go_wp2
              go_roundg k2
              case measure => have := HK1.out; have := HK2.out; omega
              case rel => exact ⟨(x3_2), (wrap64 (x4_1 + 1)), (by first | rfl | (simp; done) | (simp [*]; done)), (by first | rfl | (simp; done) | (simp [*]; done)), H', ⟨by have := HK1.out; have := HK2.out; omega⟩, by repeat (first | exact Drawn0.refl _ | apply Drawn0.step)⟩
      · rw [if_neg c2] at H
        have c2b0 : decide (x4_1 < (a0.size : Int)) = false := decide_eq_false c2
        clear c2
        obtain rfl := Option.some.inj H
        go_wp2
        go_ret
        exact ⟨by first | rfl | (simp; done) | (simp [*]; done), by repeat (first | exact Drawn0.refl _ | apply Drawn0.step)⟩

end Go.Proofs.Ytbnmpopcnpjjdaa.PPre
