-- Written by a program of this session (wip/tools/drive.py over the kit's printer): functions, contracts and rows (Nam).
import Derived.Test.YtihlimbdgipdeaaPNamx0
namespace Go.Proofs.Ytihlimbdgipdeaa.PNam
open Go.RowKit Go.Proofs.YtihlimbdgipdeaaW.PrintWords Go.Proofs.YtihlimbdgipdeaaW.PrintLast Go.Proofs.YtihlimbdgipdeaaW.PrintMore
attribute [local go_sem] max2_int min2_int max_two min_two max_three min_three max_four min_four   -- for this text's walks alone
open Go.Proofs.Ytihlimbdgipdeaa.Hand Go.Proofs.Ytihlimbdgipdeaa.PBase0
set_option linter.unusedVariables false
set_option linter.unusedSimpArgs false

/-! ### bolterlaw02_labels: function 21 -/
mutual
def bolterlaw02_labels.l0 : Nat → ByteArray → List ByteArray → Int → Option (List ByteArray × Bool)
  | 0, _, _, _ => none
  | k + 1, x0, x4, x5 => if x5 < (x0.size : Int) then (if 0 ≤ x5 then (if (wrap64 (bt x0 x5)) < 1 then (bolterlaw02_labels.j1 k x0 x4 x5 (wrap64 (bt x0 x5)) true) else (if (wrap64 (bt x0 x5)) > 63 then (bolterlaw02_labels.j1 k x0 x4 x5 (wrap64 (bt x0 x5)) true) else (bolterlaw02_labels.j1 k x0 x4 x5 (wrap64 (bt x0 x5)) (decide ((wrap64 (x5 + (wrap64 (bt x0 x5)))) ≥ (x0.size : Int)))))) else (none)) else (some (x4, true))
def bolterlaw02_labels.j1 : Nat → ByteArray → List ByteArray → Int → Int → Bool → Option (List ByteArray × Bool)
  | 0, _, _, _, _, _ => none
  | k + 1, x0, x4, x5, x6, x33 => if x33 = true then (some (([] : List ByteArray), false)) else (if 0 ≤ (wrap64 (x5 + 1)) then (if (wrap64 (x5 + 1)) ≤ (wrap64 ((wrap64 (x5 + 1)) + x6)) then (if (wrap64 ((wrap64 (x5 + 1)) + x6)) ≤ (x0.size : Int) then (bolterlaw02_labels.l1 k x0 x4 x5 x6 (x0.extract ((wrap64 (x5 + 1)) : Int).toNat ((wrap64 ((wrap64 (x5 + 1)) + x6)) : Int).toNat) 0) else (none)) else (none)) else (none))
def bolterlaw02_labels.l1 : Nat → ByteArray → List ByteArray → Int → Int → ByteArray → Int → Option (List ByteArray × Bool)
  | 0, _, _, _, _, _, _ => none
  | k + 1, x0, x4, x5, x6, x7, x8 => if x8 < x6 then (if 0 ≤ x8 then (if x8 < (x7.size : Int) then (if (bt x7 x8) ≥ 65 then (if (bt x7 x8) ≤ 90 then (some (([] : List ByteArray), false)) else (bolterlaw02_labels.l1 k x0 x4 x5 x6 x7 (wrap64 (x8 + 1)))) else (bolterlaw02_labels.l1 k x0 x4 x5 x6 x7 (wrap64 (x8 + 1)))) else (none)) else (none)) else (if x4.length < 8796093022208 then (bolterlaw02_labels.l0 k x0 (x4 ++ [x7]) (wrap64 (x5 + (wrap64 (1 + x6))))) else (none))
end
def bolterlaw02_labels.f (k : Nat) (a0 : ByteArray) : Option (List ByteArray × Bool) := if (a0.size : Int) > 254 then (some (([] : List ByteArray), false)) else (bolterlaw02_labels.l0 k a0 ([] : List ByteArray) 0)
theorem bolterlaw02_labels.mono_l : ∀ k, (∀ y0 y1 y2, LeO (bolterlaw02_labels.l0 k y0 y1 y2) (bolterlaw02_labels.l0 (k + 1) y0 y1 y2)) ∧ (∀ y0 y1 y2 y3 y4, LeO (bolterlaw02_labels.j1 k y0 y1 y2 y3 y4) (bolterlaw02_labels.j1 (k + 1) y0 y1 y2 y3 y4)) ∧ (∀ y0 y1 y2 y3 y4 y5, LeO (bolterlaw02_labels.l1 k y0 y1 y2 y3 y4 y5) (bolterlaw02_labels.l1 (k + 1) y0 y1 y2 y3 y4 y5))
  | 0 => ⟨fun _ _ _ r h => by simp [bolterlaw02_labels.l0] at h, fun _ _ _ _ _ r h => by simp [bolterlaw02_labels.j1] at h, fun _ _ _ _ _ _ r h => by simp [bolterlaw02_labels.l1] at h⟩
  | k + 1 => by
    obtain ⟨ih0, ih1, ih2⟩ := bolterlaw02_labels.mono_l k
    refine ⟨?_, ?_, ?_⟩
    · intro y0 y1 y2
      unfold bolterlaw02_labels.l0
      repeat' first
      | (with_reducible exact ih0 _ _ _)
      | (with_reducible exact ih1 _ _ _ _ _)
      | (with_reducible exact ih2 _ _ _ _ _ _)
      | (with_reducible exact LeO.refl _)
      | (with_reducible exact LeO.none _)
      | (with_reducible refine LeO.ite ?_ ?_)
      | (with_reducible refine LeO.bind ?_ (fun _ => ?_))
      | exact ih0 _ _ _
      | exact ih1 _ _ _ _ _
      | exact ih2 _ _ _ _ _ _
      | exact LeO.none _
      | refine LeO.ite ?_ ?_
      | refine LeO.bind ?_ (fun _ => ?_)
    · intro y0 y1 y2 y3 y4
      unfold bolterlaw02_labels.j1
      repeat' first
      | (with_reducible exact ih0 _ _ _)
      | (with_reducible exact ih1 _ _ _ _ _)
      | (with_reducible exact ih2 _ _ _ _ _ _)
      | (with_reducible exact LeO.refl _)
      | (with_reducible exact LeO.none _)
      | (with_reducible refine LeO.ite ?_ ?_)
      | (with_reducible refine LeO.bind ?_ (fun _ => ?_))
      | exact ih0 _ _ _
      | exact ih1 _ _ _ _ _
      | exact ih2 _ _ _ _ _ _
      | exact LeO.none _
      | refine LeO.ite ?_ ?_
      | refine LeO.bind ?_ (fun _ => ?_)
    · intro y0 y1 y2 y3 y4 y5
      unfold bolterlaw02_labels.l1
      repeat' first
      | (with_reducible exact ih0 _ _ _)
      | (with_reducible exact ih1 _ _ _ _ _)
      | (with_reducible exact ih2 _ _ _ _ _ _)
      | (with_reducible exact LeO.refl _)
      | (with_reducible exact LeO.none _)
      | (with_reducible refine LeO.ite ?_ ?_)
      | (with_reducible refine LeO.bind ?_ (fun _ => ?_))
      | exact ih0 _ _ _
      | exact ih1 _ _ _ _ _
      | exact ih2 _ _ _ _ _ _
      | exact LeO.none _
      | refine LeO.ite ?_ ?_
      | refine LeO.bind ?_ (fun _ => ?_)
theorem bolterlaw02_labels.mono : ∀ a0 k, LeO (bolterlaw02_labels.f k a0) (bolterlaw02_labels.f (k + 1) a0) := by
  intro a0 k
  obtain ⟨ih0, ih1, ih2⟩ := bolterlaw02_labels.mono_l k
  unfold bolterlaw02_labels.f
  repeat' first
      | (with_reducible exact ih0 _ _ _)
      | (with_reducible exact ih1 _ _ _ _ _)
      | (with_reducible exact ih2 _ _ _ _ _ _)
      | (with_reducible exact LeO.refl _)
      | (with_reducible exact LeO.none _)
      | (with_reducible refine LeO.ite ?_ ?_)
      | (with_reducible refine LeO.bind ?_ (fun _ => ?_))
      | exact ih0 _ _ _
      | exact ih1 _ _ _ _ _
      | exact ih2 _ _ _ _ _ _
      | exact LeO.none _
      | refine LeO.ite ?_ ?_
      | refine LeO.bind ?_ (fun _ => ?_)
set_option maxHeartbeats 8000000 in
set_option maxRecDepth 100000 in
theorem bolterlaw02_labels.calls (k : Nat) (a0 : ByteArray) (r1 : List ByteArray) (r2 : Bool) (w : World) (h : bolterlaw02_labels.f k a0 = some (r1, r2)) :
    Calls Try.prog 21 #[.string a0] w fun e w' => ∃ v0_ : Value, e = .returned (.tuple #[v0_, .bool r2]) ∧ Kd.R Kd.string 9 w' w.heap.size (fun _ => True) v0_ r1 ∧ Below w.heap.size w w' := by
  have HB := Aside0.mk (Below.refl w.heap.size w)
  have H : (if (a0.size : Int) > 254 then (some (([] : List ByteArray), false)) else (bolterlaw02_labels.l0 k a0 ([] : List ByteArray) 0)) = some (r1, r2) := h
  clear h
  by_cases c2 : (a0.size : Int) > 254
  · rw [if_pos c2] at H
    have c2b0 : decide (254 < (a0.size : Int)) = true := decide_eq_true c2
    have c2b1 : decide (254 < a0.size) = true := decide_eq_true (by omega)
    clear c2
    simp only [Option.some.injEq, Prod.mk.injEq] at H
    obtain ⟨rfl, rfl⟩ := H
    go_enter Try.func21, Try.ntmps21
    go_wp2
    go_ret2
    exact ⟨_, by first | rfl | (simp [errW_none, errW_some] <;> rfl) | (simp [*, errW_none, errW_some] <;> rfl), by first | exact Kd.R_nil _ _ _ _ _ | exact Kd.N_nil _ _ _ _ _ | exact Kd.V_nil _ _ _ _ _ | exact Kd.Q_nil _ _ _ _ _ | exact Kd.S_nil _ _ _ _ _, by repeat (first | (with_reducible first | exact HB.out | apply below_alloc | apply pw_below_drewN | apply below_drew1) | exact HB.out)⟩
  · rw [if_neg c2] at H
    have c2b0 : decide (254 < (a0.size : Int)) = false := decide_eq_false c2
    have c2b1 : decide (254 < a0.size) = false := decide_eq_false (by omega)
    clear c2
    have H' := Aside0.mk H
    clear H
    go_enter Try.func21, Try.ntmps21
    go_wp2
    go_loopg [4, 5] k (fun kq v4 v5 w' => ∃ (x4_1 : List ByteArray) (x5_1 : Int), v5 = .int .i64 x5_1 ∧ Aside0 (bolterlaw02_labels.l0 kq a0 x4_1 x5_1 = some (r1, r2)) ∧ Aside0 (kq ≤ k) ∧ Aside0 (Kd.R Kd.string 9 w' w.heap.size (fun _ => True) v4 x4_1) ∧ Aside0 (Below w.heap.size w w'))
    case atStart => exact ⟨(([] : List ByteArray)), (0), (by first | rfl | (simp; done) | (simp [*]; done)), H', ⟨Nat.le_refl _⟩, ⟨by first | exact Kd.R_nil _ _ _ _ _ | exact Kd.N_nil _ _ _ _ _ | exact Kd.V_nil _ _ _ _ _ | exact Kd.Q_nil _ _ _ _ _ | exact Kd.S_nil _ _ _ _ _⟩, ⟨by repeat (first | (with_reducible first | exact HB.out | apply below_alloc | apply pw_below_drewN | apply below_drew1) | exact HB.out)⟩⟩
    case round =>
      clear H'
      try clear c2
      try clear c2b0
      try clear c2b1
      try clear p2
      obtain ⟨x4_1, x5_1, rfl, HA, HK1, HO_4, HB⟩ := hrel
      cases gk with
      | zero => exact absurd HA.out (by simp [bolterlaw02_labels.l0])
      | succ k1 =>
        have H := HA.out
        clear HA
        simp only [bolterlaw02_labels.l0] at H
        by_cases c3 : x5_1 < (a0.size : Int)
        · rw [if_pos c3] at H
          have c3b0 : decide (x5_1 < (a0.size : Int)) = true := decide_eq_true c3
          clear c3
          by_cases c4 : 0 ≤ x5_1
          · rw [if_pos c4] at H
            have c4b0 : decide (0 ≤ x5_1) = true := decide_eq_true c4
            clear c4
            have HC6 := Aside0.mk H
            clear H
            have p5 : 0 ≤ (x5_1 : Int) := of_decide_eq_true (by first | (with_reducible assumption) | assumption)
            have q5 : x5_1 < (a0.size : Int) := of_decide_eq_true (by first | (with_reducible assumption) | assumption)
            have hx5 := bt_at a0 x5_1
            replace p5 := eq_true p5
            replace q5 := eq_true q5
            go_upto_region 7 with (fail)
            go_cut [33] (fun v33 wc => ∃ (kq : Nat) (x33_5 : Bool), v33 = .bool x33_5 ∧ Aside0 (bolterlaw02_labels.j1 kq a0 x4_1 x5_1 (wrap64 (bt a0 x5_1)) x33_5 = some (r1, r2)) ∧ Aside0 (kq ≤ k1) ∧ Aside0 (Kd.R Kd.string 9 wc w.heap.size (fun _ => True) u4 x4_1) ∧ Aside0 (Below w.heap.size w wc))
            case first =>
              have H := HC6.out
              clear HC6
              by_cases c7 : (wrap64 (bt a0 x5_1)) < 1
              · rw [if_pos c7] at H
                have c7b0 : decide ((wrap64 (bt a0 x5_1)) < 1) = true := decide_eq_true c7
                clear c7
                (first | rw [c7b0] | (simp only [i64_w, i32_w]; rw [c7b0]) | skip)
                have H' := Aside0.mk H
                clear H
                go_wp2
                go_meet
                case rel => exact ⟨_, (true), (by first | rfl | (simp; done) | (simp [*]; done)), H', ⟨by have := HK1.out; first | omega | exact Nat.le_refl _⟩, ⟨by (with_reducible repeat (first | apply Kd.R_alloc | apply Kd.R_drewN | apply Kd.R_drew)); exact HO_4.out⟩, ⟨by repeat (first | (with_reducible first | exact HB.out | apply below_alloc | apply pw_below_drewN | apply below_drew1) | exact HB.out)⟩⟩
              · rw [if_neg c7] at H
                have c7b0 : decide ((wrap64 (bt a0 x5_1)) < 1) = false := decide_eq_false c7
                clear c7
                (first | rw [c7b0] | (simp only [i64_w, i32_w]; rw [c7b0]) | skip)
                by_cases c8 : (wrap64 (bt a0 x5_1)) > 63
                · rw [if_pos c8] at H
                  have c8b0 : decide (63 < (wrap64 (bt a0 x5_1))) = true := decide_eq_true c8
                  clear c8
                  have H' := Aside0.mk H
                  clear H
                  go_wp2
                  go_meet
                  case rel => exact ⟨_, (true), (by first | rfl | (simp; done) | (simp [*]; done)), H', ⟨by have := HK1.out; first | omega | exact Nat.le_refl _⟩, ⟨by (with_reducible repeat (first | apply Kd.R_alloc | apply Kd.R_drewN | apply Kd.R_drew)); exact HO_4.out⟩, ⟨by repeat (first | (with_reducible first | exact HB.out | apply below_alloc | apply pw_below_drewN | apply below_drew1) | exact HB.out)⟩⟩
                · rw [if_neg c8] at H
                  have c8b0 : decide (63 < (wrap64 (bt a0 x5_1))) = false := decide_eq_false c8
                  clear c8
                  have H' := Aside0.mk H
                  clear H
                  go_wp2
                  go_meet
                  case rel => exact ⟨_, (decide ((wrap64 (x5_1 + (wrap64 (bt a0 x5_1)))) ≥ (a0.size : Int))), (by first | rfl | (simp; done) | (simp [*]; done)), H', ⟨by have := HK1.out; first | omega | exact Nat.le_refl _⟩, ⟨by (with_reducible repeat (first | apply Kd.R_alloc | apply Kd.R_drewN | apply Kd.R_drew)); exact HO_4.out⟩, ⟨by repeat (first | (with_reducible first | exact HB.out | apply below_alloc | apply pw_below_drewN | apply below_drew1) | exact HB.out)⟩⟩
            case rest =>
              clear HC6
              try clear c2
              try clear c2b0
              try clear c2b1
              try clear p2
              try clear c3
              try clear c3b0
              try clear c4
              try clear c4b0
              try clear p5
              try clear q5
              try clear hx5
              try clear p6
              try clear c7
              try clear c7b0
              try clear c8
              try clear c8b0
              try clear p2
              try clear p5
              try clear q5
              obtain ⟨kq, x33_5, rfl, HA, HJ5, HO_4, HB⟩ := hcut
              cases kq with
              | zero => exact absurd HA.out (by simp [bolterlaw02_labels.j1])
              | succ kj5 =>
                have H := HA.out
                clear HA
                simp only [bolterlaw02_labels.j1] at H
                by_cases c9 : x33_5 = true
                · subst c9
                  have H1 : (some (([] : List ByteArray), false)) = some (r1, r2) := by rw [if_pos rfl] at H; exact H
                  clear H
                  have H := H1
                  clear H1
                  simp only [Option.some.injEq, Prod.mk.injEq] at H
                  obtain ⟨rfl, rfl⟩ := H
                  go_wp2
                  go_ret2
                  exact ⟨_, by first | rfl | (simp [errW_none, errW_some] <;> rfl) | (simp [*, errW_none, errW_some] <;> rfl), by first | exact Kd.R_nil _ _ _ _ _ | exact Kd.N_nil _ _ _ _ _ | exact Kd.V_nil _ _ _ _ _ | exact Kd.Q_nil _ _ _ _ _ | exact Kd.S_nil _ _ _ _ _, by repeat (first | (with_reducible first | exact HB.out | apply below_alloc | apply pw_below_drewN | apply below_drew1) | exact HB.out)⟩
                · replace c9 := Bool.eq_false_iff.mpr c9
                  subst c9
                  have H1 : (if 0 ≤ (wrap64 (x5_1 + 1)) then (if (wrap64 (x5_1 + 1)) ≤ (wrap64 ((wrap64 (x5_1 + 1)) + (wrap64 (bt a0 x5_1)))) then (if (wrap64 ((wrap64 (x5_1 + 1)) + (wrap64 (bt a0 x5_1)))) ≤ (a0.size : Int) then (bolterlaw02_labels.l1 kj5 a0 x4_1 x5_1 (wrap64 (bt a0 x5_1)) (a0.extract ((wrap64 (x5_1 + 1)) : Int).toNat ((wrap64 ((wrap64 (x5_1 + 1)) + (wrap64 (bt a0 x5_1)))) : Int).toNat) 0) else (none)) else (none)) else (none)) = some (r1, r2) := by rw [if_neg (show ¬ (false = true) by decide)] at H; exact H
                  clear H
                  have H := H1
                  clear H1
                  obtain ⟨ji10, hji10⟩ : ∃ j_ : Int, (wrap64 (x5_1 + 1)) = j_ := ⟨_, rfl⟩
                  replace H : (if 0 ≤ (ji10) then (if (ji10) ≤ (wrap64 ((ji10) + (wrap64 (bt a0 x5_1)))) then (if (wrap64 ((ji10) + (wrap64 (bt a0 x5_1)))) ≤ (a0.size : Int) then (bolterlaw02_labels.l1 kj5 a0 x4_1 x5_1 (wrap64 (bt a0 x5_1)) (a0.extract ((ji10) : Int).toNat ((wrap64 ((ji10) + (wrap64 (bt a0 x5_1)))) : Int).toNat) 0) else (none)) else (none)) else (none)) = some (r1, r2) := by first | (rw [hji10] at H; exact H) | (simp only [hji10] at H ⊢; exact H)
                  have hji10w : (IntKind.i64.wrap (x5_1 + 1)) = ji10 := (i64_w _).trans hji10
                  by_cases c11 : 0 ≤ (ji10)
                  · rw [if_pos c11] at H
                    have c11b0 := eq_true c11
                    have c11b1 : decide (0 ≤ (ji10)) = true := decide_eq_true c11
                    clear c11
                    by_cases c12 : (ji10) ≤ (wrap64 ((ji10) + (wrap64 (bt a0 x5_1))))
                    · rw [if_pos c12] at H
                      have c12b0 := eq_true c12
                      have c12b1 : decide ((ji10) ≤ (wrap64 ((ji10) + (wrap64 (bt a0 x5_1))))) = true := decide_eq_true c12
                      by_cases c13 : (wrap64 ((ji10) + (wrap64 (bt a0 x5_1)))) ≤ (a0.size : Int)
                      · rw [if_pos c13] at H
                        have c13b0 := eq_true c13
                        have c13b1 : decide ((wrap64 ((ji10) + (wrap64 (bt a0 x5_1)))) ≤ (a0.size : Int)) = true := decide_eq_true c13
                        have H' := Aside0.mk H
                        clear H
                        go_wp2
                        go_loopg [8] kj5 (fun kq v8 w' => ∃ (x8_3 : Int), v8 = .int .i64 x8_3 ∧ Aside0 (bolterlaw02_labels.l1 kq a0 x4_1 x5_1 (wrap64 (bt a0 x5_1)) (a0.extract ((ji10) : Int).toNat ((wrap64 ((ji10) + (wrap64 (bt a0 x5_1)))) : Int).toNat) x8_3 = some (r1, r2)) ∧ Aside0 (kq ≤ kj5) ∧ Aside0 (Kd.R Kd.string 9 w' w.heap.size (fun _ => True) u4 x4_1) ∧ Aside0 (Below w.heap.size w w'))
                        case atStart => exact ⟨(0), (by first | rfl | (simp; done) | (simp [*]; done)), H', ⟨Nat.le_refl _⟩, ⟨by (with_reducible repeat (first | apply Kd.R_alloc | apply Kd.R_drewN | apply Kd.R_drew)); exact HO_4.out⟩, ⟨by repeat (first | (with_reducible first | exact HB.out | apply below_alloc | apply pw_below_drewN | apply below_drew1) | exact HB.out)⟩⟩
                        case round =>
                          clear H'
                          try clear c1
                          try clear c2
                          try clear c2b0
                          try clear c2b1
                          try clear p2
                          try clear c3
                          try clear c3b0
                          try clear c4
                          try clear c4b0
                          try clear p5
                          try clear q5
                          try clear hx5
                          try clear p6
                          try clear c7
                          try clear c7b0
                          try clear c8
                          try clear c8b0
                          try clear c9
                          try clear c11
                          try clear c11b0
                          try clear c11b1
                          try clear c12
                          try clear c12b0
                          try clear c12b1
                          try clear c13
                          try clear c13b0
                          try clear c13b1
                          try clear p2
                          try clear p5
                          try clear p6
                          try clear q5
                          obtain ⟨x8_3, rfl, HA, HK3, HO_4, HB⟩ := hrel
                          cases gk with
                          | zero => exact absurd HA.out (by simp [bolterlaw02_labels.l1])
                          | succ k3 =>
                            have H := HA.out
                            clear HA
                            simp only [bolterlaw02_labels.l1] at H
                            by_cases c14 : x8_3 < (wrap64 (bt a0 x5_1))
                            · rw [if_pos c14] at H
                              have c14b0 : decide (x8_3 < (wrap64 (bt a0 x5_1))) = true := decide_eq_true c14
                              clear c14
                              by_cases c15 : 0 ≤ x8_3
                              · rw [if_pos c15] at H
                                have c15b0 : decide (0 ≤ x8_3) = true := decide_eq_true c15
                                clear c15
                                by_cases c16 : x8_3 < ((a0.extract ((ji10) : Int).toNat ((wrap64 ((ji10) + (wrap64 (bt a0 x5_1)))) : Int).toNat).size : Int)
                                · rw [if_pos c16] at H
                                  have c16b0 : decide (x8_3 < ((a0.extract ((ji10) : Int).toNat ((wrap64 ((ji10) + (wrap64 (bt a0 x5_1)))) : Int).toNat).size : Int)) = true := decide_eq_true c16
                                  have c16s : x8_3 < ((min (wrap64 ((ji10) + (wrap64 (bt a0 x5_1)))).toNat a0.size - ji10.toNat : Nat) : Int) := by have h_ := of_decide_eq_true c16b0; rw [ByteArray.size_extract] at h_; exact h_
                                  have c16t := decide_eq_true c16s
                                  clear c16
                                  by_cases c18 : (bt (a0.extract ((ji10) : Int).toNat ((wrap64 ((ji10) + (wrap64 (bt a0 x5_1)))) : Int).toNat) x8_3) ≥ 65
                                  · rw [if_pos c18] at H
                                    have c18b0 : decide (65 ≤ (bt (a0.extract ((ji10) : Int).toNat ((wrap64 ((ji10) + (wrap64 (bt a0 x5_1)))) : Int).toNat) x8_3)) = true := decide_eq_true c18
                                    clear c18
                                    by_cases c20 : (bt (a0.extract ((ji10) : Int).toNat ((wrap64 ((ji10) + (wrap64 (bt a0 x5_1)))) : Int).toNat) x8_3) ≤ 90
                                    · rw [if_pos c20] at H
                                      have c20b0 : decide ((bt (a0.extract ((ji10) : Int).toNat ((wrap64 ((ji10) + (wrap64 (bt a0 x5_1)))) : Int).toNat) x8_3) ≤ 90) = true := decide_eq_true c20
                                      clear c20
                                      simp only [Option.some.injEq, Prod.mk.injEq] at H
                                      obtain ⟨rfl, rfl⟩ := H
                                      have p17 : 0 ≤ (x8_3 : Int) := of_decide_eq_true (by first | (with_reducible assumption) | assumption)
                                      have q17 : x8_3 < ((a0.extract ((ji10) : Int).toNat ((wrap64 ((ji10) + (wrap64 (bt a0 x5_1)))) : Int).toNat).size : Int) := of_decide_eq_true (by first | (with_reducible assumption) | assumption)
                                      have hx17 := bt_at (a0.extract ((ji10) : Int).toNat ((wrap64 ((ji10) + (wrap64 (bt a0 x5_1)))) : Int).toNat) x8_3
                                      replace p17 := eq_true p17
                                      replace q17 := eq_true q17
                                      have p19 : 0 ≤ (x8_3 : Int) := of_decide_eq_true (by first | (with_reducible assumption) | assumption)
                                      have q19 : x8_3 < ((a0.extract ((ji10) : Int).toNat ((wrap64 ((ji10) + (wrap64 (bt a0 x5_1)))) : Int).toNat).size : Int) := of_decide_eq_true (by first | (with_reducible assumption) | assumption)
                                      have hx19 := bt_at (a0.extract ((ji10) : Int).toNat ((wrap64 ((ji10) + (wrap64 (bt a0 x5_1)))) : Int).toNat) x8_3
                                      replace p19 := eq_true p19
                                      replace q19 := eq_true q19
                                      go_wp2
                                      go_ret2
                                      exact ⟨_, by first | rfl | (simp [errW_none, errW_some] <;> rfl) | (simp only [← hji10]; first | rfl | (simp [errW_none, errW_some] <;> rfl)) | (simp [*, errW_none, errW_some] <;> rfl), by first | exact Kd.R_nil _ _ _ _ _ | exact Kd.N_nil _ _ _ _ _ | exact Kd.V_nil _ _ _ _ _ | exact Kd.Q_nil _ _ _ _ _ | exact Kd.S_nil _ _ _ _ _, by repeat (first | (with_reducible first | exact HB.out | apply below_alloc | apply pw_below_drewN | apply below_drew1) | exact HB.out)⟩
                                    · rw [if_neg c20] at H
                                      have c20b0 : decide ((bt (a0.extract ((ji10) : Int).toNat ((wrap64 ((ji10) + (wrap64 (bt a0 x5_1)))) : Int).toNat) x8_3) ≤ 90) = false := decide_eq_false c20
                                      clear c20
                                      have H' := Aside0.mk H
                                      clear H
                                      have p17 : 0 ≤ (x8_3 : Int) := of_decide_eq_true (by first | (with_reducible assumption) | assumption)
                                      have q17 : x8_3 < ((a0.extract ((ji10) : Int).toNat ((wrap64 ((ji10) + (wrap64 (bt a0 x5_1)))) : Int).toNat).size : Int) := of_decide_eq_true (by first | (with_reducible assumption) | assumption)
                                      have hx17 := bt_at (a0.extract ((ji10) : Int).toNat ((wrap64 ((ji10) + (wrap64 (bt a0 x5_1)))) : Int).toNat) x8_3
                                      replace p17 := eq_true p17
                                      replace q17 := eq_true q17
                                      have p19 : 0 ≤ (x8_3 : Int) := of_decide_eq_true (by first | (with_reducible assumption) | assumption)
                                      have q19 : x8_3 < ((a0.extract ((ji10) : Int).toNat ((wrap64 ((ji10) + (wrap64 (bt a0 x5_1)))) : Int).toNat).size : Int) := of_decide_eq_true (by first | (with_reducible assumption) | assumption)
                                      have hx19 := bt_at (a0.extract ((ji10) : Int).toNat ((wrap64 ((ji10) + (wrap64 (bt a0 x5_1)))) : Int).toNat) x8_3
                                      replace p19 := eq_true p19
                                      replace q19 := eq_true q19
                                      go_wp2
                                      go_roundg k3
                                      case measure => have := HK1.out; have := HJ5.out; have := HK3.out; omega
                                      case rel => exact ⟨(wrap64 (x8_3 + 1)), (by first | rfl | (simp; done) | (simp [*]; done)), H', ⟨by have := HK1.out; have := HJ5.out; have := HK3.out; omega⟩, ⟨by (with_reducible repeat (first | apply Kd.R_alloc | apply Kd.R_drewN | apply Kd.R_drew)); exact HO_4.out⟩, ⟨by repeat (first | (with_reducible first | exact HB.out | apply below_alloc | apply pw_below_drewN | apply below_drew1) | exact HB.out)⟩⟩
                                  · rw [if_neg c18] at H
                                    have c18b0 : decide (65 ≤ (bt (a0.extract ((ji10) : Int).toNat ((wrap64 ((ji10) + (wrap64 (bt a0 x5_1)))) : Int).toNat) x8_3)) = false := decide_eq_false c18
                                    clear c18
                                    have H' := Aside0.mk H
                                    clear H
                                    have p17 : 0 ≤ (x8_3 : Int) := of_decide_eq_true (by first | (with_reducible assumption) | assumption)
                                    have q17 : x8_3 < ((a0.extract ((ji10) : Int).toNat ((wrap64 ((ji10) + (wrap64 (bt a0 x5_1)))) : Int).toNat).size : Int) := of_decide_eq_true (by first | (with_reducible assumption) | assumption)
                                    have hx17 := bt_at (a0.extract ((ji10) : Int).toNat ((wrap64 ((ji10) + (wrap64 (bt a0 x5_1)))) : Int).toNat) x8_3
                                    replace p17 := eq_true p17
                                    replace q17 := eq_true q17
                                    go_wp2
                                    go_roundg k3
                                    case measure => have := HK1.out; have := HJ5.out; have := HK3.out; omega
                                    case rel => exact ⟨(wrap64 (x8_3 + 1)), (by first | rfl | (simp; done) | (simp [*]; done)), H', ⟨by have := HK1.out; have := HJ5.out; have := HK3.out; omega⟩, ⟨by (with_reducible repeat (first | apply Kd.R_alloc | apply Kd.R_drewN | apply Kd.R_drew)); exact HO_4.out⟩, ⟨by repeat (first | (with_reducible first | exact HB.out | apply below_alloc | apply pw_below_drewN | apply below_drew1) | exact HB.out)⟩⟩
                                · rw [if_neg c16] at H
                                  exact absurd H (by simp)
                              · rw [if_neg c15] at H
                                exact absurd H (by simp)
                            · rw [if_neg c14] at H
                              have c14b0 : decide (x8_3 < (wrap64 (bt a0 x5_1))) = false := decide_eq_false c14
                              clear c14
                              by_cases c21 : x4_1.length < 8796093022208
                              · rw [if_pos c21] at H
                                have LMc21 := Aside0.mk c21
                                clear c21
                                obtain ⟨y159, hy159⟩ : ∃ y_ : List ByteArray, y_ = (x4_1 ++ [(a0.extract ((ji10) : Int).toNat ((wrap64 ((ji10) + (wrap64 (bt a0 x5_1)))) : Int).toNat)]) := ⟨_, rfl⟩
                                replace H : (bolterlaw02_labels.l0 k3 a0 y159 (wrap64 (x5_1 + (wrap64 (1 + (wrap64 (bt a0 x5_1))))))) = some (r1, r2) := by first | (rw [hy159]; with_reducible exact H) | (have H2_ := (Option.bind_some _ _).symm.trans H; rw [hy159]; with_reducible exact H2_) | (have H2_ := (Option.bind_some _ _).symm.trans H; with_reducible exact H2_) | with_reducible exact H | (rw [hy159]; exact H) | exact H
                                have Ny159 := Aside0.mk hy159
                                clear hy159
                                have H' := Aside0.mk H
                                clear H
                                go_wp2_with (first | ((with_reducible refine gate_builtin (b := .append) (xs := #[.tmp 57, .tmp 59]) rfl ?_); (try (refine gate_guard (by rfl) ?_; dsimp only)); at_builtin; refine Kd.R_append Kd.string (w0 := w) w.heap.size rfl (.tmp 57) (.tmp 59) 28 9 (.string ⟨#[]⟩) 16 rfl Try.underlying28 info9 rfl (by decide) (by omega) u4 x4_1 (a0.extract ((ji10) : Int).toNat ((wrap64 ((ji10) + (wrap64 (bt a0 x5_1)))) : Int).toNat) [.string (a0.extract ((ji10) : Int).toNat ((wrap64 ((ji10) + (wrap64 (bt a0 x5_1)))) : Int).toNat)] (fun _ => True) (fun _ => False) rfl rfl ?aP (fun _ hk => hk.elim) ?aF ?aO ?aB ?aS ?aL ?_; (case aP => exact rfl); (case aB => exact (by repeat (first | (with_reducible first | exact HB.out | apply below_alloc | apply pw_below_drewN | apply below_drew1) | exact HB.out))); (case aF => exact (fun _ _ => trivial)); (case aO => exact (by (with_reducible repeat (first | apply Kd.R_alloc | apply Kd.R_drewN | apply Kd.R_drew)); exact HO_4.out)); (case aS => exact (below_size (by repeat (first | (with_reducible first | exact HB.out | apply below_alloc | apply pw_below_drewN | apply below_drew1) | exact HB.out)))); (case aL => have := LMc21.out; omega); intro v160 w22 ho hb hg hat; rw [← Ny159.out] at ho; have n0_ := Aside0.mk (hb); have n1_ := Aside0.mk (ho); clear HB; clear HO_4; have HB := n0_; have HO161 := n1_; clear n0_ n1_; clear ho hb hg hat))
                                go_roundg k3
                                case measure => have := HK1.out; have := HJ5.out; have := HK3.out; omega
                                case rel => exact ⟨(y159), (wrap64 (x5_1 + (wrap64 (1 + (wrap64 (bt a0 x5_1)))))), (by first | rfl | (simp; done) | (simp [*]; done)), H', ⟨by have := HK1.out; have := HJ5.out; have := HK3.out; omega⟩, ⟨by (with_reducible repeat (first | apply Kd.R_alloc | apply Kd.R_drewN | apply Kd.R_drew)); exact HO161.out⟩, ⟨by repeat (first | (with_reducible first | exact HB.out | apply below_alloc | apply pw_below_drewN | apply below_drew1) | exact HB.out)⟩⟩
                              · rw [if_neg c21] at H
                                exact absurd H (by simp)
                      · rw [if_neg c13] at H
                        exact absurd H (by simp)
                    · rw [if_neg c12] at H
                      exact absurd H (by simp)
                  · rw [if_neg c11] at H
                    exact absurd H (by simp)
          · rw [if_neg c4] at H
            exact absurd H (by simp)
        · rw [if_neg c3] at H
          have c3b0 : decide (x5_1 < (a0.size : Int)) = false := decide_eq_false c3
          clear c3
          simp only [Option.some.injEq, Prod.mk.injEq] at H
          obtain ⟨rfl, rfl⟩ := H
          go_wp2
          go_ret2
          exact ⟨_, by first | rfl | (simp [errW_none, errW_some] <;> rfl) | (simp [*, errW_none, errW_some] <;> rfl), by (with_reducible repeat (first | apply Kd.R_alloc | apply Kd.R_drewN | apply Kd.R_drew)); exact HO_4.out, by repeat (first | (with_reducible first | exact HB.out | apply below_alloc | apply pw_below_drewN | apply below_drew1) | exact HB.out)⟩

end Go.Proofs.Ytihlimbdgipdeaa.PNam
