-- Written by a program of this session (wip/tools/drive.py over the kit's printer): functions, contracts and rows (All).
import Derived.Test.YtdkjlbbbdjkhbaaPAllx0
namespace Go.Proofs.Ytdkjlbbbdjkhbaa.PAll
open Go.RowKit Go.Proofs.YtdkjlbbbdjkhbaaW.PrintWords Go.Proofs.YtdkjlbbbdjkhbaaW.PrintLast Go.Proofs.YtdkjlbbbdjkhbaaW.PrintMore
attribute [local go_sem] max2_int min2_int max_two min_two max_three min_three max_four min_four   -- for this text's walks alone
open Go.Proofs.Ytdkjlbbbdjkhbaa.Hand
set_option linter.unusedVariables false
set_option linter.unusedSimpArgs false

/-! ### name_Labels: function 37 -/
mutual
def name_Labels.j0 : Nat → List ByteArray → ByteArray → Bool → Option (List ByteArray × Bool)
  | 0, _, _, _ => none
  | k + 1, x4, x5, x16 => if x16 = true then (some (([] : List ByteArray), false)) else (name_Labels.l0 k x4 x5)
def name_Labels.l0 : Nat → List ByteArray → ByteArray → Option (List ByteArray × Bool)
  | 0, _, _ => none
  | k + 1, x4, x5 => if (x5.size : Int) > 0 then (if 0 < (x5.size : Int) then (if (wrap64 (bt x5 0)) < 1 then (some (([] : List ByteArray), false)) else (if (wrap64 (bt x5 0)) > 63 then (some (([] : List ByteArray), false)) else (if (wrap64 (bt x5 0)) ≥ (x5.size : Int) then (some (([] : List ByteArray), false)) else (if 1 ≤ (wrap64 (1 + (wrap64 (bt x5 0)))) then (if (wrap64 (1 + (wrap64 (bt x5 0)))) ≤ (x5.size : Int) then (if x4.length < 8796093022208 then (if 0 ≤ (wrap64 (1 + (wrap64 (bt x5 0)))) then (name_Labels.l0 k (x4 ++ [x5.extract 1 ((wrap64 (1 + (wrap64 (bt x5 0)))) : Int).toNat]) (x5.extract ((wrap64 (1 + (wrap64 (bt x5 0)))) : Int).toNat x5.size)) else (none)) else (none)) else (none)) else (none))))) else (none)) else (some (x4, true))
end
def name_Labels.f (k : Nat) (a0 : ByteArray) : Option (List ByteArray × Bool) := if (a0.size : Int) > 254 then (name_Labels.j0 k ([] : List ByteArray) a0 true) else ((name_folded.f a0).bind fun t101 => (name_Labels.j0 k ([] : List ByteArray) a0 (a0.toList != t101.toList)))
theorem name_Labels.mono_l : ∀ k, (∀ y0 y1 y2, LeO (name_Labels.j0 k y0 y1 y2) (name_Labels.j0 (k + 1) y0 y1 y2)) ∧ (∀ y0 y1, LeO (name_Labels.l0 k y0 y1) (name_Labels.l0 (k + 1) y0 y1))
  | 0 => ⟨fun _ _ _ r h => by simp [name_Labels.j0] at h, fun _ _ r h => by simp [name_Labels.l0] at h⟩
  | k + 1 => by
    obtain ⟨ih0, ih1⟩ := name_Labels.mono_l k
    refine ⟨?_, ?_⟩
    · intro y0 y1 y2
      unfold name_Labels.j0
      repeat' first
      | (with_reducible exact ih0 _ _ _)
      | (with_reducible exact ih1 _ _)
      | (with_reducible exact LeO.refl _)
      | (with_reducible exact LeO.none _)
      | (with_reducible refine LeO.ite ?_ ?_)
      | (with_reducible refine LeO.bind ?_ (fun _ => ?_))
      | exact ih0 _ _ _
      | exact ih1 _ _
      | exact LeO.none _
      | refine LeO.ite ?_ ?_
      | refine LeO.bind ?_ (fun _ => ?_)
    · intro y0 y1
      unfold name_Labels.l0
      repeat' first
      | (with_reducible exact ih0 _ _ _)
      | (with_reducible exact ih1 _ _)
      | (with_reducible exact LeO.refl _)
      | (with_reducible exact LeO.none _)
      | (with_reducible refine LeO.ite ?_ ?_)
      | (with_reducible refine LeO.bind ?_ (fun _ => ?_))
      | exact ih0 _ _ _
      | exact ih1 _ _
      | exact LeO.none _
      | refine LeO.ite ?_ ?_
      | refine LeO.bind ?_ (fun _ => ?_)
theorem name_Labels.mono : ∀ a0 k, LeO (name_Labels.f k a0) (name_Labels.f (k + 1) a0) := by
  intro a0 k
  obtain ⟨ih0, ih1⟩ := name_Labels.mono_l k
  unfold name_Labels.f
  repeat' first
      | (with_reducible exact ih0 _ _ _)
      | (with_reducible exact ih1 _ _)
      | (with_reducible exact LeO.refl _)
      | (with_reducible exact LeO.none _)
      | (with_reducible refine LeO.ite ?_ ?_)
      | (with_reducible refine LeO.bind ?_ (fun _ => ?_))
      | exact ih0 _ _ _
      | exact ih1 _ _
      | exact LeO.none _
      | refine LeO.ite ?_ ?_
      | refine LeO.bind ?_ (fun _ => ?_)
set_option maxHeartbeats 8000000 in
set_option maxRecDepth 100000 in
theorem name_Labels.calls (k : Nat) (a0 : ByteArray) (r1 : List ByteArray) (r2 : Bool) (w : World) (h : name_Labels.f k a0 = some (r1, r2)) :
    Calls Try.prog 37 #[.string a0] w fun e w' => ∃ v0_ : Value, e = .returned (.tuple #[v0_, .bool r2]) ∧ Kd.R Kd.string 9 w' w.heap.size (fun _ => True) v0_ r1 ∧ Below w.heap.size w w' := by
  have HB := Aside0.mk (Below.refl w.heap.size w)
  have H : (if (a0.size : Int) > 254 then (name_Labels.j0 k ([] : List ByteArray) a0 true) else ((name_folded.f a0).bind fun t101 => (name_Labels.j0 k ([] : List ByteArray) a0 (a0.toList != t101.toList)))) = some (r1, r2) := h
  clear h
  have HC2 := Aside0.mk H
  clear H
  go_enter Try.func37, Try.ntmps37
  go_upto_region 3 with (fail)
  go_cut [16] (fun v16 wc => ∃ (kq : Nat) (x16_1 : Bool), v16 = .bool x16_1 ∧ Aside0 (name_Labels.j0 kq ([] : List ByteArray) a0 x16_1 = some (r1, r2)) ∧ Aside0 (kq ≤ k) ∧ Aside0 (Kd.R Kd.string 9 wc w.heap.size (fun _ => True) (.slice none 0 0) ([] : List ByteArray)) ∧ Aside0 (Below w.heap.size w wc))
  case first =>
    have H := HC2.out
    clear HC2
    by_cases c3 : (a0.size : Int) > 254
    · rw [if_pos c3] at H
      have c3b0 : decide (254 < (a0.size : Int)) = true := decide_eq_true c3
      have c3b1 : decide (254 < a0.size) = true := decide_eq_true (by omega)
      clear c3
      (first | rw [c3b0] | (simp only [i64_w, i32_w]; rw [c3b0]) | skip)
      have H' := Aside0.mk H
      clear H
      go_wp2
      go_meet
      case rel => exact ⟨_, (true), (by first | rfl | (simp; done) | (simp [*]; done)), H', ⟨by first | omega | exact Nat.le_refl _⟩, ⟨by first | exact Kd.R_nil _ _ _ _ _ | exact Kd.N_nil _ _ _ _ _ | exact Kd.V_nil _ _ _ _ _ | exact Kd.Q_nil _ _ _ _ _ | exact Kd.S_nil _ _ _ _ _⟩, ⟨by repeat (first | (with_reducible first | exact HB.out | apply below_alloc | apply pw_below_drewN | apply below_drew1) | exact HB.out)⟩⟩
    · rw [if_neg c3] at H
      have c3b0 : decide (254 < (a0.size : Int)) = false := decide_eq_false c3
      have c3b1 : decide (254 < a0.size) = false := decide_eq_false (by omega)
      clear c3
      (first | rw [c3b0] | (simp only [i64_w, i32_w]; rw [c3b0]) | skip)
      replace H := Option.bind_eq_some_iff.mp H
      obtain ⟨t101, A40, H⟩ := H
      replace H : (name_Labels.j0 k ([] : List ByteArray) a0 (a0.toList != t101.toList)) = some (r1, r2) := H
      have A4 := Aside0.mk A40
      clear A40
      have H' := Aside0.mk H
      clear H
      go_wp2_with (first | (go_at_call 46; (with_reducible refine (name_folded.calls a0 t101 _ A4.out).mono ?_); rintro e w5 ⟨rfl, hb⟩; have n0_ := Aside0.mk (below_step (by repeat (first | (with_reducible first | exact HB.out | apply below_alloc | apply pw_below_drewN | apply below_drew1) | exact HB.out)) hb); clear HB; have HB := n0_; clear n0_; (try clear hb); (try clear hb2); (try clear hk); (try clear hi)))
      go_meet
      case rel => exact ⟨_, ((a0.toList != t101.toList)), (by first | rfl | (simp; done) | (simp [*]; done)), H', ⟨by first | omega | exact Nat.le_refl _⟩, ⟨by first | exact Kd.R_nil _ _ _ _ _ | exact Kd.N_nil _ _ _ _ _ | exact Kd.V_nil _ _ _ _ _ | exact Kd.Q_nil _ _ _ _ _ | exact Kd.S_nil _ _ _ _ _⟩, ⟨by repeat (first | (with_reducible first | exact HB.out | apply below_alloc | apply pw_below_drewN | apply below_drew1) | exact HB.out)⟩⟩
  case rest =>
    clear HC2
    try clear p2
    try clear c3
    try clear c3b0
    try clear c3b1
    obtain ⟨kq, x16_1, rfl, HA, HJ1, HO_4, HB⟩ := hcut
    cases kq with
    | zero => exact absurd HA.out (by simp [name_Labels.j0])
    | succ kj1 =>
      have H := HA.out
      clear HA
      simp only [name_Labels.j0] at H
      by_cases c6 : x16_1 = true
      · subst c6
        have H1 : (some (([] : List ByteArray), false)) = some (r1, r2) := by rw [if_pos rfl] at H; exact H
        clear H
        have H := H1
        clear H1
        simp only [Option.some.injEq, Prod.mk.injEq] at H
        obtain ⟨rfl, rfl⟩ := H
        go_wp2
        go_ret2
        exact ⟨_, by first | rfl | (simp [errW_none, errW_some] <;> rfl) | (simp [*, errW_none, errW_some] <;> rfl), by first | exact Kd.R_nil _ _ _ _ _ | exact Kd.N_nil _ _ _ _ _ | exact Kd.V_nil _ _ _ _ _ | exact Kd.Q_nil _ _ _ _ _ | exact Kd.S_nil _ _ _ _ _, by repeat (first | (with_reducible first | exact HB.out | apply below_alloc | apply pw_below_drewN | apply below_drew1) | exact HB.out)⟩
      · replace c6 := Bool.eq_false_iff.mpr c6
        subst c6
        have H1 : (name_Labels.l0 kj1 ([] : List ByteArray) a0) = some (r1, r2) := by rw [if_neg (show ¬ (false = true) by decide)] at H; exact H
        clear H
        have H := H1
        clear H1
        have H' := Aside0.mk H
        clear H
        go_wp2
        go_loopg [4, 5] kj1 (fun kq v4 v5 w' => ∃ (x4_2 : List ByteArray) (x5_2 : ByteArray), v5 = .string x5_2 ∧ Aside0 (name_Labels.l0 kq x4_2 x5_2 = some (r1, r2)) ∧ Aside0 (kq ≤ kj1) ∧ Aside0 (Kd.R Kd.string 9 w' w.heap.size (fun _ => True) v4 x4_2) ∧ Aside0 (Below w.heap.size w w'))
        case atStart => exact ⟨(([] : List ByteArray)), (a0), (by first | rfl | (simp; done) | (simp [*]; done)), H', ⟨Nat.le_refl _⟩, ⟨by (with_reducible repeat (first | apply Kd.R_alloc | apply Kd.R_drewN | apply Kd.R_drew)); exact HO_4.out⟩, ⟨by repeat (first | (with_reducible first | exact HB.out | apply below_alloc | apply pw_below_drewN | apply below_drew1) | exact HB.out)⟩⟩
        case round =>
          clear H'
          try clear p2
          try clear c3
          try clear c3b0
          try clear c3b1
          try clear c6
          try clear p2
          obtain ⟨x4_2, x5_2, rfl, HA, HK2, HO_4, HB⟩ := hrel
          cases gk with
          | zero => exact absurd HA.out (by simp [name_Labels.l0])
          | succ k2 =>
            have H := HA.out
            clear HA
            simp only [name_Labels.l0] at H
            by_cases c7 : (x5_2.size : Int) > 0
            · rw [if_pos c7] at H
              have c7b0 : decide (0 < (x5_2.size : Int)) = true := decide_eq_true c7
              have c7b1 : decide (0 < x5_2.size) = true := decide_eq_true (by omega)
              clear c7
              by_cases c8 : 0 < (x5_2.size : Int)
              · rw [if_pos c8] at H
                have c8b0 : decide (0 < (x5_2.size : Int)) = true := decide_eq_true c8
                have c8b1 : decide (0 < x5_2.size) = true := decide_eq_true (by omega)
                clear c8
                by_cases c10 : (wrap64 (bt x5_2 0)) < 1
                · rw [if_pos c10] at H
                  have c10b0 : decide ((wrap64 (bt x5_2 0)) < 1) = true := decide_eq_true c10
                  clear c10
                  simp only [Option.some.injEq, Prod.mk.injEq] at H
                  obtain ⟨rfl, rfl⟩ := H
                  have p9 : 0 ≤ (0 : Int) := (by omega)
                  have q9 : 0 < x5_2.size := (by have : (0 : Int) < (x5_2.size : Int) := of_decide_eq_true (by first | (with_reducible assumption) | assumption); omega)
                  have hx9 : ∀ h : 0 < x5_2.size, ((x5_2[0]'h).toNat : Int) = bt x5_2 0 := bt_at x5_2 0
                  clear p9
                  have qi9 : (0 < (x5_2.size : Int)) = True := eq_true (of_decide_eq_true (by first | (with_reducible assumption) | assumption))
                  replace q9 := eq_true q9
                  go_wp2
                  go_ret2
                  exact ⟨_, by first | rfl | (simp [errW_none, errW_some] <;> rfl) | (simp [*, errW_none, errW_some] <;> rfl), by first | exact Kd.R_nil _ _ _ _ _ | exact Kd.N_nil _ _ _ _ _ | exact Kd.V_nil _ _ _ _ _ | exact Kd.Q_nil _ _ _ _ _ | exact Kd.S_nil _ _ _ _ _, by repeat (first | (with_reducible first | exact HB.out | apply below_alloc | apply pw_below_drewN | apply below_drew1) | exact HB.out)⟩
                · rw [if_neg c10] at H
                  have c10b0 : decide ((wrap64 (bt x5_2 0)) < 1) = false := decide_eq_false c10
                  clear c10
                  by_cases c11 : (wrap64 (bt x5_2 0)) > 63
                  · rw [if_pos c11] at H
                    have c11b0 : decide (63 < (wrap64 (bt x5_2 0))) = true := decide_eq_true c11
                    clear c11
                    simp only [Option.some.injEq, Prod.mk.injEq] at H
                    obtain ⟨rfl, rfl⟩ := H
                    have p9 : 0 ≤ (0 : Int) := (by omega)
                    have q9 : 0 < x5_2.size := (by have : (0 : Int) < (x5_2.size : Int) := of_decide_eq_true (by first | (with_reducible assumption) | assumption); omega)
                    have hx9 : ∀ h : 0 < x5_2.size, ((x5_2[0]'h).toNat : Int) = bt x5_2 0 := bt_at x5_2 0
                    clear p9
                    have qi9 : (0 < (x5_2.size : Int)) = True := eq_true (of_decide_eq_true (by first | (with_reducible assumption) | assumption))
                    replace q9 := eq_true q9
                    go_wp2
                    go_ret2
                    exact ⟨_, by first | rfl | (simp [errW_none, errW_some] <;> rfl) | (simp [*, errW_none, errW_some] <;> rfl), by first | exact Kd.R_nil _ _ _ _ _ | exact Kd.N_nil _ _ _ _ _ | exact Kd.V_nil _ _ _ _ _ | exact Kd.Q_nil _ _ _ _ _ | exact Kd.S_nil _ _ _ _ _, by repeat (first | (with_reducible first | exact HB.out | apply below_alloc | apply pw_below_drewN | apply below_drew1) | exact HB.out)⟩
                  · rw [if_neg c11] at H
                    have c11b0 : decide (63 < (wrap64 (bt x5_2 0))) = false := decide_eq_false c11
                    clear c11
                    by_cases c12 : (wrap64 (bt x5_2 0)) ≥ (x5_2.size : Int)
                    · rw [if_pos c12] at H
                      have c12b0 : decide ((x5_2.size : Int) ≤ (wrap64 (bt x5_2 0))) = true := decide_eq_true c12
                      clear c12
                      simp only [Option.some.injEq, Prod.mk.injEq] at H
                      obtain ⟨rfl, rfl⟩ := H
                      have p9 : 0 ≤ (0 : Int) := (by omega)
                      have q9 : 0 < x5_2.size := (by have : (0 : Int) < (x5_2.size : Int) := of_decide_eq_true (by first | (with_reducible assumption) | assumption); omega)
                      have hx9 : ∀ h : 0 < x5_2.size, ((x5_2[0]'h).toNat : Int) = bt x5_2 0 := bt_at x5_2 0
                      clear p9
                      have qi9 : (0 < (x5_2.size : Int)) = True := eq_true (of_decide_eq_true (by first | (with_reducible assumption) | assumption))
                      replace q9 := eq_true q9
                      go_wp2
                      go_ret2
                      exact ⟨_, by first | rfl | (simp [errW_none, errW_some] <;> rfl) | (simp [*, errW_none, errW_some] <;> rfl), by first | exact Kd.R_nil _ _ _ _ _ | exact Kd.N_nil _ _ _ _ _ | exact Kd.V_nil _ _ _ _ _ | exact Kd.Q_nil _ _ _ _ _ | exact Kd.S_nil _ _ _ _ _, by repeat (first | (with_reducible first | exact HB.out | apply below_alloc | apply pw_below_drewN | apply below_drew1) | exact HB.out)⟩
                    · rw [if_neg c12] at H
                      have c12b0 : decide ((x5_2.size : Int) ≤ (wrap64 (bt x5_2 0))) = false := decide_eq_false c12
                      clear c12
                      by_cases c13 : 1 ≤ (wrap64 (1 + (wrap64 (bt x5_2 0))))
                      · rw [if_pos c13] at H
                        have c13b0 := eq_true c13
                        have c13b1 : decide (1 ≤ (wrap64 (1 + (wrap64 (bt x5_2 0))))) = true := decide_eq_true c13
                        by_cases c14 : (wrap64 (1 + (wrap64 (bt x5_2 0)))) ≤ (x5_2.size : Int)
                        · rw [if_pos c14] at H
                          have c14b0 := eq_true c14
                          have c14b1 : decide ((wrap64 (1 + (wrap64 (bt x5_2 0)))) ≤ (x5_2.size : Int)) = true := decide_eq_true c14
                          by_cases c15 : x4_2.length < 8796093022208
                          · rw [if_pos c15] at H
                            have LMc15 := Aside0.mk c15
                            clear c15
                            obtain ⟨y102, hy102⟩ : ∃ y_ : List ByteArray, y_ = (x4_2 ++ [x5_2.extract 1 ((wrap64 (1 + (wrap64 (bt x5_2 0)))) : Int).toNat]) := ⟨_, rfl⟩
                            replace H : (if 0 ≤ (wrap64 (1 + (wrap64 (bt x5_2 0)))) then (name_Labels.l0 k2 y102 (x5_2.extract ((wrap64 (1 + (wrap64 (bt x5_2 0)))) : Int).toNat x5_2.size)) else (none)) = some (r1, r2) := by first | (rw [hy102]; with_reducible exact H) | (have H2_ := (Option.bind_some _ _).symm.trans H; rw [hy102]; with_reducible exact H2_) | (have H2_ := (Option.bind_some _ _).symm.trans H; with_reducible exact H2_) | with_reducible exact H | (rw [hy102]; exact H) | exact H
                            have Ny102 := Aside0.mk hy102
                            clear hy102
                            obtain ⟨ji16, hji16⟩ : ∃ j_ : Int, (wrap64 (1 + (wrap64 (bt x5_2 0)))) = j_ := ⟨_, rfl⟩
                            replace H : (if 0 ≤ (ji16) then (name_Labels.l0 k2 y102 (x5_2.extract ((ji16) : Int).toNat x5_2.size)) else (none)) = some (r1, r2) := by first | (rw [hji16] at H; exact H) | (simp only [hji16] at H ⊢; exact H)
                            (try rw [hji16] at c13b0)
                            (try rw [hji16] at c13b1)
                            (try rw [hji16] at c13)
                            (try rw [hji16] at c14b0)
                            (try rw [hji16] at c14b1)
                            (try rw [hji16] at c14)
                            (try rw [hji16] at Ny102)
                            have hji16w : (IntKind.i64.wrap (1 + (wrap64 (bt x5_2 0)))) = ji16 := (i64_w _).trans hji16
                            by_cases c17 : 0 ≤ (ji16)
                            · rw [if_pos c17] at H
                              have c17b0 := eq_true c17
                              have c17b1 : decide (0 ≤ (ji16)) = true := decide_eq_true c17
                              clear c17
                              have c18b0 := eq_true (of_decide_eq_true (by first | (with_reducible assumption) | assumption) : (ji16) ≤ (x5_2.size : Int))
                              have H' := Aside0.mk H
                              clear H
                              have p9 : 0 ≤ (0 : Int) := (by omega)
                              have q9 : 0 < x5_2.size := (by have : (0 : Int) < (x5_2.size : Int) := of_decide_eq_true (by first | (with_reducible assumption) | assumption); omega)
                              have hx9 : ∀ h : 0 < x5_2.size, ((x5_2[0]'h).toNat : Int) = bt x5_2 0 := bt_at x5_2 0
                              clear p9
                              have qi9 : (0 < (x5_2.size : Int)) = True := eq_true (of_decide_eq_true (by first | (with_reducible assumption) | assumption))
                              replace q9 := eq_true q9
                              go_wp2_with (first | ((with_reducible refine gate_builtin (b := .append) (xs := #[.tmp 35, .tmp 40]) rfl ?_); (try (refine gate_guard (by rfl) ?_; dsimp only)); at_builtin; refine Kd.R_append Kd.string (w0 := w) w.heap.size rfl (.tmp 35) (.tmp 40) 74 9 (.string ⟨#[]⟩) 16 rfl Try.underlying74 info9 rfl (by decide) (by omega) u4 x4_2 (x5_2.extract 1 ((ji16) : Int).toNat) [.string (x5_2.extract 1 ((ji16) : Int).toNat)] (fun _ => True) (fun _ => False) rfl rfl ?aP (fun _ hk => hk.elim) ?aF ?aO ?aB ?aS ?aL ?_; (case aP => exact rfl); (case aB => exact (by repeat (first | (with_reducible first | exact HB.out | apply below_alloc | apply pw_below_drewN | apply below_drew1) | exact HB.out))); (case aF => exact (fun _ _ => trivial)); (case aO => exact (by (with_reducible repeat (first | apply Kd.R_alloc | apply Kd.R_drewN | apply Kd.R_drew)); exact HO_4.out)); (case aS => exact (below_size (by repeat (first | (with_reducible first | exact HB.out | apply below_alloc | apply pw_below_drewN | apply below_drew1) | exact HB.out)))); (case aL => have := LMc15.out; omega); intro v103 w19 ho hb hg hat; rw [← Ny102.out] at ho; have n0_ := Aside0.mk (hb); have n1_ := Aside0.mk (ho); clear HB; clear HO_4; have HB := n0_; have HO104 := n1_; clear n0_ n1_; clear ho hb hg hat))
                              go_roundg k2
                              case measure => have := HJ1.out; have := HK2.out; omega
                              case rel => exact ⟨(y102), (x5_2.extract ((ji16) : Int).toNat x5_2.size), (by first | rfl | (simp; done) | (simp only [← hji16] <;> (first | rfl | simp)) | (simp [*]; done)), H', ⟨by have := HJ1.out; have := HK2.out; omega⟩, ⟨by (with_reducible repeat (first | apply Kd.R_alloc | apply Kd.R_drewN | apply Kd.R_drew)); exact HO104.out⟩, ⟨by repeat (first | (with_reducible first | exact HB.out | apply below_alloc | apply pw_below_drewN | apply below_drew1) | exact HB.out)⟩⟩
                            · rw [if_neg c17] at H
                              exact absurd H (by simp)
                          · rw [if_neg c15] at H
                            exact absurd H (by simp)
                        · rw [if_neg c14] at H
                          exact absurd H (by simp)
                      · rw [if_neg c13] at H
                        exact absurd H (by simp)
              · rw [if_neg c8] at H
                exact absurd H (by simp)
            · rw [if_neg c7] at H
              have c7b0 : decide (0 < (x5_2.size : Int)) = false := decide_eq_false c7
              have c7b1 : decide (0 < x5_2.size) = false := decide_eq_false (by omega)
              clear c7
              simp only [Option.some.injEq, Prod.mk.injEq] at H
              obtain ⟨rfl, rfl⟩ := H
              go_wp2
              go_ret2
              exact ⟨_, by first | rfl | (simp [errW_none, errW_some] <;> rfl) | (simp [*, errW_none, errW_some] <;> rfl), by (with_reducible repeat (first | apply Kd.R_alloc | apply Kd.R_drewN | apply Kd.R_drew)); exact HO_4.out, by repeat (first | (with_reducible first | exact HB.out | apply below_alloc | apply pw_below_drewN | apply below_drew1) | exact HB.out)⟩

end Go.Proofs.Ytdkjlbbbdjkhbaa.PAll
