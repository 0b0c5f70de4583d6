-- Written by a program of this session (wip/tools/drive.py over the kit's printer): functions, contracts and rows (Base0).
import Derived.Test.YtiaageolmkplbaaPBase0x0
namespace Go.Proofs.Ytiaageolmkplbaa.PBase0
open Go.RowKit Go.Proofs.YtiaageolmkplbaaW.PrintWords Go.Proofs.YtiaageolmkplbaaW.PrintLast Go.Proofs.YtiaageolmkplbaaW.PrintMore
attribute [local go_sem] max2_int min2_int max_two min_two max_three min_three max_four min_four   -- for this text's walks alone
open Go.Proofs.Ytiaageolmkplbaa.Hand
set_option linter.unusedVariables false
set_option linter.unusedSimpArgs false

/-! ### bolterlaw12_Addr: function 18 -/
mutual
def bolterlaw12_Addr.j0 : Nat → List Int → List Int → Option (ByteArray)
  | 0, _, _ => none
  | k + 1, x1, x5 => bolterlaw12_Addr.l0 k x5 x1 (x1.length : Int) 0
def bolterlaw12_Addr.l0 : Nat → List Int → List Int → Int → Int → Option (ByteArray)
  | 0, _, _, _, _ => none
  | k + 1, x5, x11, x12, x13 => if x13 < x12 then (if 0 ≤ x13 then (if x13 < (x11.length : Int) then (if x13 < (x5.length : Int) then (if (x5.length : Int) = 0 then (none) else ((some (([0, 1, 128, 255, 192, rd x11 x13] : List Int) : List Int)).bind fun y124 => (if 0 ≤ (Int.tmod (rd x11 x13) 6) then (if (Int.tmod (rd x11 x13) 6) < (y124.length : Int) then (if 0 ≤ (Int.tmod (wrap64 (x13 * 7)) (x5.length : Int)) then (if (Int.tmod (wrap64 (x13 * 7)) (x5.length : Int)) < (x5.length : Int) then (bolterlaw12_Addr.l0 k (x5.set ((Int.tmod (wrap64 (x13 * 7)) (x5.length : Int)) : Int).toNat (rd y124 (Int.tmod (rd x11 x13) 6))) x11 x12 (wrap64 (x13 + 1))) else (none)) else (none)) else (none)) else (none)))) else (bolterlaw12_Addr.l0 k x5 x11 x12 (wrap64 (x13 + 1)))) else (none)) else (none)) else (some (strOfNums x5))
end
def bolterlaw12_Addr.f (k : Nat) (a0 : Bool) (l1 : List Int) : Option (ByteArray) := if 4 ≤ 281474976710656 then (if a0 = true then (if 16 ≤ 281474976710656 then (bolterlaw12_Addr.j0 k l1 (List.replicate 16 0)) else (none)) else (bolterlaw12_Addr.j0 k l1 (List.replicate 4 0))) else (none)
theorem bolterlaw12_Addr.mono_l : ∀ k, (∀ y0 y1, LeO (bolterlaw12_Addr.j0 k y0 y1) (bolterlaw12_Addr.j0 (k + 1) y0 y1)) ∧ (∀ y0 y1 y2 y3, LeO (bolterlaw12_Addr.l0 k y0 y1 y2 y3) (bolterlaw12_Addr.l0 (k + 1) y0 y1 y2 y3))
  | 0 => ⟨fun _ _ r h => by simp [bolterlaw12_Addr.j0] at h, fun _ _ _ _ r h => by simp [bolterlaw12_Addr.l0] at h⟩
  | k + 1 => by
    obtain ⟨ih0, ih1⟩ := bolterlaw12_Addr.mono_l k
    refine ⟨?_, ?_⟩
    · intro y0 y1
      unfold bolterlaw12_Addr.j0
      repeat' first
      | (with_reducible exact ih0 _ _)
      | (with_reducible exact ih1 _ _ _ _)
      | (with_reducible exact LeO.refl _)
      | (with_reducible exact LeO.none _)
      | (with_reducible refine LeO.ite ?_ ?_)
      | (with_reducible refine LeO.bind ?_ (fun _ => ?_))
      | exact ih0 _ _
      | exact ih1 _ _ _ _
      | exact LeO.none _
      | refine LeO.ite ?_ ?_
      | refine LeO.bind ?_ (fun _ => ?_)
    · intro y0 y1 y2 y3
      unfold bolterlaw12_Addr.l0
      repeat' first
      | (with_reducible exact ih0 _ _)
      | (with_reducible exact ih1 _ _ _ _)
      | (with_reducible exact LeO.refl _)
      | (with_reducible exact LeO.none _)
      | (with_reducible refine LeO.ite ?_ ?_)
      | (with_reducible refine LeO.bind ?_ (fun _ => ?_))
      | exact ih0 _ _
      | exact ih1 _ _ _ _
      | exact LeO.none _
      | refine LeO.ite ?_ ?_
      | refine LeO.bind ?_ (fun _ => ?_)
theorem bolterlaw12_Addr.mono : ∀ a0 a1 k, LeO (bolterlaw12_Addr.f k a0 a1) (bolterlaw12_Addr.f (k + 1) a0 a1) := by
  intro a0 a1 k
  obtain ⟨ih0, ih1⟩ := bolterlaw12_Addr.mono_l k
  unfold bolterlaw12_Addr.f
  repeat' first
      | (with_reducible exact ih0 _ _)
      | (with_reducible exact ih1 _ _ _ _)
      | (with_reducible exact LeO.refl _)
      | (with_reducible exact LeO.none _)
      | (with_reducible refine LeO.ite ?_ ?_)
      | (with_reducible refine LeO.bind ?_ (fun _ => ?_))
      | exact ih0 _ _
      | exact ih1 _ _ _ _
      | exact LeO.none _
      | refine LeO.ite ?_ ?_
      | refine LeO.bind ?_ (fun _ => ?_)
def bolterlaw12_Addr.T8 : Bool × List (List Nat × List Nat) := (true, [([], []), ([], []), ([1], [1]), ([], []), ([3], [3]), ([2, 4], [2, 4]), ([], []), ([6], [6]), ([], []), ([8], [8]), ([7, 9], [7, 9]), ([10], [10]), ([0, 5, 0, 1, 2, 3, 4, 5, 6, 7, 8, 9, 10, 11], [0, 5]), ([12, 11, 0, 1, 2, 3, 4, 5, 6, 7, 8, 9, 10, 11], [11, 12])])
def bolterlaw12_Addr.B8 : List Nat := [0, 0, 2, 0, 8, 30, 0, 64, 0, 256, 960, 1984, 4095, 8191]
theorem bolterlaw12_Addr.tab8 : rtab .any (opsOf Try.f18 8) = bolterlaw12_Addr.T8 := by kernel_rfl
theorem bolterlaw12_Addr.bits8 : waitsOk bolterlaw12_Addr.T8.2 bolterlaw12_Addr.B8 = true := by kernel_rfl
set_option maxHeartbeats 8000000 in
set_option maxRecDepth 100000 in
theorem bolterlaw12_Addr.calls (k : Nat) (a0 : Bool) (A1 : Option Addr) (c1 : Nat) (l1 : List Int) (r : ByteArray) (w : World) (hr1 : Kd.C (Kd.int .u8) w A1 l1.length l1) (hc1 : l1.length ≤ c1) (h : bolterlaw12_Addr.f k a0 l1 = some r) :
    Calls Try.prog 18 #[.bool a0, .slice A1 l1.length c1] w fun e w' => e = .returned (.string r) ∧ Below w.heap.size w w' := by
  have HR1 := Aside0.mk hr1
  have HC1 := Aside0.mk hc1
  clear hr1 hc1
  have HB := Aside0.mk (Below.refl w.heap.size w)
  have H : (if 4 ≤ 281474976710656 then (if a0 = true then (if 16 ≤ 281474976710656 then (bolterlaw12_Addr.j0 k l1 (List.replicate 16 0)) else (none)) else (bolterlaw12_Addr.j0 k l1 (List.replicate 4 0))) else (none)) = some r := h
  clear h
  by_cases c3 : 4 ≤ 281474976710656
  · rw [if_pos c3] at H
    have c3b0 := eq_true c3
    have c3b1 : decide (4 ≤ 281474976710656) = true := decide_eq_true c3
    clear c3
    obtain ⟨y117, hy117⟩ : ∃ y_ : List Int, y_ = (List.replicate 4 0) := ⟨_, rfl⟩
    replace H : (if a0 = true then (if 16 ≤ 281474976710656 then (bolterlaw12_Addr.j0 k l1 (List.replicate 16 0)) else (none)) else (bolterlaw12_Addr.j0 k l1 y117)) = some r := by first | (rw [hy117]; with_reducible exact H) | (have H2_ := (Option.bind_some _ _).symm.trans H; rw [hy117]; with_reducible exact H2_) | (have H2_ := (Option.bind_some _ _).symm.trans H; with_reducible exact H2_) | with_reducible exact H | (rw [hy117]; exact H) | exact H
    have Ny117 := Aside0.mk hy117
    clear hy117
    have HC4 := Aside0.mk H
    clear H
    go_enter Try.func18, Try.ntmps18
    go_upto_if 9 with (first | ((with_reducible refine gate_dst (N := 8) rfl ?_); refine Kd.R_make (Kd.int .u8) _ 5 rfl (N := 8) rfl 23 _ _ rfl 4 rfl rfl Try.underlying23 (.int .u8 0) 1 info5 rfl (by decide) (by omega) 0 (ok := fun _ => True) (okp := fun _ => True) rfl (fun _ hk => hk) trivial (by omega) (by omega) (Below.refl _ _) (Nat.le_refl _) ?_; intro v118 w5 ho6 hb hg_ hnew_; clear hg_ hnew_; (first | rw [← Ny117.out] at ho6 | (simp only [Int.reduceToNat] at ho6; rw [← Ny117.out] at ho6)); have n0_ := Aside0.mk (Kd.R_lower ho6 (below_size (by repeat (first | (with_reducible first | exact HB.out | apply below_alloc | apply pw_below_drewN | apply below_drew1) | exact HB.out)))); have n1_ := Aside0.mk (below_step (by repeat (first | (with_reducible first | exact HB.out | apply below_alloc | apply pw_below_drewN | apply below_drew1) | exact HB.out)) hb); clear HB; have HO119 := n0_; have HB := n1_; clear n0_ n1_; clear hb ho6))
    (try simp only [Act.put, List.setIfInBounds_toArray, List.set_cons_zero, List.set_cons_succ])
    go_cut [5] (fun v5 wc => ∃ (kq : Nat) (x5_3 : List Int), Aside0 (bolterlaw12_Addr.j0 kq l1 x5_3 = some r) ∧ Aside0 (kq ≤ k) ∧ Aside0 (Kd.R (Kd.int .u8) 5 wc w.heap.size (fun _ => True) v5 x5_3) ∧ Aside0 (Below w.heap.size w wc))
    case first =>
      have H := HC4.out
      clear HC4
      by_cases c7 : a0 = true
      · subst c7
        have H1 : (if 16 ≤ 281474976710656 then (bolterlaw12_Addr.j0 k l1 (List.replicate 16 0)) else (none)) = some r := by rw [if_pos rfl] at H; exact H
        clear H
        have H := H1
        clear H1
        by_cases c8 : 16 ≤ 281474976710656
        · rw [if_pos c8] at H
          have c8b0 := eq_true c8
          have c8b1 : decide (16 ≤ 281474976710656) = true := decide_eq_true c8
          clear c8
          obtain ⟨y120, hy120⟩ : ∃ y_ : List Int, y_ = (List.replicate 16 0) := ⟨_, rfl⟩
          replace H : (bolterlaw12_Addr.j0 k l1 y120) = some r := by first | (rw [hy120]; with_reducible exact H) | (have H2_ := (Option.bind_some _ _).symm.trans H; rw [hy120]; with_reducible exact H2_) | (have H2_ := (Option.bind_some _ _).symm.trans H; with_reducible exact H2_) | with_reducible exact H | (rw [hy120]; exact H) | exact H
          have Ny120 := Aside0.mk hy120
          clear hy120
          have H' := Aside0.mk H
          clear H
          go_wp2_with (first | ((with_reducible refine gate_dst (N := 10) rfl ?_); refine Kd.R_make (Kd.int .u8) _ 5 rfl (N := 10) rfl 23 _ _ rfl 16 rfl rfl Try.underlying23 (.int .u8 0) 1 info5 rfl (by decide) (by omega) 0 (ok := fun _ => True) (okp := fun _ => True) rfl (fun _ hk => hk) trivial (by omega) (by omega) (Below.refl _ _) (Nat.le_refl _) ?_; intro v121 w9 ho10 hb hg_ hnew_; clear hg_ hnew_; (first | rw [← Ny120.out] at ho10 | (simp only [Int.reduceToNat] at ho10; rw [← Ny120.out] at ho10)); have n0_ := Aside0.mk (Kd.R_elder' (by (with_reducible repeat (first | apply Kd.R_alloc | apply Kd.R_drewN | apply Kd.R_drew)); exact HO119.out) (Kd.R_base ho10) hb); have n1_ := Aside0.mk (Kd.R_lower (Kd.R_new' ho10 (Kd.R_lt (by (with_reducible repeat (first | apply Kd.R_alloc | apply Kd.R_drewN | apply Kd.R_drew)); exact HO119.out))) (below_size (by repeat (first | (with_reducible first | exact HB.out | apply below_alloc | apply pw_below_drewN | apply below_drew1) | exact HB.out)))); have n2_ := Aside0.mk (below_step (by repeat (first | (with_reducible first | exact HB.out | apply below_alloc | apply pw_below_drewN | apply below_drew1) | exact HB.out)) hb); clear HO119; clear HB; have HO119 := n0_; have HO122 := n1_; have HB := n2_; clear n0_ n1_ n2_; clear hb ho10))
          go_meet
          case rel => exact ⟨_, (y120), H', ⟨by first | omega | exact Nat.le_refl _⟩, ⟨by (with_reducible repeat (first | apply Kd.R_alloc | apply Kd.R_drewN | apply Kd.R_drew)); exact Kd.R_mono HO122.out (fun _ hk => trivial)⟩, ⟨by repeat (first | (with_reducible first | exact HB.out | apply below_alloc | apply pw_below_drewN | apply below_drew1) | exact HB.out)⟩⟩
        · rw [if_neg c8] at H
          exact absurd H (by simp)
      · replace c7 := Bool.eq_false_iff.mpr c7
        subst c7
        have H1 : (bolterlaw12_Addr.j0 k l1 y117) = some r := by rw [if_neg (show ¬ (false = true) by decide)] at H; exact H
        clear H
        have H := H1
        clear H1
        have H' := Aside0.mk H
        clear H
        go_wp2
        go_meet
        case rel => exact ⟨_, (y117), H', ⟨by first | omega | exact Nat.le_refl _⟩, ⟨by (with_reducible repeat (first | apply Kd.R_alloc | apply Kd.R_drewN | apply Kd.R_drew)); exact HO119.out⟩, ⟨by repeat (first | (with_reducible first | exact HB.out | apply below_alloc | apply pw_below_drewN | apply below_drew1) | exact HB.out)⟩⟩
    case rest =>
      clear HC4
      try clear c1
      try clear p2
      try clear c3
      try clear c3b0
      try clear c3b1
      try clear c7
      try clear c8
      try clear c8b0
      try clear c8b1
      obtain ⟨kq, x5_3, HA, HJ3, HO_5, HB⟩ := hcut
      cases kq with
      | zero => exact absurd HA.out (by simp [bolterlaw12_Addr.j0])
      | succ kj3 =>
        have H := HA.out
        clear HA
        simp only [bolterlaw12_Addr.j0] at H
        have H' := Aside0.mk H
        clear H
        go_wp2
        go_loopg [13] kj3 (fun kq v13 w' => ∃ (x5_2 : List Int) (x13_2 : Int), v13 = .int .i64 x13_2 ∧ Aside0 (bolterlaw12_Addr.l0 kq x5_2 l1 (l1.length : Int) x13_2 = some r) ∧ Aside0 (kq ≤ kj3) ∧ Aside0 (Kd.R (Kd.int .u8) 5 w' w.heap.size (fun _ => True) u5 x5_2) ∧ Aside0 (Below w.heap.size w w'))
        case atStart => exact ⟨(x5_3), (0), (by first | rfl | (simp; done) | (simp [*]; done)), H', ⟨Nat.le_refl _⟩, ⟨by (with_reducible repeat (first | apply Kd.R_alloc | apply Kd.R_drewN | apply Kd.R_drew)); exact HO_5.out⟩, ⟨by repeat (first | (with_reducible first | exact HB.out | apply below_alloc | apply pw_below_drewN | apply below_drew1) | exact HB.out)⟩⟩
        case round =>
          clear H'
          try clear c1
          try clear p2
          try clear c3
          try clear c3b0
          try clear c3b1
          try clear c7
          try clear c8
          try clear c8b0
          try clear c8b1
          try clear p2
          obtain ⟨x5_2, x13_2, rfl, HA, HK2, HO_5, HB⟩ := hrel
          cases gk with
          | zero => exact absurd HA.out (by simp [bolterlaw12_Addr.l0])
          | succ k2 =>
            have H := HA.out
            clear HA
            simp only [bolterlaw12_Addr.l0] at H
            by_cases c11 : x13_2 < (l1.length : Int)
            · rw [if_pos c11] at H
              have c11b0 : decide (x13_2 < (l1.length : Int)) = true := decide_eq_true c11
              clear c11
              by_cases c12 : 0 ≤ x13_2
              · rw [if_pos c12] at H
                have c12b0 : decide (0 ≤ x13_2) = true := decide_eq_true c12
                clear c12
                by_cases c13 : x13_2 < (l1.length : Int)
                · rw [if_pos c13] at H
                  have c13b0 : decide (x13_2 < (l1.length : Int)) = true := decide_eq_true c13
                  clear c13
                  by_cases c14 : x13_2 < (x5_2.length : Int)
                  · rw [if_pos c14] at H
                    have c14b0 : decide (x13_2 < (x5_2.length : Int)) = true := decide_eq_true c14
                    clear c14
                    by_cases c15 : (x5_2.length : Int) = 0
                    · rw [if_pos c15] at H
                      exact absurd H (by simp)
                    · rw [if_neg c15] at H
                      have c15b0 : ((x5_2.length : Int) == 0) = false := beq_eq_false_iff_ne.mpr c15
                      have c15b1 : ((x5_2.length : Int) != 0) = true := bne_iff_ne.mpr c15
                      have c15b2 : ¬ (x5_2 = []) := fun h_ => c15 (by rw [h_]; rfl)
                      obtain ⟨y124, hy124⟩ : ∃ y_ : List Int, y_ = (([0, 1, 128, 255, 192, rd l1 x13_2] : List Int)) := ⟨_, rfl⟩
                      replace H : (if 0 ≤ (Int.tmod (rd l1 x13_2) 6) then (if (Int.tmod (rd l1 x13_2) 6) < (y124.length : Int) then (if 0 ≤ (Int.tmod (wrap64 (x13_2 * 7)) (x5_2.length : Int)) then (if (Int.tmod (wrap64 (x13_2 * 7)) (x5_2.length : Int)) < (x5_2.length : Int) then (bolterlaw12_Addr.l0 k2 (x5_2.set ((Int.tmod (wrap64 (x13_2 * 7)) (x5_2.length : Int)) : Int).toNat (rd y124 (Int.tmod (rd l1 x13_2) 6))) l1 (l1.length : Int) (wrap64 (x13_2 + 1))) else (none)) else (none)) else (none)) else (none)) = some r := by first | (rw [hy124]; with_reducible exact H) | (have H2_ := (Option.bind_some _ _).symm.trans H; rw [hy124]; with_reducible exact H2_) | (have H2_ := (Option.bind_some _ _).symm.trans H; with_reducible exact H2_) | with_reducible exact H | (rw [hy124]; exact H) | exact H
                      have Ny124 := Aside0.mk hy124
                      clear hy124
                      obtain ⟨ji16, hji16⟩ : ∃ j_ : Int, (Int.tmod (rd l1 x13_2) 6) = j_ := ⟨_, rfl⟩
                      replace H : (if 0 ≤ (ji16) then (if (ji16) < (y124.length : Int) then (if 0 ≤ (Int.tmod (wrap64 (x13_2 * 7)) (x5_2.length : Int)) then (if (Int.tmod (wrap64 (x13_2 * 7)) (x5_2.length : Int)) < (x5_2.length : Int) then (bolterlaw12_Addr.l0 k2 (x5_2.set ((Int.tmod (wrap64 (x13_2 * 7)) (x5_2.length : Int)) : Int).toNat (rd y124 (ji16))) l1 (l1.length : Int) (wrap64 (x13_2 + 1))) else (none)) else (none)) else (none)) else (none)) = some r := by first | (rw [hji16] at H; exact H) | (simp only [hji16] at H ⊢; exact H)
                      by_cases c17 : 0 ≤ (ji16)
                      · rw [if_pos c17] at H
                        have c17b0 : decide (0 ≤ (ji16)) = true := decide_eq_true c17
                        clear c17
                        by_cases c18 : (ji16) < (y124.length : Int)
                        · rw [if_pos c18] at H
                          have c18b0 : decide ((ji16) < (y124.length : Int)) = true := decide_eq_true c18
                          clear c18
                          obtain ⟨ji19, hji19⟩ : ∃ j_ : Int, (Int.tmod (wrap64 (x13_2 * 7)) (x5_2.length : Int)) = j_ := ⟨_, rfl⟩
                          replace H : (if 0 ≤ (ji19) then (if (ji19) < (x5_2.length : Int) then (bolterlaw12_Addr.l0 k2 (x5_2.set ((ji19) : Int).toNat (rd y124 (ji16))) l1 (l1.length : Int) (wrap64 (x13_2 + 1))) else (none)) else (none)) = some r := by first | (rw [hji19] at H; exact H) | (simp only [hji19] at H ⊢; exact H)
                          by_cases c20 : 0 ≤ (ji19)
                          · rw [if_pos c20] at H
                            have c20b0 : decide (0 ≤ (ji19)) = true := decide_eq_true c20
                            clear c20
                            by_cases c21 : (ji19) < (x5_2.length : Int)
                            · rw [if_pos c21] at H
                              have c21b0 : decide ((ji19) < (x5_2.length : Int)) = true := decide_eq_true c21
                              clear c21
                              obtain ⟨y128, hy128⟩ : ∃ y_ : List Int, y_ = (x5_2.set ((ji19) : Int).toNat (rd y124 (ji16))) := ⟨_, rfl⟩
                              replace H : (bolterlaw12_Addr.l0 k2 y128 l1 (l1.length : Int) (wrap64 (x13_2 + 1))) = some r := by first | (rw [hy128]; with_reducible exact H) | (have H2_ := (Option.bind_some _ _).symm.trans H; rw [hy128]; with_reducible exact H2_) | (have H2_ := (Option.bind_some _ _).symm.trans H; with_reducible exact H2_) | with_reducible exact H | (rw [hy128]; exact H) | exact H
                              have Ny128 := Aside0.mk hy128
                              clear hy128
                              have H' := Aside0.mk H
                              clear H
                              have p123 : 0 ≤ (x13_2 : Int) := of_decide_eq_true (by first | (with_reducible assumption) | assumption)
                              have q123 : x13_2 < (l1.length : Int) := of_decide_eq_true (by first | (with_reducible assumption) | assumption)
                              obtain ⟨ad123, e123, hx123_0⟩ := Kd.at_int HR1.out x13_2 p123 q123
                              cases e123
                              replace hx123_0 := (HB.out.cell (World.block_lt_of_cell? w _ hx123_0)).trans hx123_0
                              replace p123 := eq_true p123
                              replace q123 := eq_true q123
                              obtain ⟨Ao23, co23, eo23⟩ := Kd.R_slice HO_5.out
                              subst eo23
                              try go_wp2
                              have pi127 : (0 ≤ ((ji16) : Int)) = True := eq_true (of_decide_eq_true (by first | (with_reducible assumption) | assumption))
                              have qi127 : ((ji16) < (y124.length : Int)) = True := eq_true (of_decide_eq_true (by first | (with_reducible assumption) | assumption))
                              have n0_ := Aside0.mk (Kd.R_drew HO_5.out)
                              have n1_ := Aside0.mk (below_drew1 HB.out)
                              clear HO_5
                              clear HB
                              have HO_5 := n0_
                              have HB := n1_
                              clear n0_ n1_
                              refine start_ (n := 14) (S := fun w' => True) (ds := [13]) #[false, false, false, false, false, false, false, false, false, false, false, false, false, false] (by kernel_rfl) rfl rfl trivial (fun hHeld => ?_); refine with_tabW bolterlaw12_Addr.tab8 bolterlaw12_Addr.bits8 (fun HT_ HW_ => ?_)
                              generalize wr.drew = w24 at HO_5 HB hHeld ⊢
                              refine pure_ (i := 0) (N := some 22) (v := ?_) (a' := ?_) #[true, false, false, false, false, false, false, false, false, false, false, false, false, false] rfl rfl (any_of HT_.out (by kernel_rfl)) (fun _ _ _ h => h) (Or.inl ⟨by rfl, ?_⟩) ?_ ?_
                              rotate_left
                              · intro w'
                                go_simp
                                with_reducible rfl
                              rotate_left
                              · simp only [Act.put, List.setIfInBounds_toArray, List.set_cons_zero, List.set_cons_succ, i64_w, i32_w]
                                rfl
                              refine pure_ (i := 1) (N := some 23) (v := ?_) (a' := ?_) #[true, true, false, false, false, false, false, false, false, false, false, false, false, false] rfl rfl (any_of HT_.out (by kernel_rfl)) (fun _ _ _ h => h) (Or.inl ⟨by rfl, ?_⟩) ?_ ?_
                              rotate_left
                              · intro w'
                                go_simp
                                with_reducible rfl
                              rotate_left
                              · simp only [Act.put, List.setIfInBounds_toArray, List.set_cons_zero, List.set_cons_succ, i64_w, i32_w]
                                rfl
                              refine pure_ (i := 2) (N := some 24) (v := ?_) (a' := ?_) #[true, true, true, false, false, false, false, false, false, false, false, false, false, false] rfl rfl (any_of HT_.out (by kernel_rfl)) (fun _ _ _ h => h) (Or.inl ⟨by rfl, ?_⟩) ?_ ?_
                              rotate_left
                              · intro w'
                                go_simp
                                with_reducible rfl
                              rotate_left
                              · simp only [Act.put, List.setIfInBounds_toArray, List.set_cons_zero, List.set_cons_succ, i64_w, i32_w]
                                rfl
                              refine pure_ (i := 3) (N := some 25) (v := ?_) (a' := ?_) #[true, true, true, true, false, false, false, false, false, false, false, false, false, false] rfl rfl (any_of HT_.out (by kernel_rfl)) (fun _ _ _ h => h) (Or.inl ⟨by rfl, ?_⟩) ?_ ?_
                              rotate_left
                              · intro w'
                                go_simp
                                with_reducible rfl
                              rotate_left
                              · simp only [Act.put, List.setIfInBounds_toArray, List.set_cons_zero, List.set_cons_succ, i64_w, i32_w]
                                rfl
                              refine pure_ (i := 4) (N := some 26) (v := ?_) (a' := ?_) #[true, true, true, true, true, false, false, false, false, false, false, false, false, false] rfl rfl (any_of HT_.out (by kernel_rfl)) (fun _ _ _ h => h) (Or.inl ⟨by rfl, ?_⟩) ?_ ?_
                              rotate_left
                              · intro w'
                                go_simp
                                with_reducible rfl
                              rotate_left
                              · simp only [Act.put, List.setIfInBounds_toArray, List.set_cons_zero, List.set_cons_succ, i64_w, i32_w]
                                rfl
                              refine pure_ (i := 5) (N := some 27) (v := ?_) (a' := ?_) #[true, true, true, true, true, true, false, false, false, false, false, false, false, false] rfl rfl (any_of HT_.out (by kernel_rfl)) (fun _ _ _ h => h) (Or.inl ⟨by rfl, ?_⟩) ?_ ?_
                              rotate_left
                              · intro w'
                                go_simp
                                with_reducible rfl
                              rotate_left
                              · simp only [Act.put, List.setIfInBounds_toArray, List.set_cons_zero, List.set_cons_succ, i64_w, i32_w]
                                rfl
                              refine pure_ (i := 6) (N := some 28) (v := ?_) (a' := ?_) #[true, true, true, true, true, true, true, false, false, false, false, false, false, false] rfl rfl (any_of HT_.out (by kernel_rfl)) (fun _ _ _ h => h) (Or.inl ⟨by rfl, ?_⟩) ?_ ?_
                              rotate_left
                              · intro w'
                                go_simp
                                with_reducible rfl
                              rotate_left
                              · simp only [Act.put, List.setIfInBounds_toArray, List.set_cons_zero, List.set_cons_succ, i64_w, i32_w]
                                rfl
                              refine pure_ (i := 8) (N := some 30) (v := ?_) (a' := ?_) #[true, true, true, true, true, true, true, false, true, false, false, false, false, false] rfl rfl (any_of HT_.out (by kernel_rfl)) (fun _ _ _ h => h) (Or.inl ⟨by rfl, ?_⟩) ?_ ?_
                              rotate_left
                              · intro w'
                                go_simp
                                with_reducible rfl
                              rotate_left
                              · simp only [Act.put, List.setIfInBounds_toArray, List.set_cons_zero, List.set_cons_succ, i64_w, i32_w]
                                rfl
                              refine pure_ (i := 9) (N := some 31) (v := ?_) (a' := ?_) #[true, true, true, true, true, true, true, false, true, true, false, false, false, false] rfl rfl (any_of HT_.out (by kernel_rfl)) (fun _ _ _ h => h) (Or.inl ⟨by rfl, ?_⟩) ?_ ?_
                              rotate_left
                              · intro w'
                                go_simp
                                with_reducible rfl
                              rotate_left
                              · simp only [Act.put, List.setIfInBounds_toArray, List.set_cons_zero, List.set_cons_succ, i64_w, i32_w]
                                rfl
                              refine one_ (i := 7) (N := some 29) #[true, true, true, true, true, true, true, true, true, true, false, false, false, false] rfl rfl (one_of HT_.out (by kernel_rfl)) (by decide) (fun K hK => ?_)
                              refine Kd.R_lit_step (Kd.int .u8) _ 5 ?hg (N := 29) ?hd (xs := ([0, 1, 128, 255, 192, rd l1 x13_2] : List Int)) (inner := [.int .u8 0, .int .u8 1, .int .u8 128, .int .u8 255, .int .u8 192, .int .u8 (rd l1 x13_2)]) (ok := fun _ => True) (okp := fun _ => True) ?hr ?hp (fun _ hk => hk) trivial (Below.refl _ _) (Nat.le_refl _) (by simp) ?_; (case hd => rfl); (case hg => rfl); (case hr => first | (go_simp; done) | (go_simp; rfl)); (case hp => exact (Reps.one (show Kd.M (Kd.int .u8) _ _ _ 0 [.int .u8 0] from rfl) (Reps.one (show Kd.M (Kd.int .u8) _ _ _ 1 [.int .u8 1] from rfl) (Reps.one (show Kd.M (Kd.int .u8) _ _ _ 128 [.int .u8 128] from rfl) (Reps.one (show Kd.M (Kd.int .u8) _ _ _ 255 [.int .u8 255] from rfl) (Reps.one (show Kd.M (Kd.int .u8) _ _ _ 192 [.int .u8 192] from rfl) (Reps.one (show Kd.M (Kd.int .u8) _ _ _ (rd l1 x13_2) [.int .u8 (rd l1 x13_2)] from rfl) (Reps.none _ _))))))))
                              intro v125 w25 ho26 hb hg_ hnew_
                              clear hg_ hnew_
                              (first | rw [← Ny124.out] at ho26 | (simp only [Int.reduceToNat] at ho26; rw [← Ny124.out] at ho26))
                              have n0_ := Aside0.mk (Kd.R_elder' (by (with_reducible repeat (first | apply Kd.R_alloc | apply Kd.R_drewN | apply Kd.R_drew)); exact HO_5.out) (Kd.R_base ho26) hb)
                              have n1_ := Aside0.mk (Kd.R_lower (Kd.R_new' ho26 (Kd.R_lt (by (with_reducible repeat (first | apply Kd.R_alloc | apply Kd.R_drewN | apply Kd.R_drew)); exact HO_5.out))) (below_size (by repeat (first | (with_reducible first | exact HB.out | apply below_alloc | apply pw_below_drewN | apply below_drew1) | exact HB.out))))
                              have n2_ := Aside0.mk (below_step (by repeat (first | (with_reducible first | exact HB.out | apply below_alloc | apply pw_below_drewN | apply below_drew1) | exact HB.out)) hb)
                              clear HO_5
                              clear HB
                              have HO_5 := n0_
                              have HO126 := n1_
                              have HB := n2_
                              clear n0_ n1_ n2_
                              clear hb ho26
                              obtain ⟨Ao27, co27, eo27⟩ := Kd.R_slice HO126.out
                              subst eo27
                              obtain ⟨ado27, fo27, _⟩ := Kd.at_int (Kd.R_reads' HO126.out).2.2 0 (by decide) (by rw [Ny124.out]; simp)
                              cases fo27
                              have p22 : 0 ≤ ((ji19) : Int) := of_decide_eq_true (by first | (with_reducible assumption) | assumption)
                              have q22 : ((ji19) : Int) < ((x5_2.length : Int) : Int) := of_decide_eq_true (by first | (with_reducible assumption) | assumption)
                              obtain ⟨go22, co22, eo22, gb22, gl22, cl22, HG22⟩ := Kd.R_form HO_5.out (by omega)
                              (first | cases eo22 | (injection eo22 with ea_ en_ ec_; (first | subst ea_ | (injection ea_ with ea_; subst ea_)); subst ec_; clear en_))
                              have GB22 := Aside0.mk gb22
                              have GG22 := Aside0.mk HG22
                              clear gb22 gl22 HG22
                              obtain ⟨hx22_0, hf22_0⟩ := Kd.R_celln 0 HO_5.out ((ji19) : Int) p22 q22
                              replace p22 := eq_true p22
                              replace q22 := eq_true q22
                              have HP28 := Kd.R_putn HO_5.out ((ji19) : Int) (rd y124 (ji16))
                              rw [← Ny128.out] at HP28
                              have HQ28 := Aside0.mk HP28
                              clear HP28
                              refine hK.out _ _ trivial (fun hHeld => ?_)
                              clear hK K
                              refine norm_ (a' := ?_) ?_ ?_
                              rotate_left
                              · show Act.put _ (some 29) _ = _
                                simp only [Act.put, List.setIfInBounds_toArray, List.set_cons_zero, List.set_cons_succ, i64_w, i32_w]
                                rfl
                              refine pure_ (i := 10) (N := some 32) (v := ?_) (a' := ?_) #[true, true, true, true, true, true, true, true, true, true, true, false, false, false] rfl rfl (any_of HT_.out (by kernel_rfl)) (fun _ _ _ h => h) (Or.inl ⟨by rfl, ?_⟩) ?_ ?_
                              rotate_left
                              · intro w'
                                go_simp
                                with_reducible rfl
                              rotate_left
                              · simp only [Act.put, List.setIfInBounds_toArray, List.set_cons_zero, List.set_cons_succ, i64_w, i32_w]
                                rfl
                              refine one_ (i := 11) (N := some 33) #[true, true, true, true, true, true, true, true, true, true, true, true, false, false] rfl rfl (one_of HT_.out (by kernel_rfl)) (by decide) (fun K hK => ?_)
                              (have p127 : 0 ≤ ((ji16) : Int) := of_decide_eq_true (by first | (with_reducible assumption) | assumption); have q127 : (ji16) < (y124.length : Int) := of_decide_eq_true (by first | (with_reducible assumption) | assumption); obtain ⟨ad127, e127, hx127_0⟩ := Kd.at_int (Kd.R_reads' HO126.out).2.2 (ji16) p127 q127; obtain rfl : ado27 = ad127 := (by injection e127))
                              refine value_ (w1 := ?_) (v := ?_) (by rfl) rfl ?_ ?_
                              rotate_left 2
                              · go_simp
                                constructor
                                · rfl
                                · rfl
                              clear hx127_0
                              refine hK.out _ _ trivial (fun hHeld => ?_)
                              clear hK K
                              refine norm_ (a' := ?_) ?_ ?_
                              rotate_left
                              · show Act.put _ (some 33) _ = _
                                simp only [Act.put, List.setIfInBounds_toArray, List.set_cons_zero, List.set_cons_succ, i64_w, i32_w]
                                rfl
                              refine pure_ (i := 12) (N := some 34) (v := ?_) (a' := ?_) #[true, true, true, true, true, true, true, true, true, true, true, true, true, false] rfl rfl (any_of HT_.out (by kernel_rfl)) (fun _ _ _ h => h) (Or.inl ⟨by rfl, ?_⟩) ?_ ?_
                              rotate_left
                              · intro w'
                                go_simp
                                with_reducible rfl
                              rotate_left
                              · simp only [Act.put, List.setIfInBounds_toArray, List.set_cons_zero, List.set_cons_succ, i64_w, i32_w]
                                rfl
                              refine last_ (i := 13) (N := none) #[true, true, true, true, true, true, true, true, true, true, true, true, true, true] rfl rfl (one_of HT_.out (by kernel_rfl)) (by decide) (fun K hK => ?_)
                              refine skip_ (w1 := ?_) (by rfl) rfl ?_ ?_
                              rotate_left
                              · go_simp
                                rfl
                              refine hK.out _ _ ?_
                              clear hK K
                              refine done_ (done_of HT_.out (by kernel_rfl)) ?_
                              try go_wp2
                              go_roundg k2
                              case measure => have := HJ3.out; have := HK2.out; omega
                              case rel => exact ⟨(y128), (wrap64 (x13_2 + 1)), (by first | rfl | (simp; done) | (simp [*]; done)), H', ⟨by have := HJ3.out; have := HK2.out; omega⟩, ⟨by (with_reducible repeat (first | apply Kd.R_alloc | apply Kd.R_drewN | apply Kd.R_drew)); exact Kd.R_mono HQ28.out (fun _ hk => trivial)⟩, ⟨by repeat (first | (with_reducible first | exact HB.out | apply below_alloc | apply pw_below_drewN | apply below_drew1 | refine below_set ?_ GB22.out) | exact HB.out)⟩⟩
                            · rw [if_neg c21] at H
                              exact absurd H (by simp)
                          · rw [if_neg c20] at H
                            exact absurd H (by simp)
                        · rw [if_neg c18] at H
                          exact absurd H (by simp)
                      · rw [if_neg c17] at H
                        exact absurd H (by simp)
                  · rw [if_neg c14] at H
                    have c14b0 : decide (x13_2 < (x5_2.length : Int)) = false := decide_eq_false c14
                    clear c14
                    have H' := Aside0.mk H
                    clear H
                    have p123 : 0 ≤ (x13_2 : Int) := of_decide_eq_true (by first | (with_reducible assumption) | assumption)
                    have q123 : x13_2 < (l1.length : Int) := of_decide_eq_true (by first | (with_reducible assumption) | assumption)
                    obtain ⟨ad123, e123, hx123_0⟩ := Kd.at_int HR1.out x13_2 p123 q123
                    cases e123
                    replace hx123_0 := (HB.out.cell (World.block_lt_of_cell? w _ hx123_0)).trans hx123_0
                    replace p123 := eq_true p123
                    replace q123 := eq_true q123
                    obtain ⟨Ao29, co29, eo29⟩ := Kd.R_slice HO_5.out
                    subst eo29
                    go_wp2
                    go_roundg k2
                    case measure => have := HJ3.out; have := HK2.out; omega
                    case rel => exact ⟨(x5_2), (wrap64 (x13_2 + 1)), (by first | rfl | (simp; done) | (simp [*]; done)), H', ⟨by have := HJ3.out; have := HK2.out; omega⟩, ⟨by (with_reducible repeat (first | apply Kd.R_alloc | apply Kd.R_drewN | apply Kd.R_drew)); exact HO_5.out⟩, ⟨by repeat (first | (with_reducible first | exact HB.out | apply below_alloc | apply pw_below_drewN | apply below_drew1) | exact HB.out)⟩⟩
                · rw [if_neg c13] at H
                  exact absurd H (by simp)
              · rw [if_neg c12] at H
                exact absurd H (by simp)
            · rw [if_neg c11] at H
              have c11b0 : decide (x13_2 < (l1.length : Int)) = false := decide_eq_false c11
              clear c11
              obtain rfl := Option.some.inj H
              have hcv30 := own_string (P := Try.prog) Try.underlying23 Try.underlying5 Try.underlying9 (Kd.own_of_R HO_5.out)
              go_wp2
              go_ret
              exact ⟨by first | rfl | (simp [errW_none, errW_some] <;> rfl) | (simp [*, errW_none, errW_some] <;> rfl), by repeat (first | (with_reducible first | exact HB.out | apply below_alloc | apply pw_below_drewN | apply below_drew1) | exact HB.out)⟩
  · rw [if_neg c3] at H
    exact absurd H (by simp)

end Go.Proofs.Ytiaageolmkplbaa.PBase0
