-- Written by a program of this session (wip/tools/drive.py over the kit's printer): functions, contracts and rows (All).
import Derived.Test.YtdkjlbbbdjkhbaaPAllx0
import Derived.Test.YtdkjlbbbdjkhbaaPAllx31
namespace Go.Proofs.Ytdkjlbbbdjkhbaa.PAll
open Go.RowKit Go.Proofs.YtdkjlbbbdjkhbaaW.PrintWords Go.Proofs.YtdkjlbbbdjkhbaaW.PrintLast Go.Proofs.YtdkjlbbbdjkhbaaW.PrintMore
attribute [local go_sem] max2_int min2_int max_two min_two max_three min_three max_four min_four   -- for this text's walks alone
open Go.Proofs.Ytdkjlbbbdjkhbaa.Hand
set_option linter.unusedVariables false
set_option linter.unusedSimpArgs false

/-! ### bolterlaw04_Data: function 49 -/
def bolterlaw04_Data.j0 : Nat → ByteArray → ByteArray → Int → Bool → Option (Int × ByteArray)
  | 0, _, _, _, _ => none
  | k + 1, x2, x8, x13, x14 => if x14 = true then (if x2.size + 4 ≤ 9223372036854775807 then (if 0 ≤ 4 then (if 4 ≤ ((x2 ++ (⟨#[1, 2, 3, 4]⟩ : ByteArray)).size : Int) then (some (1, (x2 ++ (⟨#[1, 2, 3, 4]⟩ : ByteArray)).extract 0 4)) else (none)) else (none)) else (none)) else (if x13 = 2 then (some (2, x8)) else (if x13 = 3 then (some (5, x8)) else (if x13 = 4 then (if x8.size + 1 ≤ 9223372036854775807 then (if (x8 ++ (⟨#[0]⟩ : ByteArray)).size + x8.size ≤ 9223372036854775807 then (if ((x8 ++ (⟨#[0]⟩ : ByteArray)) ++ x8).size + 1 ≤ 9223372036854775807 then (if x2.size + 20 ≤ 9223372036854775807 then (if 0 ≤ 20 then (if 20 ≤ ((x2 ++ (⟨#[48, 49, 50, 51, 52, 53, 54, 55, 56, 57, 48, 49, 50, 51, 52, 53, 54, 55, 56, 57]⟩ : ByteArray)).size : Int) then (if (((x8 ++ (⟨#[0]⟩ : ByteArray)) ++ x8) ++ (⟨#[0]⟩ : ByteArray)).size + ((x2 ++ (⟨#[48, 49, 50, 51, 52, 53, 54, 55, 56, 57, 48, 49, 50, 51, 52, 53, 54, 55, 56, 57]⟩ : ByteArray)).extract 0 20).size ≤ 9223372036854775807 then (some (6, (((x8 ++ (⟨#[0]⟩ : ByteArray)) ++ x8) ++ (⟨#[0]⟩ : ByteArray)) ++ ((x2 ++ (⟨#[48, 49, 50, 51, 52, 53, 54, 55, 56, 57, 48, 49, 50, 51, 52, 53, 54, 55, 56, 57]⟩ : ByteArray)).extract 0 20))) else (none)) else (none)) else (none)) else (none)) else (none)) else (none)) else (none)) else (if x13 = 5 then ((some (([mn (x2.size : Int) 255] : List Int) : List Int)).bind fun y438 => (if 0 ≤ (mn (x2.size : Int) 255) then (if (mn (x2.size : Int) 255) ≤ (x2.size : Int) then (if (strOfNums y438).size + (x2.extract 0 ((mn (x2.size : Int) 255) : Int).toNat).size ≤ 9223372036854775807 then (some (16, (strOfNums y438) ++ (x2.extract 0 ((mn (x2.size : Int) 255) : Int).toNat))) else (none)) else (none)) else (none))) else (if x13 = 6 then (if x2.size + 16 ≤ 9223372036854775807 then (if 0 ≤ 16 then (if 16 ≤ ((x2 ++ (⟨#[48, 49, 50, 51, 52, 53, 54, 55, 56, 57, 97, 98, 99, 100, 101, 102]⟩ : ByteArray)).size : Int) then (some (28, (x2 ++ (⟨#[48, 49, 50, 51, 52, 53, 54, 55, 56, 57, 97, 98, 99, 100, 101, 102]⟩ : ByteArray)).extract 0 16)) else (none)) else (none)) else (none)) else (if 0 ≤ (mn (x2.size : Int) 512) then (if (mn (x2.size : Int) 512) ≤ (x2.size : Int) then (some (99, x2.extract 0 ((mn (x2.size : Int) 512) : Int).toNat)) else (none)) else (none)))))))
def bolterlaw04_Data.f (k : Nat) (a0 : Int) (l1 : List Int) (a2 : ByteArray) : Option (Int × ByteArray) := (bolterlaw02_Name.f k l1).bind fun t437 => (if (Int.tmod a0 8) = 0 then (bolterlaw04_Data.j0 k a2 t437 (Int.tmod a0 8) ((Int.tmod a0 8) == 0)) else (bolterlaw04_Data.j0 k a2 t437 (Int.tmod a0 8) ((Int.tmod a0 8) == 1)))
theorem bolterlaw04_Data.mono_l : ∀ k, (∀ y0 y1 y2 y3, LeO (bolterlaw04_Data.j0 k y0 y1 y2 y3) (bolterlaw04_Data.j0 (k + 1) y0 y1 y2 y3))
  | 0 => fun _ _ _ _ r h => by simp [bolterlaw04_Data.j0] at h
  | k + 1 => by
    have ih0 := bolterlaw04_Data.mono_l k
    · intro y0 y1 y2 y3
      unfold bolterlaw04_Data.j0
      repeat' first
      | (with_reducible exact ih0 _ _ _ _)
      | (with_reducible exact bolterlaw02_Name.mono _ _)
      | (with_reducible exact LeO.refl _)
      | (with_reducible exact LeO.none _)
      | (with_reducible refine LeO.ite ?_ ?_)
      | (with_reducible refine LeO.bind ?_ (fun _ => ?_))
      | exact ih0 _ _ _ _
      | exact bolterlaw02_Name.mono _ _
      | exact LeO.none _
      | refine LeO.ite ?_ ?_
      | refine LeO.bind ?_ (fun _ => ?_)
theorem bolterlaw04_Data.mono : ∀ a0 a1 a2 k, LeO (bolterlaw04_Data.f k a0 a1 a2) (bolterlaw04_Data.f (k + 1) a0 a1 a2) := by
  intro a0 a1 a2 k
  have ih0 := bolterlaw04_Data.mono_l k
  unfold bolterlaw04_Data.f
  repeat' first
      | (with_reducible exact ih0 _ _ _ _)
      | (with_reducible exact bolterlaw02_Name.mono _ _)
      | (with_reducible exact LeO.refl _)
      | (with_reducible exact LeO.none _)
      | (with_reducible refine LeO.ite ?_ ?_)
      | (with_reducible refine LeO.bind ?_ (fun _ => ?_))
      | exact ih0 _ _ _ _
      | exact bolterlaw02_Name.mono _ _
      | exact LeO.none _
      | refine LeO.ite ?_ ?_
      | refine LeO.bind ?_ (fun _ => ?_)
def bolterlaw04_Data.T11 : Bool × List (List Nat × List Nat) := (true, [([], []), ([0], [0]), ([], []), ([1, 2], [1, 2]), ([3], [3]), ([], []), ([5], [5]), ([6], [6]), ([4, 7], [4, 7]), ([], []), ([8, 9, 0, 1, 2, 3, 4, 5, 6, 7, 8, 9], [8])])
def bolterlaw04_Data.B11 : List Nat := [0, 1, 0, 7, 15, 0, 32, 96, 255, 0, 1023]
theorem bolterlaw04_Data.tab11 : rtab .any (opsOf Try.f49 11) = bolterlaw04_Data.T11 := by kernel_rfl
theorem bolterlaw04_Data.bits11 : waitsOk bolterlaw04_Data.T11.2 bolterlaw04_Data.B11 = true := by kernel_rfl
def bolterlaw04_Data.T14 : Bool × List (List Nat × List Nat) := (true, [([], []), ([0], [0]), ([1], [1]), ([2], [2]), ([], []), ([], []), ([4, 5], [4, 5]), ([3, 6], [3, 6]), ([], []), ([7, 8, 0, 1, 2, 3, 4, 5, 6, 7, 8], [7])])
def bolterlaw04_Data.B14 : List Nat := [0, 1, 3, 7, 0, 0, 48, 127, 0, 511]
theorem bolterlaw04_Data.tab14 : rtab .any (opsOf Try.f49 14) = bolterlaw04_Data.T14 := by kernel_rfl
theorem bolterlaw04_Data.bits14 : waitsOk bolterlaw04_Data.T14.2 bolterlaw04_Data.B14 = true := by kernel_rfl
set_option maxHeartbeats 8000000 in
set_option maxRecDepth 100000 in
theorem bolterlaw04_Data.calls (k : Nat) (a0 : Int) (A1 : Option Addr) (c1 : Nat) (l1 : List Int) (a2 : ByteArray) (r1 : Int) (r2 : ByteArray) (w : World) (hr1 : Kd.C (Kd.int .u8) w A1 l1.length l1) (hc1 : l1.length ≤ c1) (h : bolterlaw04_Data.f k a0 l1 a2 = some (r1, r2)) :
    Calls Try.prog 49 #[.int .u16 a0, .slice A1 l1.length c1, .string a2] w fun e w' => e = .returned (.tuple #[.int .u16 r1, .string r2]) ∧ Below w.heap.size w w' := by
  have HR1 := Aside0.mk hr1
  have HC1 := Aside0.mk hc1
  clear hr1 hc1
  have HB := Aside0.mk (Below.refl w.heap.size w)
  have H : ((bolterlaw02_Name.f k l1).bind fun t437 => (if (Int.tmod a0 8) = 0 then (bolterlaw04_Data.j0 k a2 t437 (Int.tmod a0 8) ((Int.tmod a0 8) == 0)) else (bolterlaw04_Data.j0 k a2 t437 (Int.tmod a0 8) ((Int.tmod a0 8) == 1)))) = some (r1, r2) := h
  clear h
  replace H := Option.bind_eq_some_iff.mp H
  obtain ⟨t437, A40, H⟩ := H
  replace H : (if (Int.tmod a0 8) = 0 then (bolterlaw04_Data.j0 k a2 t437 (Int.tmod a0 8) ((Int.tmod a0 8) == 0)) else (bolterlaw04_Data.j0 k a2 t437 (Int.tmod a0 8) ((Int.tmod a0 8) == 1))) = some (r1, r2) := H
  have A4 := Aside0.mk A40
  clear A40
  have HC5 := Aside0.mk H
  clear H
  go_enter Try.func49, Try.ntmps49
  go_upto_if 14 with (first | ((with_reducible refine gate_callee (f := 16) rfl ?_); refine goesL_ (some 11) rfl rfl Try.func16 (by kernel_rfl) rfl #[.slice A1 l1.length c1] rfl (by (try simp only [List.map_toArray, List.map_cons, List.map_nil]); first | done | rfl | (simp only [List.length_drop, List.length_take]; rfl)) ?_; (with_reducible refine (bolterlaw02_Name.calls k _ _ l1 t437 _ ?side1 ?side2 A4.out).mono ?_); (case side1 => repeat (first | exact HR1.out | (with_reducible refine Kd.C_alloc ?_ _) | (with_reducible refine Kd.C_drewN ?_ _) | (with_reducible refine Kd.C_drew ?_))); (case side2 => exact HC1.out); rintro e w6 ⟨rfl, hb⟩; refine ⟨_, rfl, ?_⟩; have n0_ := Aside0.mk (below_step (by repeat (first | (with_reducible first | exact HB.out | apply below_alloc | apply pw_below_drewN | apply below_drew1) | exact HB.out)) hb); clear HB; have HB := n0_; clear n0_; (try clear hb); (try clear hb2); (try clear hk); (try clear hi)))
  (try simp only [Act.put, List.setIfInBounds_toArray, List.set_cons_zero, List.set_cons_succ])
  go_cut [14] (fun v14 wc => ∃ (kq : Nat) (x14_4 : Bool), v14 = .bool x14_4 ∧ Aside0 (bolterlaw04_Data.j0 kq a2 t437 (Int.tmod a0 8) x14_4 = some (r1, r2)) ∧ Aside0 (kq ≤ k) ∧ Aside0 (Below w.heap.size w wc))
  case first =>
    have H := HC5.out
    clear HC5
    by_cases c7 : (Int.tmod a0 8) = 0
    · rw [if_pos c7] at H
      have c7b0 : ((Int.tmod a0 8) == 0) = true := beq_iff_eq.mpr c7
      have c7b1 : ((Int.tmod a0 8) != 0) = false := bne_eq_false_iff_eq.mpr c7
      clear c7
      (first | rw [c7b0] | (simp only [i64_w, i32_w]; rw [c7b0]) | skip)
      have H' := Aside0.mk H
      clear H
      go_wp2
      go_meet
      case rel => exact ⟨_, (((Int.tmod a0 8) == 0)), (by first | rfl | (simp; done) | (simp [*]; done)), H', ⟨by first | omega | exact Nat.le_refl _⟩, ⟨by repeat (first | (with_reducible first | exact HB.out | apply below_alloc | apply pw_below_drewN | apply below_drew1) | exact HB.out)⟩⟩
    · rw [if_neg c7] at H
      have c7b0 : ((Int.tmod a0 8) == 0) = false := beq_eq_false_iff_ne.mpr c7
      have c7b1 : ((Int.tmod a0 8) != 0) = true := bne_iff_ne.mpr c7
      (first | rw [c7b0] | (simp only [i64_w, i32_w]; rw [c7b0]) | skip)
      have H' := Aside0.mk H
      clear H
      go_wp2
      go_meet
      case rel => exact ⟨_, (((Int.tmod a0 8) == 1)), (by first | rfl | (simp; done) | (simp [*]; done)), H', ⟨by first | omega | exact Nat.le_refl _⟩, ⟨by repeat (first | (with_reducible first | exact HB.out | apply below_alloc | apply pw_below_drewN | apply below_drew1) | exact HB.out)⟩⟩
  case rest =>
    clear HC5
    try clear c1
    try clear p2
    try clear c4
    try clear c7
    try clear c7b0
    try clear c7b1
    obtain ⟨kq, x14_4, rfl, HA, HJ4, HB⟩ := hcut
    cases kq with
    | zero => exact absurd HA.out (by simp [bolterlaw04_Data.j0])
    | succ kj4 =>
      have H := HA.out
      clear HA
      simp only [bolterlaw04_Data.j0] at H
      by_cases c8 : x14_4 = true
      · subst c8
        have H1 : (if a2.size + 4 ≤ 9223372036854775807 then (if 0 ≤ 4 then (if 4 ≤ ((a2 ++ (⟨#[1, 2, 3, 4]⟩ : ByteArray)).size : Int) then (some (1, (a2 ++ (⟨#[1, 2, 3, 4]⟩ : ByteArray)).extract 0 4)) else (none)) else (none)) else (none)) = some (r1, r2) := by rw [if_pos rfl] at H; exact H
        clear H
        have H := H1
        clear H1
        by_cases c9 : a2.size + 4 ≤ 9223372036854775807
        · rw [if_pos c9] at H
          have c9b0 := eq_true c9
          have c9b1 : decide (a2.size + 4 ≤ 9223372036854775807) = true := decide_eq_true c9
          try have c9b2 : (9223372036854775807 < a2.size + 4) = False := eq_false (Nat.not_lt.2 c9)
          by_cases c10 : 0 ≤ 4
          · rw [if_pos c10] at H
            have c10b0 := eq_true c10
            have c10b1 : decide (0 ≤ 4) = true := decide_eq_true c10
            clear c10
            by_cases c11 : 4 ≤ ((a2 ++ (⟨#[1, 2, 3, 4]⟩ : ByteArray)).size : Int)
            · rw [if_pos c11] at H
              have c11b0 := eq_true c11
              have c11b1 : decide (4 ≤ ((a2 ++ (⟨#[1, 2, 3, 4]⟩ : ByteArray)).size : Int)) = true := decide_eq_true c11
              have xc11 : ((4 : Int) ≤ (a2.size : Int) + 4) = True := eq_true (by omega)
              simp only [Option.some.injEq, Prod.mk.injEq] at H
              obtain ⟨rfl, rfl⟩ := H
              try go_wp2
              have n0_ := Aside0.mk (below_drew1 HB.out)
              clear HB
              have HB := n0_
              clear n0_
              refine start_ (n := 5) (S := fun w' => True) (ds := []) #[false, false, false, false, false] (by kernel_rfl) rfl rfl trivial (fun hHeld => ?_)
              generalize wc.drew = w12 at HB hHeld ⊢
              refine pure_ (i := 0) (N := some 17) (v := ?_) (a' := ?_) #[true, false, false, false, false] rfl rfl (by kernel_rfl) (fun _ _ _ h => h) (Or.inl ⟨by rfl, ?_⟩) ?_ ?_
              rotate_left
              · intro w'
                go_simp
                with_reducible rfl
              rotate_left
              · simp only [Act.put, List.setIfInBounds_toArray, List.set_cons_zero, List.set_cons_succ, i64_w, i32_w]
                rfl
              refine pure_ (i := 1) (N := some 18) (v := ?_) (a' := ?_) #[true, true, false, false, false] rfl rfl (by kernel_rfl) (fun _ _ _ h => h) (Or.inl ⟨by rfl, ?_⟩) ?_ ?_
              rotate_left
              · intro w'
                go_simp
                with_reducible rfl
              rotate_left
              · simp only [Act.put, List.setIfInBounds_toArray, List.set_cons_zero, List.set_cons_succ, i64_w, i32_w]
                rfl
              refine pure_ (i := 2) (N := some 19) (v := ?_) (a' := ?_) #[true, true, true, false, false] rfl rfl (by kernel_rfl) (fun _ _ _ h => h) (Or.inl ⟨by rfl, ?_⟩) ?_ ?_
              rotate_left
              · intro w'
                go_simp
                with_reducible rfl
              rotate_left
              · simp only [Act.put, List.setIfInBounds_toArray, List.set_cons_zero, List.set_cons_succ, i64_w, i32_w]
                rfl
              refine pure_ (i := 3) (N := some 6) (v := ?_) (a' := ?_) #[true, true, true, true, false] rfl rfl (by kernel_rfl) (fun _ _ _ h => h) (Or.inl ⟨by rfl, ?_⟩) ?_ ?_
              rotate_left
              · intro w'
                go_simp
                with_reducible rfl
              rotate_left
              · simp only [Act.put, List.setIfInBounds_toArray, List.set_cons_zero, List.set_cons_succ, i64_w, i32_w]
                rfl
              refine pure_ (i := 4) (N := some 7) (v := ?_) (a' := ?_) #[true, true, true, true, true] rfl rfl (by kernel_rfl) (fun _ _ _ h => h) (Or.inl ⟨by rfl, ?_⟩) ?_ ?_
              rotate_left
              · intro w'
                go_simp
                with_reducible rfl
              rotate_left
              · simp only [Act.put, List.setIfInBounds_toArray, List.set_cons_zero, List.set_cons_succ, i64_w, i32_w]
                rfl
              refine done_ (by kernel_rfl) ?_
              try go_wp2
              go_ret2
              exact ⟨by first | rfl | (simp [errW_none, errW_some] <;> rfl) | (simp [*, errW_none, errW_some] <;> rfl), by repeat (first | (with_reducible first | exact HB.out | apply below_alloc | apply pw_below_drewN | apply below_drew1) | exact HB.out)⟩
            · rw [if_neg c11] at H
              exact absurd H (by simp)
          · rw [if_neg c10] at H
            exact absurd H (by simp)
        · rw [if_neg c9] at H
          exact absurd H (by simp)
      · replace c8 := Bool.eq_false_iff.mpr c8
        subst c8
        have H1 : (if (Int.tmod a0 8) = 2 then (some (2, t437)) else (if (Int.tmod a0 8) = 3 then (some (5, t437)) else (if (Int.tmod a0 8) = 4 then (if t437.size + 1 ≤ 9223372036854775807 then (if (t437 ++ (⟨#[0]⟩ : ByteArray)).size + t437.size ≤ 9223372036854775807 then (if ((t437 ++ (⟨#[0]⟩ : ByteArray)) ++ t437).size + 1 ≤ 9223372036854775807 then (if a2.size + 20 ≤ 9223372036854775807 then (if 0 ≤ 20 then (if 20 ≤ ((a2 ++ (⟨#[48, 49, 50, 51, 52, 53, 54, 55, 56, 57, 48, 49, 50, 51, 52, 53, 54, 55, 56, 57]⟩ : ByteArray)).size : Int) then (if (((t437 ++ (⟨#[0]⟩ : ByteArray)) ++ t437) ++ (⟨#[0]⟩ : ByteArray)).size + ((a2 ++ (⟨#[48, 49, 50, 51, 52, 53, 54, 55, 56, 57, 48, 49, 50, 51, 52, 53, 54, 55, 56, 57]⟩ : ByteArray)).extract 0 20).size ≤ 9223372036854775807 then (some (6, (((t437 ++ (⟨#[0]⟩ : ByteArray)) ++ t437) ++ (⟨#[0]⟩ : ByteArray)) ++ ((a2 ++ (⟨#[48, 49, 50, 51, 52, 53, 54, 55, 56, 57, 48, 49, 50, 51, 52, 53, 54, 55, 56, 57]⟩ : ByteArray)).extract 0 20))) else (none)) else (none)) else (none)) else (none)) else (none)) else (none)) else (none)) else (if (Int.tmod a0 8) = 5 then ((some (([mn (a2.size : Int) 255] : List Int) : List Int)).bind fun y438 => (if 0 ≤ (mn (a2.size : Int) 255) then (if (mn (a2.size : Int) 255) ≤ (a2.size : Int) then (if (strOfNums y438).size + (a2.extract 0 ((mn (a2.size : Int) 255) : Int).toNat).size ≤ 9223372036854775807 then (some (16, (strOfNums y438) ++ (a2.extract 0 ((mn (a2.size : Int) 255) : Int).toNat))) else (none)) else (none)) else (none))) else (if (Int.tmod a0 8) = 6 then (if a2.size + 16 ≤ 9223372036854775807 then (if 0 ≤ 16 then (if 16 ≤ ((a2 ++ (⟨#[48, 49, 50, 51, 52, 53, 54, 55, 56, 57, 97, 98, 99, 100, 101, 102]⟩ : ByteArray)).size : Int) then (some (28, (a2 ++ (⟨#[48, 49, 50, 51, 52, 53, 54, 55, 56, 57, 97, 98, 99, 100, 101, 102]⟩ : ByteArray)).extract 0 16)) else (none)) else (none)) else (none)) else (if 0 ≤ (mn (a2.size : Int) 512) then (if (mn (a2.size : Int) 512) ≤ (a2.size : Int) then (some (99, a2.extract 0 ((mn (a2.size : Int) 512) : Int).toNat)) else (none)) else (none))))))) = some (r1, r2) := by rw [if_neg (show ¬ (false = true) by decide)] at H; exact H
        clear H
        have H := H1
        clear H1
        by_cases c13 : (Int.tmod a0 8) = 2
        · rw [if_pos c13] at H
          have c13b0 : ((Int.tmod a0 8) == 2) = true := beq_iff_eq.mpr c13
          have c13b1 : ((Int.tmod a0 8) != 2) = false := bne_eq_false_iff_eq.mpr c13
          clear c13
          simp only [Option.some.injEq, Prod.mk.injEq] at H
          obtain ⟨rfl, rfl⟩ := H
          go_wp2
          go_ret2
          exact ⟨by first | rfl | (simp [errW_none, errW_some] <;> rfl) | (simp [*, errW_none, errW_some] <;> rfl), by repeat (first | (with_reducible first | exact HB.out | apply below_alloc | apply pw_below_drewN | apply below_drew1) | exact HB.out)⟩
        · rw [if_neg c13] at H
          have c13b0 : ((Int.tmod a0 8) == 2) = false := beq_eq_false_iff_ne.mpr c13
          have c13b1 : ((Int.tmod a0 8) != 2) = true := bne_iff_ne.mpr c13
          by_cases c14 : (Int.tmod a0 8) = 3
          · rw [if_pos c14] at H
            have c14b0 : ((Int.tmod a0 8) == 3) = true := beq_iff_eq.mpr c14
            have c14b1 : ((Int.tmod a0 8) != 3) = false := bne_eq_false_iff_eq.mpr c14
            clear c14
            simp only [Option.some.injEq, Prod.mk.injEq] at H
            obtain ⟨rfl, rfl⟩ := H
            go_wp2
            go_ret2
            exact ⟨by first | rfl | (simp [errW_none, errW_some] <;> rfl) | (simp [*, errW_none, errW_some] <;> rfl), by repeat (first | (with_reducible first | exact HB.out | apply below_alloc | apply pw_below_drewN | apply below_drew1) | exact HB.out)⟩
          · rw [if_neg c14] at H
            have c14b0 : ((Int.tmod a0 8) == 3) = false := beq_eq_false_iff_ne.mpr c14
            have c14b1 : ((Int.tmod a0 8) != 3) = true := bne_iff_ne.mpr c14
            by_cases c15 : (Int.tmod a0 8) = 4
            · rw [if_pos c15] at H
              have c15b0 : ((Int.tmod a0 8) == 4) = true := beq_iff_eq.mpr c15
              have c15b1 : ((Int.tmod a0 8) != 4) = false := bne_eq_false_iff_eq.mpr c15
              clear c15
              by_cases c16 : t437.size + 1 ≤ 9223372036854775807
              · rw [if_pos c16] at H
                have c16b0 := eq_true c16
                have c16b1 : decide (t437.size + 1 ≤ 9223372036854775807) = true := decide_eq_true c16
                try have c16b2 : (9223372036854775807 < t437.size + 1) = False := eq_false (Nat.not_lt.2 c16)
                by_cases c17 : (t437 ++ (⟨#[0]⟩ : ByteArray)).size + t437.size ≤ 9223372036854775807
                · rw [if_pos c17] at H
                  have c17b0 := eq_true c17
                  have c17b1 : decide ((t437 ++ (⟨#[0]⟩ : ByteArray)).size + t437.size ≤ 9223372036854775807) = true := decide_eq_true c17
                  have ec17 : (t437 ++ (⟨#[0]⟩ : ByteArray)).size = t437.size + 1 := by rw [ByteArray.size_append]; rfl
                  have xc17 : (9223372036854775807 < t437.size + 1 + t437.size) = False := eq_false (by have h_ := c17; rw [ec17] at h_; omega)
                  try have c17b2 : (9223372036854775807 < (t437 ++ (⟨#[0]⟩ : ByteArray)).size + t437.size) = False := eq_false (Nat.not_lt.2 c17)
                  by_cases c18 : ((t437 ++ (⟨#[0]⟩ : ByteArray)) ++ t437).size + 1 ≤ 9223372036854775807
                  · rw [if_pos c18] at H
                    have c18b0 := eq_true c18
                    have c18b1 : decide (((t437 ++ (⟨#[0]⟩ : ByteArray)) ++ t437).size + 1 ≤ 9223372036854775807) = true := decide_eq_true c18
                    have xc18 : (9223372036854775807 < t437.size + 1 + t437.size + 1) = False := eq_false (by have h_ := c18; rw [ByteArray.size_append, ec17] at h_; omega)
                    try have c18b2 : (9223372036854775807 < ((t437 ++ (⟨#[0]⟩ : ByteArray)) ++ t437).size + 1) = False := eq_false (Nat.not_lt.2 c18)
                    by_cases c19 : a2.size + 20 ≤ 9223372036854775807
                    · rw [if_pos c19] at H
                      have c19b0 := eq_true c19
                      have c19b1 : decide (a2.size + 20 ≤ 9223372036854775807) = true := decide_eq_true c19
                      try have c19b2 : (9223372036854775807 < a2.size + 20) = False := eq_false (Nat.not_lt.2 c19)
                      by_cases c20 : 0 ≤ 20
                      · rw [if_pos c20] at H
                        have c20b0 := eq_true c20
                        have c20b1 : decide (0 ≤ 20) = true := decide_eq_true c20
                        clear c20
                        by_cases c21 : 20 ≤ ((a2 ++ (⟨#[48, 49, 50, 51, 52, 53, 54, 55, 56, 57, 48, 49, 50, 51, 52, 53, 54, 55, 56, 57]⟩ : ByteArray)).size : Int)
                        · rw [if_pos c21] at H
                          have c21b0 := eq_true c21
                          have c21b1 : decide (20 ≤ ((a2 ++ (⟨#[48, 49, 50, 51, 52, 53, 54, 55, 56, 57, 48, 49, 50, 51, 52, 53, 54, 55, 56, 57]⟩ : ByteArray)).size : Int)) = true := decide_eq_true c21
                          have xc21 : ((20 : Int) ≤ (a2.size : Int) + 20) = True := eq_true (by omega)
                          by_cases c22 : (((t437 ++ (⟨#[0]⟩ : ByteArray)) ++ t437) ++ (⟨#[0]⟩ : ByteArray)).size + ((a2 ++ (⟨#[48, 49, 50, 51, 52, 53, 54, 55, 56, 57, 48, 49, 50, 51, 52, 53, 54, 55, 56, 57]⟩ : ByteArray)).extract 0 20).size ≤ 9223372036854775807
                          · rw [if_pos c22] at H
                            have c22b0 := eq_true c22
                            have c22b1 : decide ((((t437 ++ (⟨#[0]⟩ : ByteArray)) ++ t437) ++ (⟨#[0]⟩ : ByteArray)).size + ((a2 ++ (⟨#[48, 49, 50, 51, 52, 53, 54, 55, 56, 57, 48, 49, 50, 51, 52, 53, 54, 55, 56, 57]⟩ : ByteArray)).extract 0 20).size ≤ 9223372036854775807) = true := decide_eq_true c22
                            have yc22 : ((((t437 ++ (⟨#[0]⟩ : ByteArray)) ++ t437) ++ (⟨#[0]⟩ : ByteArray)).size = t437.size + 1 + t437.size + 1) := by rw [ByteArray.size_append, ByteArray.size_append, ec17]; rfl
                            have zc22 : ((a2 ++ (⟨#[48, 49, 50, 51, 52, 53, 54, 55, 56, 57, 48, 49, 50, 51, 52, 53, 54, 55, 56, 57]⟩ : ByteArray)).extract 0 20).size = 20 := by rw [ByteArray.size_extract, ByteArray.size_append]; show min 20 (a2.size + 20) - 0 = 20; omega
                            have xc22 : (9223372036854775807 < t437.size + 1 + t437.size + 1 + 20) = False := eq_false (by have h_ := c22; rw [yc22, zc22] at h_; omega)
                            have vc22 : (9223372036854775807 < t437.size + 1 + t437.size + 1 + min 20 (a2.size + 20)) = False := eq_false (by have h_ := c22; rw [yc22, zc22] at h_; omega)
                            try have c22b2 : (9223372036854775807 < (((t437 ++ (⟨#[0]⟩ : ByteArray)) ++ t437) ++ (⟨#[0]⟩ : ByteArray)).size + ((a2 ++ (⟨#[48, 49, 50, 51, 52, 53, 54, 55, 56, 57, 48, 49, 50, 51, 52, 53, 54, 55, 56, 57]⟩ : ByteArray)).extract 0 20).size) = False := eq_false (Nat.not_lt.2 c22)
                            simp only [Option.some.injEq, Prod.mk.injEq] at H
                            obtain ⟨rfl, rfl⟩ := H
                            try go_wp2
                            have n0_ := Aside0.mk (below_drew1 HB.out)
                            clear HB
                            have HB := n0_
                            clear n0_
                            refine start_ (n := 11) (S := fun w' => True) (ds := []) #[false, false, false, false, false, false, false, false, false, false, false] (by kernel_rfl) rfl rfl trivial (fun hHeld => ?_); refine with_tabW bolterlaw04_Data.tab11 bolterlaw04_Data.bits11 (fun HT_ HW_ => ?_)
                            generalize wc.drew = w23 at HB hHeld ⊢
                            refine pure_ (i := 0) (N := some 28) (v := ?_) (a' := ?_) #[true, false, false, false, false, false, false, false, false, false, false] rfl rfl (any_of HT_.out (by kernel_rfl)) (fun _ _ _ h => h) (Or.inl ⟨by rfl, ?_⟩) ?_ ?_
                            rotate_left
                            · intro w'
                              go_simp
                              with_reducible rfl
                            rotate_left
                            · simp only [Act.put, List.setIfInBounds_toArray, List.set_cons_zero, List.set_cons_succ, i64_w, i32_w]
                              rfl
                            refine pure_ (i := 1) (N := some 29) (v := ?_) (a' := ?_) #[true, true, false, false, false, false, false, false, false, false, false] rfl rfl (any_of HT_.out (by kernel_rfl)) (fun _ _ _ h => h) (Or.inl ⟨by rfl, ?_⟩) ?_ ?_
                            rotate_left
                            · intro w'
                              go_simp
                              with_reducible rfl
                            rotate_left
                            · simp only [Act.put, List.setIfInBounds_toArray, List.set_cons_zero, List.set_cons_succ, i64_w, i32_w]
                              rfl
                            refine pure_ (i := 2) (N := some 30) (v := ?_) (a' := ?_) #[true, true, true, false, false, false, false, false, false, false, false] rfl rfl (any_of HT_.out (by kernel_rfl)) (fun _ _ _ h => h) (Or.inl ⟨by rfl, ?_⟩) ?_ ?_
                            rotate_left
                            · intro w'
                              go_simp
                              with_reducible rfl
                            rotate_left
                            · simp only [Act.put, List.setIfInBounds_toArray, List.set_cons_zero, List.set_cons_succ, i64_w, i32_w]
                              rfl
                            refine pure_ (i := 3) (N := some 31) (v := ?_) (a' := ?_) #[true, true, true, true, false, false, false, false, false, false, false] rfl rfl (any_of HT_.out (by kernel_rfl)) (fun _ _ _ h => h) (Or.inl ⟨by rfl, ?_⟩) ?_ ?_
                            rotate_left
                            · intro w'
                              go_simp
                              with_reducible rfl
                            rotate_left
                            · simp only [Act.put, List.setIfInBounds_toArray, List.set_cons_zero, List.set_cons_succ, i64_w, i32_w]
                              rfl
                            refine pure_ (i := 4) (N := some 32) (v := ?_) (a' := ?_) #[true, true, true, true, true, false, false, false, false, false, false] rfl rfl (any_of HT_.out (by kernel_rfl)) (fun _ _ _ h => h) (Or.inl ⟨by rfl, ?_⟩) ?_ ?_
                            rotate_left
                            · intro w'
                              go_simp
                              with_reducible rfl
                            rotate_left
                            · simp only [Act.put, List.setIfInBounds_toArray, List.set_cons_zero, List.set_cons_succ, i64_w, i32_w]
                              rfl
                            refine pure_ (i := 5) (N := some 33) (v := ?_) (a' := ?_) #[true, true, true, true, true, true, false, false, false, false, false] rfl rfl (any_of HT_.out (by kernel_rfl)) (fun _ _ _ h => h) (Or.inl ⟨by rfl, ?_⟩) ?_ ?_
                            rotate_left
                            · intro w'
                              go_simp
                              with_reducible rfl
                            rotate_left
                            · simp only [Act.put, List.setIfInBounds_toArray, List.set_cons_zero, List.set_cons_succ, i64_w, i32_w]
                              rfl
                            refine pure_ (i := 6) (N := some 34) (v := ?_) (a' := ?_) #[true, true, true, true, true, true, true, false, false, false, false] rfl rfl (any_of HT_.out (by kernel_rfl)) (fun _ _ _ h => h) (Or.inl ⟨by rfl, ?_⟩) ?_ ?_
                            rotate_left
                            · intro w'
                              go_simp
                              with_reducible rfl
                            rotate_left
                            · simp only [Act.put, List.setIfInBounds_toArray, List.set_cons_zero, List.set_cons_succ, i64_w, i32_w]
                              rfl
                            refine pure_ (i := 7) (N := some 35) (v := ?_) (a' := ?_) #[true, true, true, true, true, true, true, true, false, false, false] rfl rfl (any_of HT_.out (by kernel_rfl)) (fun _ _ _ h => h) (Or.inl ⟨by rfl, ?_⟩) ?_ ?_
                            rotate_left
                            · intro w'
                              go_simp
                              with_reducible rfl
                            rotate_left
                            · simp only [Act.put, List.setIfInBounds_toArray, List.set_cons_zero, List.set_cons_succ, i64_w, i32_w]
                              rfl
                            refine pure_ (i := 8) (N := some 36) (v := ?_) (a' := ?_) #[true, true, true, true, true, true, true, true, true, false, false] rfl rfl (any_of HT_.out (by kernel_rfl)) (fun _ _ _ h => h) (Or.inl ⟨by rfl, ?_⟩) ?_ ?_
                            rotate_left
                            · intro w'
                              go_simp
                              with_reducible rfl
                            rotate_left
                            · simp only [Act.put, List.setIfInBounds_toArray, List.set_cons_zero, List.set_cons_succ, i64_w, i32_w]
                              rfl
                            refine pure_ (i := 9) (N := some 6) (v := ?_) (a' := ?_) #[true, true, true, true, true, true, true, true, true, true, false] rfl rfl (any_of HT_.out (by kernel_rfl)) (fun _ _ _ h => h) (Or.inl ⟨by rfl, ?_⟩) ?_ ?_
                            rotate_left
                            · intro w'
                              go_simp
                              with_reducible rfl
                            rotate_left
                            · simp only [Act.put, List.setIfInBounds_toArray, List.set_cons_zero, List.set_cons_succ, i64_w, i32_w]
                              rfl
                            refine pure_ (i := 10) (N := some 7) (v := ?_) (a' := ?_) #[true, true, true, true, true, true, true, true, true, true, true] rfl rfl (any_of HT_.out (by kernel_rfl)) (fun _ _ _ h => h) (Or.inl ⟨by rfl, ?_⟩) ?_ ?_
                            rotate_left
                            · intro w'
                              go_simp
                              with_reducible rfl
                            rotate_left
                            · simp only [Act.put, List.setIfInBounds_toArray, List.set_cons_zero, List.set_cons_succ, i64_w, i32_w]
                              rfl
                            refine done_ (done_of HT_.out (by kernel_rfl)) ?_
                            try go_wp2
                            go_ret2
                            exact ⟨by first | rfl | (simp [errW_none, errW_some] <;> rfl) | (simp [*, errW_none, errW_some] <;> rfl), by repeat (first | (with_reducible first | exact HB.out | apply below_alloc | apply pw_below_drewN | apply below_drew1) | exact HB.out)⟩
                          · rw [if_neg c22] at H
                            exact absurd H (by simp)
                        · rw [if_neg c21] at H
                          exact absurd H (by simp)
                      · rw [if_neg c20] at H
                        exact absurd H (by simp)
                    · rw [if_neg c19] at H
                      exact absurd H (by simp)
                  · rw [if_neg c18] at H
                    exact absurd H (by simp)
                · rw [if_neg c17] at H
                  exact absurd H (by simp)
              · rw [if_neg c16] at H
                exact absurd H (by simp)
            · rw [if_neg c15] at H
              have c15b0 : ((Int.tmod a0 8) == 4) = false := beq_eq_false_iff_ne.mpr c15
              have c15b1 : ((Int.tmod a0 8) != 4) = true := bne_iff_ne.mpr c15
              by_cases c24 : (Int.tmod a0 8) = 5
              · rw [if_pos c24] at H
                have c24b0 : ((Int.tmod a0 8) == 5) = true := beq_iff_eq.mpr c24
                have c24b1 : ((Int.tmod a0 8) != 5) = false := bne_eq_false_iff_eq.mpr c24
                clear c24
                obtain ⟨ji25, hji25⟩ : ∃ j_ : Int, (mn (a2.size : Int) 255) = j_ := ⟨_, rfl⟩
                replace H : ((some (([ji25] : List Int) : List Int)).bind fun y438 => (if 0 ≤ (ji25) then (if (ji25) ≤ (a2.size : Int) then (if (strOfNums y438).size + (a2.extract 0 ((ji25) : Int).toNat).size ≤ 9223372036854775807 then (some (16, (strOfNums y438) ++ (a2.extract 0 ((ji25) : Int).toNat))) else (none)) else (none)) else (none))) = some (r1, r2) := by first | (rw [hji25] at H; exact H) | (simp only [hji25] at H ⊢; exact H)
                have hji25_ : (if 255 < (a2.size : Int) then 255 else (a2.size : Int)) = ji25 := hji25
                have wj25 : IntKind.u8.wrap ji25 = ji25 := by
                  have h_ : 0 ≤ ji25 ∧ ji25 ≤ 255 := by rw [← hji25_]; split <;> omega
                  simp [IntKind.wrap, IntKind.bits, IntKind.signed]
                  omega
                obtain ⟨y438, hy438⟩ : ∃ y_ : List Int, y_ = (([ji25] : List Int)) := ⟨_, rfl⟩
                replace H : (if 0 ≤ (ji25) then (if (ji25) ≤ (a2.size : Int) then (if (strOfNums y438).size + (a2.extract 0 ((ji25) : Int).toNat).size ≤ 9223372036854775807 then (some (16, (strOfNums y438) ++ (a2.extract 0 ((ji25) : Int).toNat))) else (none)) else (none)) else (none)) = some (r1, r2) := by first | (rw [hy438]; with_reducible exact H) | (have H2_ := (Option.bind_some _ _).symm.trans H; rw [hy438]; with_reducible exact H2_) | (have H2_ := (Option.bind_some _ _).symm.trans H; with_reducible exact H2_) | with_reducible exact H | (rw [hy438]; exact H) | exact H
                have Ny438 := Aside0.mk hy438
                clear hy438
                by_cases c26 : 0 ≤ (ji25)
                · rw [if_pos c26] at H
                  have c26b0 := eq_true c26
                  have c26b1 : decide (0 ≤ (ji25)) = true := decide_eq_true c26
                  clear c26
                  by_cases c27 : (ji25) ≤ (a2.size : Int)
                  · rw [if_pos c27] at H
                    have c27b0 := eq_true c27
                    have c27b1 : decide ((ji25) ≤ (a2.size : Int)) = true := decide_eq_true c27
                    clear c27
                    by_cases c28 : (strOfNums y438).size + (a2.extract 0 ((ji25) : Int).toNat).size ≤ 9223372036854775807
                    · rw [if_pos c28] at H
                      have c28b0 := eq_true c28
                      have c28b1 : decide ((strOfNums y438).size + (a2.extract 0 ((ji25) : Int).toNat).size ≤ 9223372036854775807) = true := decide_eq_true c28
                      have xc28 : (9223372036854775807 < (strOfNums y438).size + ji25.toNat) = False := eq_false (by have h_ := c28; rw [ByteArray.size_extract] at h_; have g_ : ji25 ≤ (a2.size : Int) := of_decide_eq_true (by with_reducible assumption); omega)
                      try have c28b2 : (9223372036854775807 < (strOfNums y438).size + (a2.extract 0 ((ji25) : Int).toNat).size) = False := eq_false (Nat.not_lt.2 c28)
                      simp only [Option.some.injEq, Prod.mk.injEq] at H
                      obtain ⟨rfl, rfl⟩ := H
                      try go_wp2
                      have n0_ := Aside0.mk (below_drew1 HB.out)
                      clear HB
                      have HB := n0_
                      clear n0_
                      refine start_ (n := 10) (S := fun w' => True) (ds := []) #[false, false, false, false, false, false, false, false, false, false] (by kernel_rfl) rfl rfl trivial (fun hHeld => ?_); refine with_tabW bolterlaw04_Data.tab14 bolterlaw04_Data.bits14 (fun HT_ HW_ => ?_)
                      generalize wc.drew = w29 at HB hHeld ⊢
                      refine pure_ (i := 0) (N := some 42) (v := ?_) (a' := ?_) #[true, false, false, false, false, false, false, false, false, false] rfl rfl (any_of HT_.out (by kernel_rfl)) (fun _ _ _ h => h) (Or.inl ⟨by rfl, ?_⟩) ?_ ?_
                      rotate_left
                      · intro w'
                        go_simp
                        with_reducible rfl
                      rotate_left
                      · simp only [Act.put, List.setIfInBounds_toArray, List.set_cons_zero, List.set_cons_succ, i64_w, i32_w]
                        rfl
                      refine pure_ (i := 1) (N := some 43) (v := ?_) (a' := ?_) #[true, true, false, false, false, false, false, false, false, false] rfl rfl (any_of HT_.out (by kernel_rfl)) (fun _ _ _ h => h) (Or.inl ⟨by rfl, ?_⟩) ?_ ?_
                      rotate_left
                      · intro w'
                        go_simp
                        with_reducible rfl
                      rotate_left
                      · simp only [Act.put, List.setIfInBounds_toArray, List.set_cons_zero, List.set_cons_succ, i64_w, i32_w]
                        rfl
                      refine pure_ (i := 4) (N := some 46) (v := ?_) (a' := ?_) #[true, true, false, false, true, false, false, false, false, false] rfl rfl (any_of HT_.out (by kernel_rfl)) (fun _ _ _ h => h) (Or.inl ⟨by rfl, ?_⟩) ?_ ?_
                      rotate_left
                      · intro w'
                        go_simp
                        with_reducible rfl
                      rotate_left
                      · simp only [Act.put, List.setIfInBounds_toArray, List.set_cons_zero, List.set_cons_succ, i64_w, i32_w]
                        rfl
                      refine pure_ (i := 5) (N := some 47) (v := ?_) (a' := ?_) #[true, true, false, false, true, true, false, false, false, false] rfl rfl (any_of HT_.out (by kernel_rfl)) (fun _ _ _ h => h) (Or.inl ⟨by rfl, ?_⟩) ?_ ?_
                      rotate_left
                      · intro w'
                        go_simp
                        with_reducible rfl
                      rotate_left
                      · simp only [Act.put, List.setIfInBounds_toArray, List.set_cons_zero, List.set_cons_succ, i64_w, i32_w]
                        rfl
                      refine pure_ (i := 6) (N := some 48) (v := ?_) (a' := ?_) #[true, true, false, false, true, true, true, false, false, false] rfl rfl (any_of HT_.out (by kernel_rfl)) (fun _ _ _ h => h) (Or.inl ⟨by rfl, ?_⟩) ?_ ?_
                      rotate_left
                      · intro w'
                        go_simp
                        with_reducible rfl
                      rotate_left
                      · simp only [Act.put, List.setIfInBounds_toArray, List.set_cons_zero, List.set_cons_succ, i64_w, i32_w]
                        rfl
                      refine pure_ (i := 8) (N := some 6) (v := ?_) (a' := ?_) #[true, true, false, false, true, true, true, false, true, false] rfl rfl (any_of HT_.out (by kernel_rfl)) (fun _ _ _ h => h) (Or.inl ⟨by rfl, ?_⟩) ?_ ?_
                      rotate_left
                      · intro w'
                        go_simp
                        with_reducible rfl
                      rotate_left
                      · simp only [Act.put, List.setIfInBounds_toArray, List.set_cons_zero, List.set_cons_succ, i64_w, i32_w]
                        rfl
                      refine one_ (i := 2) (N := some 44) #[true, true, true, false, true, true, true, false, true, false] rfl rfl (one_of HT_.out (by kernel_rfl)) (by decide) (fun K hK => ?_)
                      refine Kd.R_lit_step (Kd.int .u8) _ 5 ?hg (N := 44) ?hd (xs := ([ji25] : List Int)) (inner := [.int .u8 ji25]) (ok := fun _ => True) (okp := fun _ => True) ?hr ?hp (fun _ hk => hk) trivial (Below.refl _ _) (Nat.le_refl _) (by simp) ?_; (case hd => rfl); (case hg => rfl); (case hr => first | (go_simp; done) | (go_simp; rfl)); (case hp => exact (Reps.one (show Kd.M (Kd.int .u8) _ _ _ ji25 [.int .u8 ji25] from rfl) (Reps.none _ _)))
                      intro v439 w30 ho31 hb hg_ hnew_
                      clear hg_ hnew_
                      (first | rw [← Ny438.out] at ho31 | (simp only [Int.reduceToNat] at ho31; rw [← Ny438.out] at ho31))
                      have n0_ := Aside0.mk (Kd.R_lower ho31 (below_size (by repeat (first | (with_reducible first | exact HB.out | apply below_alloc | apply pw_below_drewN | apply below_drew1) | exact HB.out))))
                      have n1_ := Aside0.mk (below_step (by repeat (first | (with_reducible first | exact HB.out | apply below_alloc | apply pw_below_drewN | apply below_drew1) | exact HB.out)) hb)
                      clear HB
                      have HO440 := n0_
                      have HB := n1_
                      clear n0_ n1_
                      clear hb ho31
                      refine hK.out _ _ trivial (fun hHeld => ?_)
                      clear hK K
                      refine norm_ (a' := ?_) ?_ ?_
                      rotate_left
                      · show Act.put _ (some 44) _ = _
                        simp only [Act.put, List.setIfInBounds_toArray, List.set_cons_zero, List.set_cons_succ, i64_w, i32_w]
                        rfl
                      refine one_ (i := 3) (N := some 45) #[true, true, true, true, true, true, true, false, true, false] rfl rfl (one_of HT_.out (by kernel_rfl)) (by decide) (fun K hK => ?_)
                      have hcv32 := own_string (P := Try.prog) Try.underlying22 Try.underlying5 Try.underlying9 (Kd.own_of_R HO440.out)
                      refine value_ (w1 := ?_) (v := ?_) (by rfl) rfl ?_ ?_
                      rotate_left 2
                      · go_simp
                        constructor
                        · rfl
                        · rfl
                      clear hcv32
                      refine hK.out _ _ trivial (fun hHeld => ?_)
                      clear hK K
                      refine norm_ (a' := ?_) ?_ ?_
                      rotate_left
                      · show Act.put _ (some 45) _ = _
                        simp only [Act.put, List.setIfInBounds_toArray, List.set_cons_zero, List.set_cons_succ, i64_w, i32_w]
                        rfl
                      refine pure_ (i := 7) (N := some 49) (v := ?_) (a' := ?_) #[true, true, true, true, true, true, true, true, true, false] rfl rfl (any_of HT_.out (by kernel_rfl)) (fun _ _ _ h => h) (Or.inl ⟨by rfl, ?_⟩) ?_ ?_
                      rotate_left
                      · intro w'
                        go_simp
                        with_reducible rfl
                      rotate_left
                      · simp only [Act.put, List.setIfInBounds_toArray, List.set_cons_zero, List.set_cons_succ, i64_w, i32_w]
                        rfl
                      refine pure_ (i := 9) (N := some 7) (v := ?_) (a' := ?_) #[true, true, true, true, true, true, true, true, true, true] rfl rfl (any_of HT_.out (by kernel_rfl)) (fun _ _ _ h => h) (Or.inl ⟨by rfl, ?_⟩) ?_ ?_
                      rotate_left
                      · intro w'
                        go_simp
                        with_reducible rfl
                      rotate_left
                      · simp only [Act.put, List.setIfInBounds_toArray, List.set_cons_zero, List.set_cons_succ, i64_w, i32_w]
                        rfl
                      refine done_ (done_of HT_.out (by kernel_rfl)) ?_
                      try go_wp2
                      go_ret2
                      exact ⟨by first | rfl | (simp [errW_none, errW_some] <;> rfl) | (simp only [← hji25]; first | rfl | (simp [errW_none, errW_some] <;> rfl)) | (simp [*, errW_none, errW_some] <;> rfl), by repeat (first | (with_reducible first | exact HB.out | apply below_alloc | apply pw_below_drewN | apply below_drew1) | exact HB.out)⟩
                    · rw [if_neg c28] at H
                      exact absurd H (by simp)
                  · rw [if_neg c27] at H
                    exact absurd H (by simp)
                · rw [if_neg c26] at H
                  exact absurd H (by simp)
              · rw [if_neg c24] at H
                have c24b0 : ((Int.tmod a0 8) == 5) = false := beq_eq_false_iff_ne.mpr c24
                have c24b1 : ((Int.tmod a0 8) != 5) = true := bne_iff_ne.mpr c24
                by_cases c33 : (Int.tmod a0 8) = 6
                · rw [if_pos c33] at H
                  have c33b0 : ((Int.tmod a0 8) == 6) = true := beq_iff_eq.mpr c33
                  have c33b1 : ((Int.tmod a0 8) != 6) = false := bne_eq_false_iff_eq.mpr c33
                  clear c33
                  by_cases c34 : a2.size + 16 ≤ 9223372036854775807
                  · rw [if_pos c34] at H
                    have c34b0 := eq_true c34
                    have c34b1 : decide (a2.size + 16 ≤ 9223372036854775807) = true := decide_eq_true c34
                    try have c34b2 : (9223372036854775807 < a2.size + 16) = False := eq_false (Nat.not_lt.2 c34)
                    by_cases c35 : 0 ≤ 16
                    · rw [if_pos c35] at H
                      have c35b0 := eq_true c35
                      have c35b1 : decide (0 ≤ 16) = true := decide_eq_true c35
                      clear c35
                      by_cases c36 : 16 ≤ ((a2 ++ (⟨#[48, 49, 50, 51, 52, 53, 54, 55, 56, 57, 97, 98, 99, 100, 101, 102]⟩ : ByteArray)).size : Int)
                      · rw [if_pos c36] at H
                        have c36b0 := eq_true c36
                        have c36b1 : decide (16 ≤ ((a2 ++ (⟨#[48, 49, 50, 51, 52, 53, 54, 55, 56, 57, 97, 98, 99, 100, 101, 102]⟩ : ByteArray)).size : Int)) = true := decide_eq_true c36
                        have xc36 : ((16 : Int) ≤ (a2.size : Int) + 16) = True := eq_true (by omega)
                        simp only [Option.some.injEq, Prod.mk.injEq] at H
                        obtain ⟨rfl, rfl⟩ := H
                        try go_wp2
                        have n0_ := Aside0.mk (below_drew1 HB.out)
                        clear HB
                        have HB := n0_
                        clear n0_
                        refine start_ (n := 5) (S := fun w' => True) (ds := []) #[false, false, false, false, false] (by kernel_rfl) rfl rfl trivial (fun hHeld => ?_)
                        generalize wc.drew = w37 at HB hHeld ⊢
                        refine pure_ (i := 0) (N := some 52) (v := ?_) (a' := ?_) #[true, false, false, false, false] rfl rfl (by kernel_rfl) (fun _ _ _ h => h) (Or.inl ⟨by rfl, ?_⟩) ?_ ?_
                        rotate_left
                        · intro w'
                          go_simp
                          with_reducible rfl
                        rotate_left
                        · simp only [Act.put, List.setIfInBounds_toArray, List.set_cons_zero, List.set_cons_succ, i64_w, i32_w]
                          rfl
                        refine pure_ (i := 1) (N := some 53) (v := ?_) (a' := ?_) #[true, true, false, false, false] rfl rfl (by kernel_rfl) (fun _ _ _ h => h) (Or.inl ⟨by rfl, ?_⟩) ?_ ?_
                        rotate_left
                        · intro w'
                          go_simp
                          with_reducible rfl
                        rotate_left
                        · simp only [Act.put, List.setIfInBounds_toArray, List.set_cons_zero, List.set_cons_succ, i64_w, i32_w]
                          rfl
                        refine pure_ (i := 2) (N := some 54) (v := ?_) (a' := ?_) #[true, true, true, false, false] rfl rfl (by kernel_rfl) (fun _ _ _ h => h) (Or.inl ⟨by rfl, ?_⟩) ?_ ?_
                        rotate_left
                        · intro w'
                          go_simp
                          with_reducible rfl
                        rotate_left
                        · simp only [Act.put, List.setIfInBounds_toArray, List.set_cons_zero, List.set_cons_succ, i64_w, i32_w]
                          rfl
                        refine pure_ (i := 3) (N := some 6) (v := ?_) (a' := ?_) #[true, true, true, true, false] rfl rfl (by kernel_rfl) (fun _ _ _ h => h) (Or.inl ⟨by rfl, ?_⟩) ?_ ?_
                        rotate_left
                        · intro w'
                          go_simp
                          with_reducible rfl
                        rotate_left
                        · simp only [Act.put, List.setIfInBounds_toArray, List.set_cons_zero, List.set_cons_succ, i64_w, i32_w]
                          rfl
                        refine pure_ (i := 4) (N := some 7) (v := ?_) (a' := ?_) #[true, true, true, true, true] rfl rfl (by kernel_rfl) (fun _ _ _ h => h) (Or.inl ⟨by rfl, ?_⟩) ?_ ?_
                        rotate_left
                        · intro w'
                          go_simp
                          with_reducible rfl
                        rotate_left
                        · simp only [Act.put, List.setIfInBounds_toArray, List.set_cons_zero, List.set_cons_succ, i64_w, i32_w]
                          rfl
                        refine done_ (by kernel_rfl) ?_
                        try go_wp2
                        go_ret2
                        exact ⟨by first | rfl | (simp [errW_none, errW_some] <;> rfl) | (simp [*, errW_none, errW_some] <;> rfl), by repeat (first | (with_reducible first | exact HB.out | apply below_alloc | apply pw_below_drewN | apply below_drew1) | exact HB.out)⟩
                      · rw [if_neg c36] at H
                        exact absurd H (by simp)
                    · rw [if_neg c35] at H
                      exact absurd H (by simp)
                  · rw [if_neg c34] at H
                    exact absurd H (by simp)
                · rw [if_neg c33] at H
                  have c33b0 : ((Int.tmod a0 8) == 6) = false := beq_eq_false_iff_ne.mpr c33
                  have c33b1 : ((Int.tmod a0 8) != 6) = true := bne_iff_ne.mpr c33
                  obtain ⟨ji38, hji38⟩ : ∃ j_ : Int, (mn (a2.size : Int) 512) = j_ := ⟨_, rfl⟩
                  replace H : (if 0 ≤ (ji38) then (if (ji38) ≤ (a2.size : Int) then (some (99, a2.extract 0 ((ji38) : Int).toNat)) else (none)) else (none)) = some (r1, r2) := by first | (rw [hji38] at H; exact H) | (simp only [hji38] at H ⊢; exact H)
                  have hji38_ : (if 512 < (a2.size : Int) then 512 else (a2.size : Int)) = ji38 := hji38
                  by_cases c39 : 0 ≤ (ji38)
                  · rw [if_pos c39] at H
                    have c39b0 := eq_true c39
                    have c39b1 : decide (0 ≤ (ji38)) = true := decide_eq_true c39
                    clear c39
                    by_cases c40 : (ji38) ≤ (a2.size : Int)
                    · rw [if_pos c40] at H
                      have c40b0 := eq_true c40
                      have c40b1 : decide ((ji38) ≤ (a2.size : Int)) = true := decide_eq_true c40
                      clear c40
                      simp only [Option.some.injEq, Prod.mk.injEq] at H
                      obtain ⟨rfl, rfl⟩ := H
                      try go_wp2
                      have n0_ := Aside0.mk (below_drew1 HB.out)
                      clear HB
                      have HB := n0_
                      clear n0_
                      refine start_ (n := 7) (S := fun w' => True) (ds := []) #[false, false, false, false, false, false, false] (by kernel_rfl) rfl rfl trivial (fun hHeld => ?_)
                      generalize wc.drew = w41 at HB hHeld ⊢
                      refine pure_ (i := 0) (N := some 55) (v := ?_) (a' := ?_) #[true, false, false, false, false, false, false] rfl rfl (by kernel_rfl) (fun _ _ _ h => h) (Or.inl ⟨by rfl, ?_⟩) ?_ ?_
                      rotate_left
                      · intro w'
                        go_simp
                        with_reducible rfl
                      rotate_left
                      · simp only [Act.put, List.setIfInBounds_toArray, List.set_cons_zero, List.set_cons_succ, i64_w, i32_w]
                        rfl
                      refine pure_ (i := 1) (N := some 56) (v := ?_) (a' := ?_) #[true, true, false, false, false, false, false] rfl rfl (by kernel_rfl) (fun _ _ _ h => h) (Or.inl ⟨by rfl, ?_⟩) ?_ ?_
                      rotate_left
                      · intro w'
                        go_simp
                        with_reducible rfl
                      rotate_left
                      · simp only [Act.put, List.setIfInBounds_toArray, List.set_cons_zero, List.set_cons_succ, i64_w, i32_w]
                        rfl
                      refine pure_ (i := 2) (N := some 57) (v := ?_) (a' := ?_) #[true, true, true, false, false, false, false] rfl rfl (by kernel_rfl) (fun _ _ _ h => h) (Or.inl ⟨by rfl, ?_⟩) ?_ ?_
                      rotate_left
                      · intro w'
                        go_simp
                        with_reducible rfl
                      rotate_left
                      · simp only [Act.put, List.setIfInBounds_toArray, List.set_cons_zero, List.set_cons_succ, i64_w, i32_w]
                        rfl
                      refine pure_ (i := 3) (N := some 58) (v := ?_) (a' := ?_) #[true, true, true, true, false, false, false] rfl rfl (by kernel_rfl) (fun _ _ _ h => h) (Or.inl ⟨by rfl, ?_⟩) ?_ ?_
                      rotate_left
                      · intro w'
                        go_simp
                        with_reducible rfl
                      rotate_left
                      · simp only [Act.put, List.setIfInBounds_toArray, List.set_cons_zero, List.set_cons_succ, i64_w, i32_w]
                        rfl
                      refine pure_ (i := 4) (N := some 59) (v := ?_) (a' := ?_) #[true, true, true, true, true, false, false] rfl rfl (by kernel_rfl) (fun _ _ _ h => h) (Or.inl ⟨by rfl, ?_⟩) ?_ ?_
                      rotate_left
                      · intro w'
                        go_simp
                        with_reducible rfl
                      rotate_left
                      · simp only [Act.put, List.setIfInBounds_toArray, List.set_cons_zero, List.set_cons_succ, i64_w, i32_w]
                        rfl
                      refine pure_ (i := 5) (N := some 6) (v := ?_) (a' := ?_) #[true, true, true, true, true, true, false] rfl rfl (by kernel_rfl) (fun _ _ _ h => h) (Or.inl ⟨by rfl, ?_⟩) ?_ ?_
                      rotate_left
                      · intro w'
                        go_simp
                        with_reducible rfl
                      rotate_left
                      · simp only [Act.put, List.setIfInBounds_toArray, List.set_cons_zero, List.set_cons_succ, i64_w, i32_w]
                        rfl
                      refine pure_ (i := 6) (N := some 7) (v := ?_) (a' := ?_) #[true, true, true, true, true, true, true] rfl rfl (by kernel_rfl) (fun _ _ _ h => h) (Or.inl ⟨by rfl, ?_⟩) ?_ ?_
                      rotate_left
                      · intro w'
                        go_simp
                        with_reducible rfl
                      rotate_left
                      · simp only [Act.put, List.setIfInBounds_toArray, List.set_cons_zero, List.set_cons_succ, i64_w, i32_w]
                        rfl
                      refine done_ (by kernel_rfl) ?_
                      try go_wp2
                      go_ret2
                      exact ⟨by first | rfl | (simp [errW_none, errW_some] <;> rfl) | (simp only [← hji38]; first | rfl | (simp [errW_none, errW_some] <;> rfl)) | (simp [*, errW_none, errW_some] <;> rfl), by repeat (first | (with_reducible first | exact HB.out | apply below_alloc | apply pw_below_drewN | apply below_drew1) | exact HB.out)⟩
                    · rw [if_neg c40] at H
                      exact absurd H (by simp)
                  · rw [if_neg c39] at H
                    exact absurd H (by simp)

end Go.Proofs.Ytdkjlbbbdjkhbaa.PAll
