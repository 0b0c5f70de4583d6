/- Part 3 of 4 of a proof, several texts one behind the other (PAllx32, PAllx33, PAllx34, PAllx38, PAllx39): written by programs of these sessions and by hand. -/
import Derived.Test.YtdkjlbbbdjkhbaaRo2
set_option linter.unusedVariables false
set_option linter.unusedSimpArgs false
namespace Go.Proofs.Ytdkjlbbbdjkhbaa.PAll
open Go.RowKit Go.Proofs.YtdkjlbbbdjkhbaaW.PrintWords Go.Proofs.YtdkjlbbbdjkhbaaW.PrintLast Go.Proofs.YtdkjlbbbdjkhbaaW.PrintMore
attribute [local go_sem] max2_int min2_int max_two min_two max_three min_three max_four min_four   -- for this text's walks alone
open Go.Proofs.Ytdkjlbbbdjkhbaa.Hand

/-! ### bolterlaw04_Data: function 49 -/
def bolterlaw04_Data.j0 : Nat → ByteArray → ByteArray → Int → Bool → Option (Int × ByteArray)
 | 0, _, _, _, _ => none
 | k + 1, x2, x8, x13, x14 => if x14 = true then (if x2.size + 4 ≤ 9223372036854775807 then (if 0 ≤ 4 then (if 4 ≤ ((x2 ++ (⟨#[1, 2, 3, 4]⟩ : ByteArray)).size : Int) then (some (1, (x2 ++ (⟨#[1, 2, 3, 4]⟩ : ByteArray)).extract 0 4)) else (none)) else (none)) else (none)) else (if x13 = 2 then (some (2, x8)) else (if x13 = 3 then (some (5, x8)) else (if x13 = 4 then (if x8.size + 1 ≤ 9223372036854775807 then (if (x8 ++ (⟨#[0]⟩ : ByteArray)).size + x8.size ≤ 9223372036854775807 then (if ((x8 ++ (⟨#[0]⟩ : ByteArray)) ++ x8).size + 1 ≤ 9223372036854775807 then (if x2.size + 20 ≤ 9223372036854775807 then (if 0 ≤ 20 then (if 20 ≤ ((x2 ++ (⟨#[48, 49, 50, 51, 52, 53, 54, 55, 56, 57, 48, 49, 50, 51, 52, 53, 54, 55, 56, 57]⟩ : ByteArray)).size : Int) then (if (((x8 ++ (⟨#[0]⟩ : ByteArray)) ++ x8) ++ (⟨#[0]⟩ : ByteArray)).size + ((x2 ++ (⟨#[48, 49, 50, 51, 52, 53, 54, 55, 56, 57, 48, 49, 50, 51, 52, 53, 54, 55, 56, 57]⟩ : ByteArray)).extract 0 20).size ≤ 9223372036854775807 then (some (6, (((x8 ++ (⟨#[0]⟩ : ByteArray)) ++ x8) ++ (⟨#[0]⟩ : ByteArray)) ++ ((x2 ++ (⟨#[48, 49, 50, 51, 52, 53, 54, 55, 56, 57, 48, 49, 50, 51, 52, 53, 54, 55, 56, 57]⟩ : ByteArray)).extract 0 20))) else (none)) else (none)) else (none)) else (none)) else (none)) else (none)) else (none)) else (if x13 = 5 then ((some (([mn (x2.size : Int) 255] : List Int) : List Int)).bind fun y438 => (if 0 ≤ (mn (x2.size : Int) 255) then (if (mn (x2.size : Int) 255) ≤ (x2.size : Int) then (if (strOfNums y438).size + (x2.extract 0 ((mn (x2.size : Int) 255) : Int).toNat).size ≤ 9223372036854775807 then (some (16, (strOfNums y438) ++ (x2.extract 0 ((mn (x2.size : Int) 255) : Int).toNat))) else (none)) else (none)) else (none))) else (if x13 = 6 then (if x2.size + 16 ≤ 9223372036854775807 then (if 0 ≤ 16 then (if 16 ≤ ((x2 ++ (⟨#[48, 49, 50, 51, 52, 53, 54, 55, 56, 57, 97, 98, 99, 100, 101, 102]⟩ : ByteArray)).size : Int) then (some (28, (x2 ++ (⟨#[48, 49, 50, 51, 52, 53, 54, 55, 56, 57, 97, 98, 99, 100, 101, 102]⟩ : ByteArray)).extract 0 16)) else (none)) else (none)) else (none)) else (if 0 ≤ (mn (x2.size : Int) 512) then (if (mn (x2.size : Int) 512) ≤ (x2.size : Int) then (some (99, x2.extract 0 ((mn (x2.size : Int) 512) : Int).toNat)) else (none)) else (none)))))))
def bolterlaw04_Data.f (k : Nat) (a0 : Int) (l1 : List Int) (a2 : ByteArray) : Option (Int × ByteArray) := (bolterlaw02_Name.f k l1).bind fun t437 => (if (Int.tmod a0 8) = 0 then (bolterlaw04_Data.j0 k a2 t437 (Int.tmod a0 8) ((Int.tmod a0 8) == 0)) else (bolterlaw04_Data.j0 k a2 t437 (Int.tmod a0 8) ((Int.tmod a0 8) == 1)))
theorem bolterlaw04_Data.mono_l : ∀ k, (∀ y0 y1 y2 y3, LeO (bolterlaw04_Data.j0 k y0 y1 y2 y3) (bolterlaw04_Data.j0 (k + 1) y0 y1 y2 y3))
 | 0 => fun _ _ _ _ r h => by simp [bolterlaw04_Data.j0] at h
 | k + 1 => by
  have ih0 := bolterlaw04_Data.mono_l k
  ·intro y0 y1 y2 y3
   unfold bolterlaw04_Data.j0
   repeat' first
   | (with_reducible exact ih0 _ _ _ _)
   | (with_reducible exact bolterlaw02_Name.mono _ _)
   | (with_reducible exact LeO.refl _)
   | (with_reducible exact LeO.none _)
   | (with_reducible refine LeO.ite ?_ ?_)
   | (with_reducible refine LeO.bind ?_ (fun _ => ?_))
   | exact ih0 _ _ _ _
   | exact bolterlaw02_Name.mono _ _
   | exact LeO.none _
   | refine LeO.ite ?_ ?_
   | refine LeO.bind ?_ (fun _ => ?_)
theorem bolterlaw04_Data.mono : ∀ a0 a1 a2 k, LeO (bolterlaw04_Data.f k a0 a1 a2) (bolterlaw04_Data.f (k + 1) a0 a1 a2) := by
 intro a0 a1 a2 k
 have ih0 := bolterlaw04_Data.mono_l k
 unfold bolterlaw04_Data.f
 repeat' first
   | (with_reducible exact ih0 _ _ _ _)
   | (with_reducible exact bolterlaw02_Name.mono _ _)
   | (with_reducible exact LeO.refl _)
   | (with_reducible exact LeO.none _)
   | (with_reducible refine LeO.ite ?_ ?_)
   | (with_reducible refine LeO.bind ?_ (fun _ => ?_))
   | exact ih0 _ _ _ _
   | exact bolterlaw02_Name.mono _ _
   | exact LeO.none _
   | refine LeO.ite ?_ ?_
   | refine LeO.bind ?_ (fun _ => ?_)
def bolterlaw04_Data.T11 : Bool × List (List Nat × List Nat) := (true, [([], []), ([0], [0]), ([], []), ([1, 2], [1, 2]), ([3], [3]), ([], []), ([5], [5]), ([6], [6]), ([4, 7], [4, 7]), ([], []), ([8, 9, 0, 1, 2, 3, 4, 5, 6, 7, 8, 9], [8])])
def bolterlaw04_Data.B11 : List Nat := [0, 1, 0, 7, 15, 0, 32, 96, 255, 0, 1023]
theorem bolterlaw04_Data.tab11 : rtab .any (opsOf Try.f49 11) = bolterlaw04_Data.T11 := by kernel_rfl
theorem bolterlaw04_Data.bits11 : waitsOk bolterlaw04_Data.T11.2 bolterlaw04_Data.B11 = true := by kernel_rfl
def bolterlaw04_Data.T14 : Bool × List (List Nat × List Nat) := (true, [([], []), ([0], [0]), ([1], [1]), ([2], [2]), ([], []), ([], []), ([4, 5], [4, 5]), ([3, 6], [3, 6]), ([], []), ([7, 8, 0, 1, 2, 3, 4, 5, 6, 7, 8], [7])])
def bolterlaw04_Data.B14 : List Nat := [0, 1, 3, 7, 0, 0, 48, 127, 0, 511]
theorem bolterlaw04_Data.tab14 : rtab .any (opsOf Try.f49 14) = bolterlaw04_Data.T14 := by kernel_rfl
theorem bolterlaw04_Data.bits14 : waitsOk bolterlaw04_Data.T14.2 bolterlaw04_Data.B14 = true := by kernel_rfl
set_option maxHeartbeats 8000000 in
set_option maxRecDepth 100000 in
theorem bolterlaw04_Data.calls (k : Nat) (a0 : Int) (A1 : Option Addr) (c1 : Nat) (l1 : List Int) (a2 : ByteArray) (r1 : Int) (r2 : ByteArray) (w : World) (hr1 : Kd.C (Kd.int .u8) w A1 l1.length l1) (hc1 : l1.length ≤ c1) (h : bolterlaw04_Data.f k a0 l1 a2 = some (r1, r2)) :
  Calls Try.prog 49 #[.int .u16 a0, .slice A1 l1.length c1, .string a2] w fun e w' => e = .returned (.tuple #[.int .u16 r1, .string r2]) ∧ Below w.heap.size w w' := by
 have HR1 := Aside0.mk hr1
 have HC1 := Aside0.mk hc1
 clear hr1 hc1
 have HB := Aside0.mk (Below.refl w.heap.size w)
 have H : ((bolterlaw02_Name.f k l1).bind fun t437 => (if (Int.tmod a0 8) = 0 then (bolterlaw04_Data.j0 k a2 t437 (Int.tmod a0 8) ((Int.tmod a0 8) == 0)) else (bolterlaw04_Data.j0 k a2 t437 (Int.tmod a0 8) ((Int.tmod a0 8) == 1)))) = some (r1, r2) := h
 clear h
 replace H := Option.bind_eq_some_iff.mp H
 obtain ⟨t437, A40, H⟩ := H
 replace H : (if (Int.tmod a0 8) = 0 then (bolterlaw04_Data.j0 k a2 t437 (Int.tmod a0 8) ((Int.tmod a0 8) == 0)) else (bolterlaw04_Data.j0 k a2 t437 (Int.tmod a0 8) ((Int.tmod a0 8) == 1))) = some (r1, r2) := H
 have A4 := Aside0.mk A40
 clear A40
 have HC5 := Aside0.mk H
 clear H
 go_enter Try.func49, Try.ntmps49
 go_upto_if 14 with (first | ((with_reducible refine gate_callee (f := 16) rfl ?_); refine goesL_ (some 11) rfl rfl Try.func16 (by kernel_rfl) rfl #[.slice A1 l1.length c1] rfl (by (try simp only [List.map_toArray, List.map_cons, List.map_nil]); first | done | rfl | (simp only [List.length_drop, List.length_take]; rfl)) ?_; (with_reducible refine (bolterlaw02_Name.calls k _ _ l1 t437 _ ?side1 ?side2 A4.out).mono ?_); (case side1 => repeat (first | exact HR1.out | (with_reducible refine Kd.C_alloc ?_ _) | (with_reducible refine Kd.C_drewN ?_ _) | (with_reducible refine Kd.C_drew ?_))); (case side2 => exact HC1.out); rintro e w6 ⟨rfl, hb⟩; refine ⟨_, rfl, ?_⟩; have n0_ := Aside0.mk (below_step (by repeat (first | (with_reducible first | exact HB.out | apply below_alloc | apply pw_below_drewN | apply below_drew1) | exact HB.out)) hb); clear HB; have HB := n0_; clear n0_; (try clear hb); (try clear hb2); (try clear hk); (try clear hi)))
 (try simp only [Act.put, List.setIfInBounds_toArray, List.set_cons_zero, List.set_cons_succ])
 go_cut [14] (fun v14 wc => ∃ (kq : Nat) (x14_4 : Bool), v14 = .bool x14_4 ∧ Aside0 (bolterlaw04_Data.j0 kq a2 t437 (Int.tmod a0 8) x14_4 = some (r1, r2)) ∧ Aside0 (kq ≤ k) ∧ Aside0 (Below w.heap.size w wc))
 case first =>
  have H := HC5.out
  clear HC5
  by_cases c7 : (Int.tmod a0 8) = 0
  ·rw [if_pos c7] at H
   have c7b0 : ((Int.tmod a0 8) == 0) = true := beq_iff_eq.mpr c7
   have c7b1 : ((Int.tmod a0 8) != 0) = false := bne_eq_false_iff_eq.mpr c7
   clear c7
   (first | rw [c7b0] | (simp only [i64_w, i32_w]; rw [c7b0]) | skip)
   have H' := Aside0.mk H
   clear H
   go_wp2
   go_meet
   case rel => exact ⟨_, (((Int.tmod a0 8) == 0)), (by first | rfl | (simp; done) | (simp [*]; done)), H', ⟨by first | omega | exact Nat.le_refl _⟩, ⟨by repeat (first | (with_reducible first | exact HB.out | apply below_alloc | apply pw_below_drewN | apply below_drew1) | exact HB.out)⟩⟩
  ·rw [if_neg c7] at H
   have c7b0 : ((Int.tmod a0 8) == 0) = false := beq_eq_false_iff_ne.mpr c7
   have c7b1 : ((Int.tmod a0 8) != 0) = true := bne_iff_ne.mpr c7
   (first | rw [c7b0] | (simp only [i64_w, i32_w]; rw [c7b0]) | skip)
   have H' := Aside0.mk H
   clear H
   go_wp2
   go_meet
   case rel => exact ⟨_, (((Int.tmod a0 8) == 1)), (by first | rfl | (simp; done) | (simp [*]; done)), H', ⟨by first | omega | exact Nat.le_refl _⟩, ⟨by repeat (first | (with_reducible first | exact HB.out | apply below_alloc | apply pw_below_drewN | apply below_drew1) | exact HB.out)⟩⟩
 case rest =>
  clear HC5
  try clear c1
  try clear p2
  try clear c4
  try clear c7
  try clear c7b0
  try clear c7b1
  obtain ⟨kq, x14_4, rfl, HA, HJ4, HB⟩ := hcut
  cases kq with
  | zero => exact absurd HA.out (by simp [bolterlaw04_Data.j0])
  | succ kj4 =>
   have H := HA.out
   clear HA
   simp only [bolterlaw04_Data.j0] at H
   by_cases c8 : x14_4 = true
   ·subst c8
    have H1 : (if a2.size + 4 ≤ 9223372036854775807 then (if 0 ≤ 4 then (if 4 ≤ ((a2 ++ (⟨#[1, 2, 3, 4]⟩ : ByteArray)).size : Int) then (some (1, (a2 ++ (⟨#[1, 2, 3, 4]⟩ : ByteArray)).extract 0 4)) else (none)) else (none)) else (none)) = some (r1, r2) := by rw [if_pos rfl] at H; exact H
    clear H
    have H := H1
    clear H1
    by_cases c9 : a2.size + 4 ≤ 9223372036854775807
    ·rw [if_pos c9] at H
     have c9b0 := eq_true c9
     have c9b1 : decide (a2.size + 4 ≤ 9223372036854775807) = true := decide_eq_true c9
     try have c9b2 : (9223372036854775807 < a2.size + 4) = False := eq_false (Nat.not_lt.2 c9)
     by_cases c10 : 0 ≤ 4
     ·rw [if_pos c10] at H
      have c10b0 := eq_true c10
      have c10b1 : decide (0 ≤ 4) = true := decide_eq_true c10
      clear c10
      by_cases c11 : 4 ≤ ((a2 ++ (⟨#[1, 2, 3, 4]⟩ : ByteArray)).size : Int)
      ·rw [if_pos c11] at H
       have c11b0 := eq_true c11
       have c11b1 : decide (4 ≤ ((a2 ++ (⟨#[1, 2, 3, 4]⟩ : ByteArray)).size : Int)) = true := decide_eq_true c11
       have xc11 : ((4 : Int) ≤ (a2.size : Int) + 4) = True := eq_true (by omega)
       simp only [Option.some.injEq, Prod.mk.injEq] at H
       obtain ⟨rfl, rfl⟩ := H
       try go_wp2
       have n0_ := Aside0.mk (below_drew1 HB.out)
       clear HB
       have HB := n0_
       clear n0_
       refine start_ (n := 5) (S := fun w' => True) (ds := []) #[false, false, false, false, false] (by kernel_rfl) rfl rfl trivial (fun hHeld => ?_)
       generalize wc.drew = w12 at HB hHeld ⊢
       refine pure_ (i := 0) (N := some 17) (v := ?_) (a' := ?_) #[true, false, false, false, false] rfl rfl (by kernel_rfl) (fun _ _ _ h => h) (Or.inl ⟨by rfl, ?_⟩) ?_ ?_
       rotate_left
       ·intro w'
        go_simp
        with_reducible rfl
       rotate_left
       ·simp only [Act.put, List.setIfInBounds_toArray, List.set_cons_zero, List.set_cons_succ, i64_w, i32_w]
        rfl
       refine pure_ (i := 1) (N := some 18) (v := ?_) (a' := ?_) #[true, true, false, false, false] rfl rfl (by kernel_rfl) (fun _ _ _ h => h) (Or.inl ⟨by rfl, ?_⟩) ?_ ?_
       rotate_left
       ·intro w'
        go_simp
        with_reducible rfl
       rotate_left
       ·simp only [Act.put, List.setIfInBounds_toArray, List.set_cons_zero, List.set_cons_succ, i64_w, i32_w]
        rfl
       refine pure_ (i := 2) (N := some 19) (v := ?_) (a' := ?_) #[true, true, true, false, false] rfl rfl (by kernel_rfl) (fun _ _ _ h => h) (Or.inl ⟨by rfl, ?_⟩) ?_ ?_
       rotate_left
       ·intro w'
        go_simp
        with_reducible rfl
       rotate_left
       ·simp only [Act.put, List.setIfInBounds_toArray, List.set_cons_zero, List.set_cons_succ, i64_w, i32_w]
        rfl
       refine pure_ (i := 3) (N := some 6) (v := ?_) (a' := ?_) #[true, true, true, true, false] rfl rfl (by kernel_rfl) (fun _ _ _ h => h) (Or.inl ⟨by rfl, ?_⟩) ?_ ?_
       rotate_left
       ·intro w'
        go_simp
        with_reducible rfl
       rotate_left
       ·simp only [Act.put, List.setIfInBounds_toArray, List.set_cons_zero, List.set_cons_succ, i64_w, i32_w]
        rfl
       refine pure_ (i := 4) (N := some 7) (v := ?_) (a' := ?_) #[true, true, true, true, true] rfl rfl (by kernel_rfl) (fun _ _ _ h => h) (Or.inl ⟨by rfl, ?_⟩) ?_ ?_
       rotate_left
       ·intro w'
        go_simp
        with_reducible rfl
       rotate_left
       ·simp only [Act.put, List.setIfInBounds_toArray, List.set_cons_zero, List.set_cons_succ, i64_w, i32_w]
        rfl
       refine done_ (by kernel_rfl) ?_
       try go_wp2
       go_ret2
       exact ⟨by first | rfl | (simp [errW_none, errW_some] <;> rfl) | (simp [*, errW_none, errW_some] <;> rfl), by repeat (first | (with_reducible first | exact HB.out | apply below_alloc | apply pw_below_drewN | apply below_drew1) | exact HB.out)⟩
      ·rw [if_neg c11] at H
       exact absurd H (by simp)
     ·rw [if_neg c10] at H
      exact absurd H (by simp)
    ·rw [if_neg c9] at H
     exact absurd H (by simp)
   ·replace c8 := Bool.eq_false_iff.mpr c8
    subst c8
    have H1 : (if (Int.tmod a0 8) = 2 then (some (2, t437)) else (if (Int.tmod a0 8) = 3 then (some (5, t437)) else (if (Int.tmod a0 8) = 4 then (if t437.size + 1 ≤ 9223372036854775807 then (if (t437 ++ (⟨#[0]⟩ : ByteArray)).size + t437.size ≤ 9223372036854775807 then (if ((t437 ++ (⟨#[0]⟩ : ByteArray)) ++ t437).size + 1 ≤ 9223372036854775807 then (if a2.size + 20 ≤ 9223372036854775807 then (if 0 ≤ 20 then (if 20 ≤ ((a2 ++ (⟨#[48, 49, 50, 51, 52, 53, 54, 55, 56, 57, 48, 49, 50, 51, 52, 53, 54, 55, 56, 57]⟩ : ByteArray)).size : Int) then (if (((t437 ++ (⟨#[0]⟩ : ByteArray)) ++ t437) ++ (⟨#[0]⟩ : ByteArray)).size + ((a2 ++ (⟨#[48, 49, 50, 51, 52, 53, 54, 55, 56, 57, 48, 49, 50, 51, 52, 53, 54, 55, 56, 57]⟩ : ByteArray)).extract 0 20).size ≤ 9223372036854775807 then (some (6, (((t437 ++ (⟨#[0]⟩ : ByteArray)) ++ t437) ++ (⟨#[0]⟩ : ByteArray)) ++ ((a2 ++ (⟨#[48, 49, 50, 51, 52, 53, 54, 55, 56, 57, 48, 49, 50, 51, 52, 53, 54, 55, 56, 57]⟩ : ByteArray)).extract 0 20))) else (none)) else (none)) else (none)) else (none)) else (none)) else (none)) else (none)) else (if (Int.tmod a0 8) = 5 then ((some (([mn (a2.size : Int) 255] : List Int) : List Int)).bind fun y438 => (if 0 ≤ (mn (a2.size : Int) 255) then (if (mn (a2.size : Int) 255) ≤ (a2.size : Int) then (if (strOfNums y438).size + (a2.extract 0 ((mn (a2.size : Int) 255) : Int).toNat).size ≤ 9223372036854775807 then (some (16, (strOfNums y438) ++ (a2.extract 0 ((mn (a2.size : Int) 255) : Int).toNat))) else (none)) else (none)) else (none))) else (if (Int.tmod a0 8) = 6 then (if a2.size + 16 ≤ 9223372036854775807 then (if 0 ≤ 16 then (if 16 ≤ ((a2 ++ (⟨#[48, 49, 50, 51, 52, 53, 54, 55, 56, 57, 97, 98, 99, 100, 101, 102]⟩ : ByteArray)).size : Int) then (some (28, (a2 ++ (⟨#[48, 49, 50, 51, 52, 53, 54, 55, 56, 57, 97, 98, 99, 100, 101, 102]⟩ : ByteArray)).extract 0 16)) else (none)) else (none)) else (none)) else (if 0 ≤ (mn (a2.size : Int) 512) then (if (mn (a2.size : Int) 512) ≤ (a2.size : Int) then (some (99, a2.extract 0 ((mn (a2.size : Int) 512) : Int).toNat)) else (none)) else (none))))))) = some (r1, r2) := by rw [if_neg (show ¬ (false = true) by decide)] at H; exact H
    clear H
    have H := H1
    clear H1
    by_cases c13 : (Int.tmod a0 8) = 2
    ·rw [if_pos c13] at H
     have c13b0 : ((Int.tmod a0 8) == 2) = true := beq_iff_eq.mpr c13
     have c13b1 : ((Int.tmod a0 8) != 2) = false := bne_eq_false_iff_eq.mpr c13
     clear c13
     simp only [Option.some.injEq, Prod.mk.injEq] at H
     obtain ⟨rfl, rfl⟩ := H
     go_wp2
     go_ret2
     exact ⟨by first | rfl | (simp [errW_none, errW_some] <;> rfl) | (simp [*, errW_none, errW_some] <;> rfl), by repeat (first | (with_reducible first | exact HB.out | apply below_alloc | apply pw_below_drewN | apply below_drew1) | exact HB.out)⟩
    ·rw [if_neg c13] at H
     have c13b0 : ((Int.tmod a0 8) == 2) = false := beq_eq_false_iff_ne.mpr c13
     have c13b1 : ((Int.tmod a0 8) != 2) = true := bne_iff_ne.mpr c13
     by_cases c14 : (Int.tmod a0 8) = 3
     ·rw [if_pos c14] at H
      have c14b0 : ((Int.tmod a0 8) == 3) = true := beq_iff_eq.mpr c14
      have c14b1 : ((Int.tmod a0 8) != 3) = false := bne_eq_false_iff_eq.mpr c14
      clear c14
      simp only [Option.some.injEq, Prod.mk.injEq] at H
      obtain ⟨rfl, rfl⟩ := H
      go_wp2
      go_ret2
      exact ⟨by first | rfl | (simp [errW_none, errW_some] <;> rfl) | (simp [*, errW_none, errW_some] <;> rfl), by repeat (first | (with_reducible first | exact HB.out | apply below_alloc | apply pw_below_drewN | apply below_drew1) | exact HB.out)⟩
     ·rw [if_neg c14] at H
      have c14b0 : ((Int.tmod a0 8) == 3) = false := beq_eq_false_iff_ne.mpr c14
      have c14b1 : ((Int.tmod a0 8) != 3) = true := bne_iff_ne.mpr c14
      by_cases c15 : (Int.tmod a0 8) = 4
      ·rw [if_pos c15] at H
       have c15b0 : ((Int.tmod a0 8) == 4) = true := beq_iff_eq.mpr c15
       have c15b1 : ((Int.tmod a0 8) != 4) = false := bne_eq_false_iff_eq.mpr c15
       clear c15
       by_cases c16 : t437.size + 1 ≤ 9223372036854775807
       ·rw [if_pos c16] at H
        have c16b0 := eq_true c16
        have c16b1 : decide (t437.size + 1 ≤ 9223372036854775807) = true := decide_eq_true c16
        try have c16b2 : (9223372036854775807 < t437.size + 1) = False := eq_false (Nat.not_lt.2 c16)
        by_cases c17 : (t437 ++ (⟨#[0]⟩ : ByteArray)).size + t437.size ≤ 9223372036854775807
        ·rw [if_pos c17] at H
         have c17b0 := eq_true c17
         have c17b1 : decide ((t437 ++ (⟨#[0]⟩ : ByteArray)).size + t437.size ≤ 9223372036854775807) = true := decide_eq_true c17
         have ec17 : (t437 ++ (⟨#[0]⟩ : ByteArray)).size = t437.size + 1 := by rw [ByteArray.size_append]; rfl
         have xc17 : (9223372036854775807 < t437.size + 1 + t437.size) = False := eq_false (by have h_ := c17; rw [ec17] at h_; omega)
         try have c17b2 : (9223372036854775807 < (t437 ++ (⟨#[0]⟩ : ByteArray)).size + t437.size) = False := eq_false (Nat.not_lt.2 c17)
         by_cases c18 : ((t437 ++ (⟨#[0]⟩ : ByteArray)) ++ t437).size + 1 ≤ 9223372036854775807
         ·rw [if_pos c18] at H
          have c18b0 := eq_true c18
          have c18b1 : decide (((t437 ++ (⟨#[0]⟩ : ByteArray)) ++ t437).size + 1 ≤ 9223372036854775807) = true := decide_eq_true c18
          have xc18 : (9223372036854775807 < t437.size + 1 + t437.size + 1) = False := eq_false (by have h_ := c18; rw [ByteArray.size_append, ec17] at h_; omega)
          try have c18b2 : (9223372036854775807 < ((t437 ++ (⟨#[0]⟩ : ByteArray)) ++ t437).size + 1) = False := eq_false (Nat.not_lt.2 c18)
          by_cases c19 : a2.size + 20 ≤ 9223372036854775807
          ·rw [if_pos c19] at H
           have c19b0 := eq_true c19
           have c19b1 : decide (a2.size + 20 ≤ 9223372036854775807) = true := decide_eq_true c19
           try have c19b2 : (9223372036854775807 < a2.size + 20) = False := eq_false (Nat.not_lt.2 c19)
           by_cases c20 : 0 ≤ 20
           ·rw [if_pos c20] at H
            have c20b0 := eq_true c20
            have c20b1 : decide (0 ≤ 20) = true := decide_eq_true c20
            clear c20
            by_cases c21 : 20 ≤ ((a2 ++ (⟨#[48, 49, 50, 51, 52, 53, 54, 55, 56, 57, 48, 49, 50, 51, 52, 53, 54, 55, 56, 57]⟩ : ByteArray)).size : Int)
            ·rw [if_pos c21] at H
             have c21b0 := eq_true c21
             have c21b1 : decide (20 ≤ ((a2 ++ (⟨#[48, 49, 50, 51, 52, 53, 54, 55, 56, 57, 48, 49, 50, 51, 52, 53, 54, 55, 56, 57]⟩ : ByteArray)).size : Int)) = true := decide_eq_true c21
             have xc21 : ((20 : Int) ≤ (a2.size : Int) + 20) = True := eq_true (by omega)
             by_cases c22 : (((t437 ++ (⟨#[0]⟩ : ByteArray)) ++ t437) ++ (⟨#[0]⟩ : ByteArray)).size + ((a2 ++ (⟨#[48, 49, 50, 51, 52, 53, 54, 55, 56, 57, 48, 49, 50, 51, 52, 53, 54, 55, 56, 57]⟩ : ByteArray)).extract 0 20).size ≤ 9223372036854775807
             ·rw [if_pos c22] at H
              have c22b0 := eq_true c22
              have c22b1 : decide ((((t437 ++ (⟨#[0]⟩ : ByteArray)) ++ t437) ++ (⟨#[0]⟩ : ByteArray)).size + ((a2 ++ (⟨#[48, 49, 50, 51, 52, 53, 54, 55, 56, 57, 48, 49, 50, 51, 52, 53, 54, 55, 56, 57]⟩ : ByteArray)).extract 0 20).size ≤ 9223372036854775807) = true := decide_eq_true c22
              have yc22 : ((((t437 ++ (⟨#[0]⟩ : ByteArray)) ++ t437) ++ (⟨#[0]⟩ : ByteArray)).size = t437.size + 1 + t437.size + 1) := by rw [ByteArray.size_append, ByteArray.size_append, ec17]; rfl
              have zc22 : ((a2 ++ (⟨#[48, 49, 50, 51, 52, 53, 54, 55, 56, 57, 48, 49, 50, 51, 52, 53, 54, 55, 56, 57]⟩ : ByteArray)).extract 0 20).size = 20 := by rw [ByteArray.size_extract, ByteArray.size_append]; show min 20 (a2.size + 20) - 0 = 20; omega
              have xc22 : (9223372036854775807 < t437.size + 1 + t437.size + 1 + 20) = False := eq_false (by have h_ := c22; rw [yc22, zc22] at h_; omega)
              have vc22 : (9223372036854775807 < t437.size + 1 + t437.size + 1 + min 20 (a2.size + 20)) = False := eq_false (by have h_ := c22; rw [yc22, zc22] at h_; omega)
              try have c22b2 : (9223372036854775807 < (((t437 ++ (⟨#[0]⟩ : ByteArray)) ++ t437) ++ (⟨#[0]⟩ : ByteArray)).size + ((a2 ++ (⟨#[48, 49, 50, 51, 52, 53, 54, 55, 56, 57, 48, 49, 50, 51, 52, 53, 54, 55, 56, 57]⟩ : ByteArray)).extract 0 20).size) = False := eq_false (Nat.not_lt.2 c22)
              simp only [Option.some.injEq, Prod.mk.injEq] at H
              obtain ⟨rfl, rfl⟩ := H
              try go_wp2
              have n0_ := Aside0.mk (below_drew1 HB.out)
              clear HB
              have HB := n0_
              clear n0_
              refine start_ (n := 11) (S := fun w' => True) (ds := []) #[false, false, false, false, false, false, false, false, false, false, false] (by kernel_rfl) rfl rfl trivial (fun hHeld => ?_); refine with_tabW bolterlaw04_Data.tab11 bolterlaw04_Data.bits11 (fun HT_ HW_ => ?_)
              generalize wc.drew = w23 at HB hHeld ⊢
              refine pure_ (i := 0) (N := some 28) (v := ?_) (a' := ?_) #[true, false, false, false, false, false, false, false, false, false, false] rfl rfl (any_of HT_.out (by kernel_rfl)) (fun _ _ _ h => h) (Or.inl ⟨by rfl, ?_⟩) ?_ ?_
              rotate_left
              ·intro w'
               go_simp
               with_reducible rfl
              rotate_left
              ·simp only [Act.put, List.setIfInBounds_toArray, List.set_cons_zero, List.set_cons_succ, i64_w, i32_w]
               rfl
              refine pure_ (i := 1) (N := some 29) (v := ?_) (a' := ?_) #[true, true, false, false, false, false, false, false, false, false, false] rfl rfl (any_of HT_.out (by kernel_rfl)) (fun _ _ _ h => h) (Or.inl ⟨by rfl, ?_⟩) ?_ ?_
              rotate_left
              ·intro w'
               go_simp
               with_reducible rfl
              rotate_left
              ·simp only [Act.put, List.setIfInBounds_toArray, List.set_cons_zero, List.set_cons_succ, i64_w, i32_w]
               rfl
              refine pure_ (i := 2) (N := some 30) (v := ?_) (a' := ?_) #[true, true, true, false, false, false, false, false, false, false, false] rfl rfl (any_of HT_.out (by kernel_rfl)) (fun _ _ _ h => h) (Or.inl ⟨by rfl, ?_⟩) ?_ ?_
              rotate_left
              ·intro w'
               go_simp
               with_reducible rfl
              rotate_left
              ·simp only [Act.put, List.setIfInBounds_toArray, List.set_cons_zero, List.set_cons_succ, i64_w, i32_w]
               rfl
              refine pure_ (i := 3) (N := some 31) (v := ?_) (a' := ?_) #[true, true, true, true, false, false, false, false, false, false, false] rfl rfl (any_of HT_.out (by kernel_rfl)) (fun _ _ _ h => h) (Or.inl ⟨by rfl, ?_⟩) ?_ ?_
              rotate_left
              ·intro w'
               go_simp
               with_reducible rfl
              rotate_left
              ·simp only [Act.put, List.setIfInBounds_toArray, List.set_cons_zero, List.set_cons_succ, i64_w, i32_w]
               rfl
              refine pure_ (i := 4) (N := some 32) (v := ?_) (a' := ?_) #[true, true, true, true, true, false, false, false, false, false, false] rfl rfl (any_of HT_.out (by kernel_rfl)) (fun _ _ _ h => h) (Or.inl ⟨by rfl, ?_⟩) ?_ ?_
              rotate_left
              ·intro w'
               go_simp
               with_reducible rfl
              rotate_left
              ·simp only [Act.put, List.setIfInBounds_toArray, List.set_cons_zero, List.set_cons_succ, i64_w, i32_w]
               rfl
              refine pure_ (i := 5) (N := some 33) (v := ?_) (a' := ?_) #[true, true, true, true, true, true, false, false, false, false, false] rfl rfl (any_of HT_.out (by kernel_rfl)) (fun _ _ _ h => h) (Or.inl ⟨by rfl, ?_⟩) ?_ ?_
              rotate_left
              ·intro w'
               go_simp
               with_reducible rfl
              rotate_left
              ·simp only [Act.put, List.setIfInBounds_toArray, List.set_cons_zero, List.set_cons_succ, i64_w, i32_w]
               rfl
              refine pure_ (i := 6) (N := some 34) (v := ?_) (a' := ?_) #[true, true, true, true, true, true, true, false, false, false, false] rfl rfl (any_of HT_.out (by kernel_rfl)) (fun _ _ _ h => h) (Or.inl ⟨by rfl, ?_⟩) ?_ ?_
              rotate_left
              ·intro w'
               go_simp
               with_reducible rfl
              rotate_left
              ·simp only [Act.put, List.setIfInBounds_toArray, List.set_cons_zero, List.set_cons_succ, i64_w, i32_w]
               rfl
              refine pure_ (i := 7) (N := some 35) (v := ?_) (a' := ?_) #[true, true, true, true, true, true, true, true, false, false, false] rfl rfl (any_of HT_.out (by kernel_rfl)) (fun _ _ _ h => h) (Or.inl ⟨by rfl, ?_⟩) ?_ ?_
              rotate_left
              ·intro w'
               go_simp
               with_reducible rfl
              rotate_left
              ·simp only [Act.put, List.setIfInBounds_toArray, List.set_cons_zero, List.set_cons_succ, i64_w, i32_w]
               rfl
              refine pure_ (i := 8) (N := some 36) (v := ?_) (a' := ?_) #[true, true, true, true, true, true, true, true, true, false, false] rfl rfl (any_of HT_.out (by kernel_rfl)) (fun _ _ _ h => h) (Or.inl ⟨by rfl, ?_⟩) ?_ ?_
              rotate_left
              ·intro w'
               go_simp
               with_reducible rfl
              rotate_left
              ·simp only [Act.put, List.setIfInBounds_toArray, List.set_cons_zero, List.set_cons_succ, i64_w, i32_w]
               rfl
              refine pure_ (i := 9) (N := some 6) (v := ?_) (a' := ?_) #[true, true, true, true, true, true, true, true, true, true, false] rfl rfl (any_of HT_.out (by kernel_rfl)) (fun _ _ _ h => h) (Or.inl ⟨by rfl, ?_⟩) ?_ ?_
              rotate_left
              ·intro w'
               go_simp
               with_reducible rfl
              rotate_left
              ·simp only [Act.put, List.setIfInBounds_toArray, List.set_cons_zero, List.set_cons_succ, i64_w, i32_w]
               rfl
              refine pure_ (i := 10) (N := some 7) (v := ?_) (a' := ?_) #[true, true, true, true, true, true, true, true, true, true, true] rfl rfl (any_of HT_.out (by kernel_rfl)) (fun _ _ _ h => h) (Or.inl ⟨by rfl, ?_⟩) ?_ ?_
              rotate_left
              ·intro w'
               go_simp
               with_reducible rfl
              rotate_left
              ·simp only [Act.put, List.setIfInBounds_toArray, List.set_cons_zero, List.set_cons_succ, i64_w, i32_w]
               rfl
              refine done_ (done_of HT_.out (by kernel_rfl)) ?_
              try go_wp2
              go_ret2
              exact ⟨by first | rfl | (simp [errW_none, errW_some] <;> rfl) | (simp [*, errW_none, errW_some] <;> rfl), by repeat (first | (with_reducible first | exact HB.out | apply below_alloc | apply pw_below_drewN | apply below_drew1) | exact HB.out)⟩
             ·rw [if_neg c22] at H
              exact absurd H (by simp)
            ·rw [if_neg c21] at H
             exact absurd H (by simp)
           ·rw [if_neg c20] at H
            exact absurd H (by simp)
          ·rw [if_neg c19] at H
           exact absurd H (by simp)
         ·rw [if_neg c18] at H
          exact absurd H (by simp)
        ·rw [if_neg c17] at H
         exact absurd H (by simp)
       ·rw [if_neg c16] at H
        exact absurd H (by simp)
      ·rw [if_neg c15] at H
       have c15b0 : ((Int.tmod a0 8) == 4) = false := beq_eq_false_iff_ne.mpr c15
       have c15b1 : ((Int.tmod a0 8) != 4) = true := bne_iff_ne.mpr c15
       by_cases c24 : (Int.tmod a0 8) = 5
       ·rw [if_pos c24] at H
        have c24b0 : ((Int.tmod a0 8) == 5) = true := beq_iff_eq.mpr c24
        have c24b1 : ((Int.tmod a0 8) != 5) = false := bne_eq_false_iff_eq.mpr c24
        clear c24
        obtain ⟨ji25, hji25⟩ : ∃ j_ : Int, (mn (a2.size : Int) 255) = j_ := ⟨_, rfl⟩
        replace H : ((some (([ji25] : List Int) : List Int)).bind fun y438 => (if 0 ≤ (ji25) then (if (ji25) ≤ (a2.size : Int) then (if (strOfNums y438).size + (a2.extract 0 ((ji25) : Int).toNat).size ≤ 9223372036854775807 then (some (16, (strOfNums y438) ++ (a2.extract 0 ((ji25) : Int).toNat))) else (none)) else (none)) else (none))) = some (r1, r2) := by first | (rw [hji25] at H; exact H) | (simp only [hji25] at H ⊢; exact H)
        have hji25_ : (if 255 < (a2.size : Int) then 255 else (a2.size : Int)) = ji25 := hji25
        have wj25 : IntKind.u8.wrap ji25 = ji25 := by
         have h_ : 0 ≤ ji25 ∧ ji25 ≤ 255 := by rw [← hji25_]; split <;> omega
         simp [IntKind.wrap, IntKind.bits, IntKind.signed]
         omega
        obtain ⟨y438, hy438⟩ : ∃ y_ : List Int, y_ = (([ji25] : List Int)) := ⟨_, rfl⟩
        replace H : (if 0 ≤ (ji25) then (if (ji25) ≤ (a2.size : Int) then (if (strOfNums y438).size + (a2.extract 0 ((ji25) : Int).toNat).size ≤ 9223372036854775807 then (some (16, (strOfNums y438) ++ (a2.extract 0 ((ji25) : Int).toNat))) else (none)) else (none)) else (none)) = some (r1, r2) := by first | (rw [hy438]; with_reducible exact H) | (have H2_ := (Option.bind_some _ _).symm.trans H; rw [hy438]; with_reducible exact H2_) | (have H2_ := (Option.bind_some _ _).symm.trans H; with_reducible exact H2_) | with_reducible exact H | (rw [hy438]; exact H) | exact H
        have Ny438 := Aside0.mk hy438
        clear hy438
        by_cases c26 : 0 ≤ (ji25)
        ·rw [if_pos c26] at H
         have c26b0 := eq_true c26
         have c26b1 : decide (0 ≤ (ji25)) = true := decide_eq_true c26
         clear c26
         by_cases c27 : (ji25) ≤ (a2.size : Int)
         ·rw [if_pos c27] at H
          have c27b0 := eq_true c27
          have c27b1 : decide ((ji25) ≤ (a2.size : Int)) = true := decide_eq_true c27
          clear c27
          by_cases c28 : (strOfNums y438).size + (a2.extract 0 ((ji25) : Int).toNat).size ≤ 9223372036854775807
          ·rw [if_pos c28] at H
           have c28b0 := eq_true c28
           have c28b1 : decide ((strOfNums y438).size + (a2.extract 0 ((ji25) : Int).toNat).size ≤ 9223372036854775807) = true := decide_eq_true c28
           have xc28 : (9223372036854775807 < (strOfNums y438).size + ji25.toNat) = False := eq_false (by have h_ := c28; rw [ByteArray.size_extract] at h_; have g_ : ji25 ≤ (a2.size : Int) := of_decide_eq_true (by with_reducible assumption); omega)
           try have c28b2 : (9223372036854775807 < (strOfNums y438).size + (a2.extract 0 ((ji25) : Int).toNat).size) = False := eq_false (Nat.not_lt.2 c28)
           simp only [Option.some.injEq, Prod.mk.injEq] at H
           obtain ⟨rfl, rfl⟩ := H
           try go_wp2
           have n0_ := Aside0.mk (below_drew1 HB.out)
           clear HB
           have HB := n0_
           clear n0_
           refine start_ (n := 10) (S := fun w' => True) (ds := []) #[false, false, false, false, false, false, false, false, false, false] (by kernel_rfl) rfl rfl trivial (fun hHeld => ?_); refine with_tabW bolterlaw04_Data.tab14 bolterlaw04_Data.bits14 (fun HT_ HW_ => ?_)
           generalize wc.drew = w29 at HB hHeld ⊢
           refine pure_ (i := 0) (N := some 42) (v := ?_) (a' := ?_) #[true, false, false, false, false, false, false, false, false, false] rfl rfl (any_of HT_.out (by kernel_rfl)) (fun _ _ _ h => h) (Or.inl ⟨by rfl, ?_⟩) ?_ ?_
           rotate_left
           ·intro w'
            go_simp
            with_reducible rfl
           rotate_left
           ·simp only [Act.put, List.setIfInBounds_toArray, List.set_cons_zero, List.set_cons_succ, i64_w, i32_w]
            rfl
           refine pure_ (i := 1) (N := some 43) (v := ?_) (a' := ?_) #[true, true, false, false, false, false, false, false, false, false] rfl rfl (any_of HT_.out (by kernel_rfl)) (fun _ _ _ h => h) (Or.inl ⟨by rfl, ?_⟩) ?_ ?_
           rotate_left
           ·intro w'
            go_simp
            with_reducible rfl
           rotate_left
           ·simp only [Act.put, List.setIfInBounds_toArray, List.set_cons_zero, List.set_cons_succ, i64_w, i32_w]
            rfl
           refine pure_ (i := 4) (N := some 46) (v := ?_) (a' := ?_) #[true, true, false, false, true, false, false, false, false, false] rfl rfl (any_of HT_.out (by kernel_rfl)) (fun _ _ _ h => h) (Or.inl ⟨by rfl, ?_⟩) ?_ ?_
           rotate_left
           ·intro w'
            go_simp
            with_reducible rfl
           rotate_left
           ·simp only [Act.put, List.setIfInBounds_toArray, List.set_cons_zero, List.set_cons_succ, i64_w, i32_w]
            rfl
           refine pure_ (i := 5) (N := some 47) (v := ?_) (a' := ?_) #[true, true, false, false, true, true, false, false, false, false] rfl rfl (any_of HT_.out (by kernel_rfl)) (fun _ _ _ h => h) (Or.inl ⟨by rfl, ?_⟩) ?_ ?_
           rotate_left
           ·intro w'
            go_simp
            with_reducible rfl
           rotate_left
           ·simp only [Act.put, List.setIfInBounds_toArray, List.set_cons_zero, List.set_cons_succ, i64_w, i32_w]
            rfl
           refine pure_ (i := 6) (N := some 48) (v := ?_) (a' := ?_) #[true, true, false, false, true, true, true, false, false, false] rfl rfl (any_of HT_.out (by kernel_rfl)) (fun _ _ _ h => h) (Or.inl ⟨by rfl, ?_⟩) ?_ ?_
           rotate_left
           ·intro w'
            go_simp
            with_reducible rfl
           rotate_left
           ·simp only [Act.put, List.setIfInBounds_toArray, List.set_cons_zero, List.set_cons_succ, i64_w, i32_w]
            rfl
           refine pure_ (i := 8) (N := some 6) (v := ?_) (a' := ?_) #[true, true, false, false, true, true, true, false, true, false] rfl rfl (any_of HT_.out (by kernel_rfl)) (fun _ _ _ h => h) (Or.inl ⟨by rfl, ?_⟩) ?_ ?_
           rotate_left
           ·intro w'
            go_simp
            with_reducible rfl
           rotate_left
           ·simp only [Act.put, List.setIfInBounds_toArray, List.set_cons_zero, List.set_cons_succ, i64_w, i32_w]
            rfl
           refine one_ (i := 2) (N := some 44) #[true, true, true, false, true, true, true, false, true, false] rfl rfl (one_of HT_.out (by kernel_rfl)) (by decide) (fun K hK => ?_)
           refine Kd.R_lit_step (Kd.int .u8) _ 5 ?hg (N := 44) ?hd (xs := ([ji25] : List Int)) (inner := [.int .u8 ji25]) (ok := fun _ => True) (okp := fun _ => True) ?hr ?hp (fun _ hk => hk) trivial (Below.refl _ _) (Nat.le_refl _) (by simp) ?_; (case hd => rfl); (case hg => rfl); (case hr => first | (go_simp; done) | (go_simp; rfl)); (case hp => exact (Reps.one (show Kd.M (Kd.int .u8) _ _ _ ji25 [.int .u8 ji25] from rfl) (Reps.none _ _)))
           intro v439 w30 ho31 hb hg_ hnew_
           clear hg_ hnew_
           (first | rw [← Ny438.out] at ho31 | (simp only [Int.reduceToNat] at ho31; rw [← Ny438.out] at ho31))
           have n0_ := Aside0.mk (Kd.R_lower ho31 (below_size (by repeat (first | (with_reducible first | exact HB.out | apply below_alloc | apply pw_below_drewN | apply below_drew1) | exact HB.out))))
           have n1_ := Aside0.mk (below_step (by repeat (first | (with_reducible first | exact HB.out | apply below_alloc | apply pw_below_drewN | apply below_drew1) | exact HB.out)) hb)
           clear HB
           have HO440 := n0_
           have HB := n1_
           clear n0_ n1_
           clear hb ho31
           refine hK.out _ _ trivial (fun hHeld => ?_)
           clear hK K
           refine norm_ (a' := ?_) ?_ ?_
           rotate_left
           ·show Act.put _ (some 44) _ = _
            simp only [Act.put, List.setIfInBounds_toArray, List.set_cons_zero, List.set_cons_succ, i64_w, i32_w]
            rfl
           refine one_ (i := 3) (N := some 45) #[true, true, true, true, true, true, true, false, true, false] rfl rfl (one_of HT_.out (by kernel_rfl)) (by decide) (fun K hK => ?_)
           have hcv32 := own_string (P := Try.prog) Try.underlying22 Try.underlying5 Try.underlying9 (Kd.own_of_R HO440.out)
           refine value_ (w1 := ?_) (v := ?_) (by rfl) rfl ?_ ?_
           rotate_left 2
           ·go_simp
            constructor
            ·rfl
            ·rfl
           clear hcv32
           refine hK.out _ _ trivial (fun hHeld => ?_)
           clear hK K
           refine norm_ (a' := ?_) ?_ ?_
           rotate_left
           ·show Act.put _ (some 45) _ = _
            simp only [Act.put, List.setIfInBounds_toArray, List.set_cons_zero, List.set_cons_succ, i64_w, i32_w]
            rfl
           refine pure_ (i := 7) (N := some 49) (v := ?_) (a' := ?_) #[true, true, true, true, true, true, true, true, true, false] rfl rfl (any_of HT_.out (by kernel_rfl)) (fun _ _ _ h => h) (Or.inl ⟨by rfl, ?_⟩) ?_ ?_
           rotate_left
           ·intro w'
            go_simp
            with_reducible rfl
           rotate_left
           ·simp only [Act.put, List.setIfInBounds_toArray, List.set_cons_zero, List.set_cons_succ, i64_w, i32_w]
            rfl
           refine pure_ (i := 9) (N := some 7) (v := ?_) (a' := ?_) #[true, true, true, true, true, true, true, true, true, true] rfl rfl (any_of HT_.out (by kernel_rfl)) (fun _ _ _ h => h) (Or.inl ⟨by rfl, ?_⟩) ?_ ?_
           rotate_left
           ·intro w'
            go_simp
            with_reducible rfl
           rotate_left
           ·simp only [Act.put, List.setIfInBounds_toArray, List.set_cons_zero, List.set_cons_succ, i64_w, i32_w]
            rfl
           refine done_ (done_of HT_.out (by kernel_rfl)) ?_
           try go_wp2
           go_ret2
           exact ⟨by first | rfl | (simp [errW_none, errW_some] <;> rfl) | (simp only [← hji25]; first | rfl | (simp [errW_none, errW_some] <;> rfl)) | (simp [*, errW_none, errW_some] <;> rfl), by repeat (first | (with_reducible first | exact HB.out | apply below_alloc | apply pw_below_drewN | apply below_drew1) | exact HB.out)⟩
          ·rw [if_neg c28] at H
           exact absurd H (by simp)
         ·rw [if_neg c27] at H
          exact absurd H (by simp)
        ·rw [if_neg c26] at H
         exact absurd H (by simp)
       ·rw [if_neg c24] at H
        have c24b0 : ((Int.tmod a0 8) == 5) = false := beq_eq_false_iff_ne.mpr c24
        have c24b1 : ((Int.tmod a0 8) != 5) = true := bne_iff_ne.mpr c24
        by_cases c33 : (Int.tmod a0 8) = 6
        ·rw [if_pos c33] at H
         have c33b0 : ((Int.tmod a0 8) == 6) = true := beq_iff_eq.mpr c33
         have c33b1 : ((Int.tmod a0 8) != 6) = false := bne_eq_false_iff_eq.mpr c33
         clear c33
         by_cases c34 : a2.size + 16 ≤ 9223372036854775807
         ·rw [if_pos c34] at H
          have c34b0 := eq_true c34
          have c34b1 : decide (a2.size + 16 ≤ 9223372036854775807) = true := decide_eq_true c34
          try have c34b2 : (9223372036854775807 < a2.size + 16) = False := eq_false (Nat.not_lt.2 c34)
          by_cases c35 : 0 ≤ 16
          ·rw [if_pos c35] at H
           have c35b0 := eq_true c35
           have c35b1 : decide (0 ≤ 16) = true := decide_eq_true c35
           clear c35
           by_cases c36 : 16 ≤ ((a2 ++ (⟨#[48, 49, 50, 51, 52, 53, 54, 55, 56, 57, 97, 98, 99, 100, 101, 102]⟩ : ByteArray)).size : Int)
           ·rw [if_pos c36] at H
            have c36b0 := eq_true c36
            have c36b1 : decide (16 ≤ ((a2 ++ (⟨#[48, 49, 50, 51, 52, 53, 54, 55, 56, 57, 97, 98, 99, 100, 101, 102]⟩ : ByteArray)).size : Int)) = true := decide_eq_true c36
            have xc36 : ((16 : Int) ≤ (a2.size : Int) + 16) = True := eq_true (by omega)
            simp only [Option.some.injEq, Prod.mk.injEq] at H
            obtain ⟨rfl, rfl⟩ := H
            try go_wp2
            have n0_ := Aside0.mk (below_drew1 HB.out)
            clear HB
            have HB := n0_
            clear n0_
            refine start_ (n := 5) (S := fun w' => True) (ds := []) #[false, false, false, false, false] (by kernel_rfl) rfl rfl trivial (fun hHeld => ?_)
            generalize wc.drew = w37 at HB hHeld ⊢
            refine pure_ (i := 0) (N := some 52) (v := ?_) (a' := ?_) #[true, false, false, false, false] rfl rfl (by kernel_rfl) (fun _ _ _ h => h) (Or.inl ⟨by rfl, ?_⟩) ?_ ?_
            rotate_left
            ·intro w'
             go_simp
             with_reducible rfl
            rotate_left
            ·simp only [Act.put, List.setIfInBounds_toArray, List.set_cons_zero, List.set_cons_succ, i64_w, i32_w]
             rfl
            refine pure_ (i := 1) (N := some 53) (v := ?_) (a' := ?_) #[true, true, false, false, false] rfl rfl (by kernel_rfl) (fun _ _ _ h => h) (Or.inl ⟨by rfl, ?_⟩) ?_ ?_
            rotate_left
            ·intro w'
             go_simp
             with_reducible rfl
            rotate_left
            ·simp only [Act.put, List.setIfInBounds_toArray, List.set_cons_zero, List.set_cons_succ, i64_w, i32_w]
             rfl
            refine pure_ (i := 2) (N := some 54) (v := ?_) (a' := ?_) #[true, true, true, false, false] rfl rfl (by kernel_rfl) (fun _ _ _ h => h) (Or.inl ⟨by rfl, ?_⟩) ?_ ?_
            rotate_left
            ·intro w'
             go_simp
             with_reducible rfl
            rotate_left
            ·simp only [Act.put, List.setIfInBounds_toArray, List.set_cons_zero, List.set_cons_succ, i64_w, i32_w]
             rfl
            refine pure_ (i := 3) (N := some 6) (v := ?_) (a' := ?_) #[true, true, true, true, false] rfl rfl (by kernel_rfl) (fun _ _ _ h => h) (Or.inl ⟨by rfl, ?_⟩) ?_ ?_
            rotate_left
            ·intro w'
             go_simp
             with_reducible rfl
            rotate_left
            ·simp only [Act.put, List.setIfInBounds_toArray, List.set_cons_zero, List.set_cons_succ, i64_w, i32_w]
             rfl
            refine pure_ (i := 4) (N := some 7) (v := ?_) (a' := ?_) #[true, true, true, true, true] rfl rfl (by kernel_rfl) (fun _ _ _ h => h) (Or.inl ⟨by rfl, ?_⟩) ?_ ?_
            rotate_left
            ·intro w'
             go_simp
             with_reducible rfl
            rotate_left
            ·simp only [Act.put, List.setIfInBounds_toArray, List.set_cons_zero, List.set_cons_succ, i64_w, i32_w]
             rfl
            refine done_ (by kernel_rfl) ?_
            try go_wp2
            go_ret2
            exact ⟨by first | rfl | (simp [errW_none, errW_some] <;> rfl) | (simp [*, errW_none, errW_some] <;> rfl), by repeat (first | (with_reducible first | exact HB.out | apply below_alloc | apply pw_below_drewN | apply below_drew1) | exact HB.out)⟩
           ·rw [if_neg c36] at H
            exact absurd H (by simp)
          ·rw [if_neg c35] at H
           exact absurd H (by simp)
         ·rw [if_neg c34] at H
          exact absurd H (by simp)
        ·rw [if_neg c33] at H
         have c33b0 : ((Int.tmod a0 8) == 6) = false := beq_eq_false_iff_ne.mpr c33
         have c33b1 : ((Int.tmod a0 8) != 6) = true := bne_iff_ne.mpr c33
         obtain ⟨ji38, hji38⟩ : ∃ j_ : Int, (mn (a2.size : Int) 512) = j_ := ⟨_, rfl⟩
         replace H : (if 0 ≤ (ji38) then (if (ji38) ≤ (a2.size : Int) then (some (99, a2.extract 0 ((ji38) : Int).toNat)) else (none)) else (none)) = some (r1, r2) := by first | (rw [hji38] at H; exact H) | (simp only [hji38] at H ⊢; exact H)
         have hji38_ : (if 512 < (a2.size : Int) then 512 else (a2.size : Int)) = ji38 := hji38
         by_cases c39 : 0 ≤ (ji38)
         ·rw [if_pos c39] at H
          have c39b0 := eq_true c39
          have c39b1 : decide (0 ≤ (ji38)) = true := decide_eq_true c39
          clear c39
          by_cases c40 : (ji38) ≤ (a2.size : Int)
          ·rw [if_pos c40] at H
           have c40b0 := eq_true c40
           have c40b1 : decide ((ji38) ≤ (a2.size : Int)) = true := decide_eq_true c40
           clear c40
           simp only [Option.some.injEq, Prod.mk.injEq] at H
           obtain ⟨rfl, rfl⟩ := H
           try go_wp2
           have n0_ := Aside0.mk (below_drew1 HB.out)
           clear HB
           have HB := n0_
           clear n0_
           refine start_ (n := 7) (S := fun w' => True) (ds := []) #[false, false, false, false, false, false, false] (by kernel_rfl) rfl rfl trivial (fun hHeld => ?_)
           generalize wc.drew = w41 at HB hHeld ⊢
           refine pure_ (i := 0) (N := some 55) (v := ?_) (a' := ?_) #[true, false, false, false, false, false, false] rfl rfl (by kernel_rfl) (fun _ _ _ h => h) (Or.inl ⟨by rfl, ?_⟩) ?_ ?_
           rotate_left
           ·intro w'
            go_simp
            with_reducible rfl
           rotate_left
           ·simp only [Act.put, List.setIfInBounds_toArray, List.set_cons_zero, List.set_cons_succ, i64_w, i32_w]
            rfl
           refine pure_ (i := 1) (N := some 56) (v := ?_) (a' := ?_) #[true, true, false, false, false, false, false] rfl rfl (by kernel_rfl) (fun _ _ _ h => h) (Or.inl ⟨by rfl, ?_⟩) ?_ ?_
           rotate_left
           ·intro w'
            go_simp
            with_reducible rfl
           rotate_left
           ·simp only [Act.put, List.setIfInBounds_toArray, List.set_cons_zero, List.set_cons_succ, i64_w, i32_w]
            rfl
           refine pure_ (i := 2) (N := some 57) (v := ?_) (a' := ?_) #[true, true, true, false, false, false, false] rfl rfl (by kernel_rfl) (fun _ _ _ h => h) (Or.inl ⟨by rfl, ?_⟩) ?_ ?_
           rotate_left
           ·intro w'
            go_simp
            with_reducible rfl
           rotate_left
           ·simp only [Act.put, List.setIfInBounds_toArray, List.set_cons_zero, List.set_cons_succ, i64_w, i32_w]
            rfl
           refine pure_ (i := 3) (N := some 58) (v := ?_) (a' := ?_) #[true, true, true, true, false, false, false] rfl rfl (by kernel_rfl) (fun _ _ _ h => h) (Or.inl ⟨by rfl, ?_⟩) ?_ ?_
           rotate_left
           ·intro w'
            go_simp
            with_reducible rfl
           rotate_left
           ·simp only [Act.put, List.setIfInBounds_toArray, List.set_cons_zero, List.set_cons_succ, i64_w, i32_w]
            rfl
           refine pure_ (i := 4) (N := some 59) (v := ?_) (a' := ?_) #[true, true, true, true, true, false, false] rfl rfl (by kernel_rfl) (fun _ _ _ h => h) (Or.inl ⟨by rfl, ?_⟩) ?_ ?_
           rotate_left
           ·intro w'
            go_simp
            with_reducible rfl
           rotate_left
           ·simp only [Act.put, List.setIfInBounds_toArray, List.set_cons_zero, List.set_cons_succ, i64_w, i32_w]
            rfl
           refine pure_ (i := 5) (N := some 6) (v := ?_) (a' := ?_) #[true, true, true, true, true, true, false] rfl rfl (by kernel_rfl) (fun _ _ _ h => h) (Or.inl ⟨by rfl, ?_⟩) ?_ ?_
           rotate_left
           ·intro w'
            go_simp
            with_reducible rfl
           rotate_left
           ·simp only [Act.put, List.setIfInBounds_toArray, List.set_cons_zero, List.set_cons_succ, i64_w, i32_w]
            rfl
           refine pure_ (i := 6) (N := some 7) (v := ?_) (a' := ?_) #[true, true, true, true, true, true, true] rfl rfl (by kernel_rfl) (fun _ _ _ h => h) (Or.inl ⟨by rfl, ?_⟩) ?_ ?_
           rotate_left
           ·intro w'
            go_simp
            with_reducible rfl
           rotate_left
           ·simp only [Act.put, List.setIfInBounds_toArray, List.set_cons_zero, List.set_cons_succ, i64_w, i32_w]
            rfl
           refine done_ (by kernel_rfl) ?_
           try go_wp2
           go_ret2
           exact ⟨by first | rfl | (simp [errW_none, errW_some] <;> rfl) | (simp only [← hji38]; first | rfl | (simp [errW_none, errW_some] <;> rfl)) | (simp [*, errW_none, errW_some] <;> rfl), by repeat (first | (with_reducible first | exact HB.out | apply below_alloc | apply pw_below_drewN | apply below_drew1) | exact HB.out)⟩
          ·rw [if_neg c40] at H
           exact absurd H (by simp)
         ·rw [if_neg c39] at H
          exact absurd H (by simp)

end Go.Proofs.Ytdkjlbbbdjkhbaa.PAll

namespace Go.Proofs.Ytdkjlbbbdjkhbaa.PAll
open Go.RowKit Go.Proofs.YtdkjlbbbdjkhbaaW.PrintWords Go.Proofs.YtdkjlbbbdjkhbaaW.PrintLast Go.Proofs.YtdkjlbbbdjkhbaaW.PrintMore
attribute [local go_sem] max2_int min2_int max_two min_two max_three min_three max_four min_four   -- for this text's walks alone
open Go.Proofs.Ytdkjlbbbdjkhbaa.Hand

/-! ### bolterlaw05_Record: function 41 -/
def bolterlaw05_Record.f (k : Nat) (l0_0 : List Int) (a0_1 : Int) (a0_2 : Int) (l0_3 : List Int) (a0_4 : ByteArray) : Option (ByteArray × Int × Int × ByteArray) := if 0 ≤ (mn (a0_4.size : Int) 30) then (if (mn (a0_4.size : Int) 30) ≤ (a0_4.size : Int) then ((bolterlaw04_Data.f k (IntKind.u16.wrap (a0_1)) l0_3 (a0_4.extract 0 ((mn (a0_4.size : Int) 30) : Int).toNat)).bind fun bt443 => ((bolterlaw02_Name.f k l0_0).bind fun t445 => (some (t445, bt443.1, a0_2, bt443.2)))) else (none)) else (none)
theorem bolterlaw05_Record.mono : ∀ a0 a1 a2 a3 a4 k, LeO (bolterlaw05_Record.f k a0 a1 a2 a3 a4) (bolterlaw05_Record.f (k + 1) a0 a1 a2 a3 a4) := by
 intro a0 a1 a2 a3 a4 k
 unfold bolterlaw05_Record.f
 repeat' first
   | (with_reducible exact bolterlaw02_Name.mono _ _)
   | (with_reducible exact bolterlaw04_Data.mono _ _ _ _)
   | (with_reducible exact LeO.refl _)
   | (with_reducible exact LeO.none _)
   | (with_reducible refine LeO.ite ?_ ?_)
   | (with_reducible refine LeO.bind ?_ (fun _ => ?_))
   | exact bolterlaw02_Name.mono _ _
   | exact bolterlaw04_Data.mono _ _ _ _
   | exact LeO.none _
   | refine LeO.ite ?_ ?_
   | refine LeO.bind ?_ (fun _ => ?_)
def bolterlaw05_Record.T1 : Bool × List (List Nat × List Nat) := (true, [([], []), ([0], [0]), ([1], [1]), ([], []), ([3], [3]), ([], []), ([5], [5]), ([], []), ([7], [7]), ([8], [8]), ([9], [9]), ([6, 10], [6, 10]), ([2, 4, 11], [2, 4, 11]), ([12], [12]), ([13], [13]), ([13], [13]), ([14, 12, 0, 1, 2, 3, 4, 5, 6, 7, 8, 9, 10, 11, 12, 13, 14], [14]), ([15, 16, 0, 1, 2, 3, 4, 5, 6, 7, 8, 9, 10, 11, 12, 13, 14, 15, 16], [15])])
def bolterlaw05_Record.B1 : List Nat := [0, 1, 3, 0, 8, 0, 32, 0, 128, 384, 896, 2016, 4095, 8191, 16383, 16383, 32767, 131071]
theorem bolterlaw05_Record.tab1 : rtab .any (opsOf Try.f41 1) = bolterlaw05_Record.T1 := by kernel_rfl
theorem bolterlaw05_Record.bits1 : waitsOk bolterlaw05_Record.T1.2 bolterlaw05_Record.B1 = true := by kernel_rfl
def bolterlaw05_Record.T2 : Bool × List (List Nat × List Nat) := (true, [([], []), ([0], [0]), ([1], [1]), ([], []), ([], []), ([4], [4]), ([], []), ([2, 3, 5, 6], [2, 3, 5, 6]), ([7, 2, 0, 1, 2, 3, 4, 5, 6, 7], [7])])
def bolterlaw05_Record.B2 : List Nat := [0, 1, 3, 0, 0, 16, 0, 127, 255]
theorem bolterlaw05_Record.tab2 : rtab .any (opsOf Try.f41 2) = bolterlaw05_Record.T2 := by kernel_rfl
theorem bolterlaw05_Record.bits2 : waitsOk bolterlaw05_Record.T2.2 bolterlaw05_Record.B2 = true := by kernel_rfl
set_option maxHeartbeats 8000000 in
set_option maxRecDepth 100000 in
theorem bolterlaw05_Record.calls (k : Nat) (A0_0 : Option Addr) (c0_0 : Nat) (l0_0 : List Int) (a0_1 : Int) (a0_2 : Int) (A0_3 : Option Addr) (c0_3 : Nat) (l0_3 : List Int) (a0_4 : ByteArray) (r1 : ByteArray) (r2 : Int) (r3 : Int) (r4 : ByteArray) (w : World) (hr0_0 : Kd.C (Kd.int .u8) w A0_0 l0_0.length l0_0) (hc0_0 : l0_0.length ≤ c0_0) (hr0_3 : Kd.C (Kd.int .u8) w A0_3 l0_3.length l0_3) (hc0_3 : l0_3.length ≤ c0_3) (h : bolterlaw05_Record.f k l0_0 a0_1 a0_2 l0_3 a0_4 = some (r1, r2, r3, r4)) :
  Calls Try.prog 41 #[.agg #[.slice A0_0 l0_0.length c0_0, .int .u8 a0_1, .int .u32 a0_2, .slice A0_3 l0_3.length c0_3, .string a0_4]] w fun e w' => e = .returned (.agg #[.string r1, .int .u16 r2, .int .u32 r3, .string r4]) ∧ Below w.heap.size w w' := by
 have hu86 := Try.underlying86
 have hu43 := Try.underlying43
 have HR0_0 := Aside0.mk hr0_0
 have HC0_0 := Aside0.mk hc0_0
 clear hr0_0 hc0_0
 have HR0_3 := Aside0.mk hr0_3
 have HC0_3 := Aside0.mk hc0_3
 clear hr0_3 hc0_3
 have HB := Aside0.mk (Below.refl w.heap.size w)
 have H : (if 0 ≤ (mn (a0_4.size : Int) 30) then (if (mn (a0_4.size : Int) 30) ≤ (a0_4.size : Int) then ((bolterlaw04_Data.f k (IntKind.u16.wrap (a0_1)) l0_3 (a0_4.extract 0 ((mn (a0_4.size : Int) 30) : Int).toNat)).bind fun bt443 => ((bolterlaw02_Name.f k l0_0).bind fun t445 => (some (t445, bt443.1, a0_2, bt443.2)))) else (none)) else (none)) = some (r1, r2, r3, r4) := h
 clear h
 obtain ⟨ji2, hji2⟩ : ∃ j_ : Int, (mn (a0_4.size : Int) 30) = j_ := ⟨_, rfl⟩
 replace H : (if 0 ≤ (ji2) then (if (ji2) ≤ (a0_4.size : Int) then ((bolterlaw04_Data.f k (IntKind.u16.wrap (a0_1)) l0_3 (a0_4.extract 0 ((ji2) : Int).toNat)).bind fun bt443 => ((bolterlaw02_Name.f k l0_0).bind fun t445 => (some (t445, bt443.1, a0_2, bt443.2)))) else (none)) else (none)) = some (r1, r2, r3, r4) := by first | (rw [hji2] at H; exact H) | (simp only [hji2] at H ⊢; exact H)
 (try (have hji2h : ji2 ≤ 30 := by (rw [← hji2]; unfold mn; (repeat' split) <;> omega)))
 (try (have hji2g : ji2 ≤ 64 := by omega))
 (try (have hji2l : 0 ≤ ji2 := by (rw [← hji2]; unfold mn; (repeat' split) <;> omega)))
 (try (have hji2m : 0 ≤ ji2 := by omega))
 have hji2_ : (if 30 < (a0_4.size : Int) then 30 else (a0_4.size : Int)) = ji2 := hji2
 by_cases c3 : 0 ≤ (ji2)
 ·rw [if_pos c3] at H
  have c3b0 := eq_true c3
  have c3b1 : decide (0 ≤ (ji2)) = true := decide_eq_true c3
  clear c3
  by_cases c4 : (ji2) ≤ (a0_4.size : Int)
  ·rw [if_pos c4] at H
   have c4b0 := eq_true c4
   have c4b1 : decide ((ji2) ≤ (a0_4.size : Int)) = true := decide_eq_true c4
   clear c4
   replace H := Option.bind_eq_some_iff.mp H
   obtain ⟨⟨t443, t444⟩, A50, H⟩ := H
   replace H : ((bolterlaw02_Name.f k l0_0).bind fun t445 => (some (t445, t443, a0_2, t444))) = some (r1, r2, r3, r4) := H
   have A5 := Aside0.mk A50
   clear A50
   replace H := Option.bind_eq_some_iff.mp H
   obtain ⟨t445, A60, H⟩ := H
   replace H : (some (t445, t443, a0_2, t444)) = some (r1, r2, r3, r4) := H
   have A6 := Aside0.mk A60
   clear A60
   simp only [Option.some.injEq, Prod.mk.injEq] at H
   obtain ⟨rfl, rfl, rfl, rfl⟩ := H
   go_enter Try.func41, Try.ntmps41
   try go_wp2_with (first | ((with_reducible refine gate_dst (N := 1) rfl ?_); refine box_event ?hg (N := 1) ?hd (cs := #[.slice A0_0 l0_0.length c0_0, .int .u8 a0_1, .int .u32 a0_2, .slice A0_3 l0_3.length c0_3, .string a0_4]) (t := 86) ?hr ?_; (case hd => rfl); (case hg => rfl); (case hr => first | (go_simp; done) | (go_simp; rfl)); intro gb441 hg w7 hbox hb; have n0_ := Aside0.mk (below_step (by repeat (first | (with_reducible first | exact HB.out | apply below_alloc | apply pw_below_drewN | apply below_drew1) | exact HB.out)) hb); have n1_ := Aside0.mk (hbox); have n2_ := Aside0.mk ((by rw [hg]; exact (below_size (by repeat (first | (with_reducible first | exact HB.out | apply below_alloc | apply pw_below_drewN | apply below_drew1) | exact HB.out))) : w.heap.size ≤ gb441)); have n3_ := Aside0.mk ((by rw [hg]; exact (below_size (by repeat (first | (with_reducible first | exact HB.out | apply below_alloc | apply pw_below_drewN | apply below_drew1) | exact HB.out))) : w.heap.size ≤ gb441)); clear HB; have HB := n0_; have BK441 := n1_; have GW441 := n2_; have GE441 := n3_; clear n0_ n1_ n2_ n3_; clear hb hbox hg) | ((with_reducible refine gate_dst (N := 2) rfl ?_); refine box_event ?hg (N := 2) ?hd (cs := #[.string (⟨#[]⟩ : ByteArray), .int .u16 0, .int .u32 0, .string (⟨#[]⟩ : ByteArray)]) (t := 43) ?hr ?_; (case hd => rfl); (case hg => rfl); (case hr => first | (go_simp; done) | (go_simp; rfl)); intro gb442 hg w8 hbox hb; have n0_ := Aside0.mk (blk_below (g := gb441) (o := .cells #[.slice A0_0 l0_0.length c0_0, .int .u8 a0_1, .int .u32 a0_2, .slice A0_3 l0_3.length c0_3, .string a0_4] 86 (0, 0)) (by (with_reducible repeat (first | refine blk_drewN ?_ _ | refine blk_drew ?_ | refine blk_alloc ?_ _)); exact BK441.out) hb); have n1_ := Aside0.mk (below_step (by repeat (first | (with_reducible first | exact HB.out | apply below_alloc | apply pw_below_drewN | apply below_drew1 | refine below_set ?_ GE441.out) | exact HB.out)) hb); have n2_ := Aside0.mk (hbox); have n3_ := Aside0.mk ((by rw [hg]; exact (below_size (by repeat (first | (with_reducible first | exact HB.out | apply below_alloc | apply pw_below_drewN | apply below_drew1 | refine below_set ?_ GE441.out) | exact HB.out))) : w.heap.size ≤ gb442)); have n4_ := Aside0.mk ((by rw [hg]; exact (below_size (by repeat (first | (with_reducible first | exact HB.out | apply below_alloc | apply pw_below_drewN | apply below_drew1 | refine below_set ?_ GE441.out) | exact HB.out))) : w.heap.size ≤ gb442)); have n5_ := Aside0.mk ((by rw [hg]; exact Nat.ne_of_lt (blk_lt (g := gb441) (o := .cells #[.slice A0_0 l0_0.length c0_0, .int .u8 a0_1, .int .u32 a0_2, .slice A0_3 l0_3.length c0_3, .string a0_4] 86 (0, 0)) (by (with_reducible repeat (first | refine blk_drewN ?_ _ | refine blk_drew ?_ | refine blk_alloc ?_ _)); exact BK441.out)) : gb441 ≠ gb442)); have n6_ := Aside0.mk ((by rw [hg]; exact Nat.ne_of_gt (blk_lt (g := gb441) (o := .cells #[.slice A0_0 l0_0.length c0_0, .int .u8 a0_1, .int .u32 a0_2, .slice A0_3 l0_3.length c0_3, .string a0_4] 86 (0, 0)) (by (with_reducible repeat (first | refine blk_drewN ?_ _ | refine blk_drew ?_ | refine blk_alloc ?_ _)); exact BK441.out)) : gb442 ≠ gb441)); clear BK441; clear HB; have BK441 := n0_; have HB := n1_; have BK442 := n2_; have GW442 := n3_; have GE442 := n4_; have NB441_442 := n5_; have NB442_441 := n6_; clear n0_ n1_ n2_ n3_ n4_ n5_ n6_; clear hb hbox hg))
   have n0_ := Aside0.mk (blk_drew BK441.out)
   have n1_ := Aside0.mk (blk_drew BK442.out)
   have n2_ := Aside0.mk (below_drew1 HB.out)
   clear BK441
   clear BK442
   clear HB
   have BK441 := n0_
   have BK442 := n1_
   have HB := n2_
   clear n0_ n1_ n2_
   refine start_ (n := 18) (S := fun w' => w'.cell? ⟨gb441, 0, none⟩ = some (.slice A0_0 l0_0.length c0_0) ∧ w'.cell? ⟨gb441, 1, none⟩ = some (.int .u8 a0_1) ∧ w'.cell? ⟨gb441, 2, none⟩ = some (.int .u32 a0_2) ∧ w'.cell? ⟨gb441, 3, none⟩ = some (.slice A0_3 l0_3.length c0_3) ∧ w'.cell? ⟨gb441, 4, none⟩ = some (.string a0_4)) (ds := []) #[false, false, false, false, false, false, false, false, false, false, false, false, false, false, false, false, false, false] (by kernel_rfl) rfl rfl ⟨(blk_cell BK441.out 0).trans rfl, (blk_cell BK441.out 1).trans rfl, (blk_cell BK441.out 2).trans rfl, (blk_cell BK441.out 3).trans rfl, (blk_cell BK441.out 4).trans rfl⟩ (fun hHeld => ?_); refine with_tabW bolterlaw05_Record.tab1 bolterlaw05_Record.bits1 (fun HT_ HW_ => ?_)
   generalize w8.drew = w9 at BK441 BK442 HB hHeld ⊢
   refine pure_ (i := 0) (N := some 6) (v := ?_) (a' := ?_) #[true, false, false, false, false, false, false, false, false, false, false, false, false, false, false, false, false, false] rfl rfl (any_of HT_.out (by kernel_rfl)) (fun _ _ _ h => h) (Or.inl ⟨by rfl, ?_⟩) ?_ ?_
   rotate_left
   ·intro w'
    go_simp
    with_reducible rfl
   rotate_left
   ·simp only [Act.put, List.setIfInBounds_toArray, List.set_cons_zero, List.set_cons_succ, i64_w, i32_w]
    rfl
   refine pure_ (i := 3) (N := some 9) (v := ?_) (a' := ?_) #[true, false, false, true, false, false, false, false, false, false, false, false, false, false, false, false, false, false] rfl rfl (any_of HT_.out (by kernel_rfl)) (fun _ _ _ h => h) (Or.inl ⟨by rfl, ?_⟩) ?_ ?_
   rotate_left
   ·intro w'
    go_simp
    with_reducible rfl
   rotate_left
   ·simp only [Act.put, List.setIfInBounds_toArray, List.set_cons_zero, List.set_cons_succ, i64_w, i32_w]
    rfl
   refine pure_ (i := 5) (N := some 11) (v := ?_) (a' := ?_) #[true, false, false, true, false, true, false, false, false, false, false, false, false, false, false, false, false, false] rfl rfl (any_of HT_.out (by kernel_rfl)) (fun _ _ _ h => h) (Or.inl ⟨by rfl, ?_⟩) ?_ ?_
   rotate_left
   ·intro w'
    go_simp
    with_reducible rfl
   rotate_left
   ·simp only [Act.put, List.setIfInBounds_toArray, List.set_cons_zero, List.set_cons_succ, i64_w, i32_w]
    rfl
   refine pure_ (i := 7) (N := some 13) (v := ?_) (a' := ?_) #[true, false, false, true, false, true, false, true, false, false, false, false, false, false, false, false, false, false] rfl rfl (any_of HT_.out (by kernel_rfl)) (fun _ _ _ h => h) (Or.inl ⟨by rfl, ?_⟩) ?_ ?_
   rotate_left
   ·intro w'
    go_simp
    with_reducible rfl
   rotate_left
   ·simp only [Act.put, List.setIfInBounds_toArray, List.set_cons_zero, List.set_cons_succ, i64_w, i32_w]
    rfl
   refine take_ (i := 1) (N := some 7) (v := ?_) (a' := ?_) #[true, true, false, true, false, true, false, true, false, false, false, false, false, false, false, false, false, false] rfl rfl (take_ofW HT_.out HW_.out (by kernel_rfl)) (fun _ _ _ h => h) (Or.inl ⟨by rfl, ?_⟩) hHeld ?_ ?_
   rotate_left
   ·rintro w' ⟨s0, s1, s2, s3, s4⟩
    go_simp
    with_reducible rfl
   rotate_left
   ·simp only [Act.put, List.setIfInBounds_toArray, List.set_cons_zero, List.set_cons_succ, i64_w, i32_w]
    rfl
   refine pure_ (i := 2) (N := some 8) (v := ?_) (a' := ?_) #[true, true, true, true, false, true, false, true, false, false, false, false, false, false, false, false, false, false] rfl rfl (any_of HT_.out (by kernel_rfl)) (fun _ _ _ h => h) (Or.inl ⟨by rfl, ?_⟩) ?_ ?_
   rotate_left
   ·intro w'
    go_simp
    with_reducible rfl
   rotate_left
   ·simp only [Act.put, List.setIfInBounds_toArray, List.set_cons_zero, List.set_cons_succ, i64_w, i32_w]
    rfl
   refine take_ (i := 4) (N := some 10) (v := ?_) (a' := ?_) #[true, true, true, true, true, true, false, true, false, false, false, false, false, false, false, false, false, false] rfl rfl (take_ofW HT_.out HW_.out (by kernel_rfl)) (fun _ _ _ h => h) (Or.inl ⟨by rfl, ?_⟩) hHeld ?_ ?_
   rotate_left
   ·rintro w' ⟨s0, s1, s2, s3, s4⟩
    go_simp
    with_reducible rfl
   rotate_left
   ·simp only [Act.put, List.setIfInBounds_toArray, List.set_cons_zero, List.set_cons_succ, i64_w, i32_w]
    rfl
   refine take_ (i := 6) (N := some 12) (v := ?_) (a' := ?_) #[true, true, true, true, true, true, true, true, false, false, false, false, false, false, false, false, false, false] rfl rfl (take_ofW HT_.out HW_.out (by kernel_rfl)) (fun _ _ _ h => h) (Or.inl ⟨by rfl, ?_⟩) hHeld ?_ ?_
   rotate_left
   ·rintro w' ⟨s0, s1, s2, s3, s4⟩
    go_simp
    with_reducible rfl
   rotate_left
   ·simp only [Act.put, List.setIfInBounds_toArray, List.set_cons_zero, List.set_cons_succ, i64_w, i32_w]
    rfl
   refine take_ (i := 8) (N := some 14) (v := ?_) (a' := ?_) #[true, true, true, true, true, true, true, true, true, false, false, false, false, false, false, false, false, false] rfl rfl (take_ofW HT_.out HW_.out (by kernel_rfl)) (fun _ _ _ h => h) (Or.inl ⟨by rfl, ?_⟩) hHeld ?_ ?_
   rotate_left
   ·rintro w' ⟨s0, s1, s2, s3, s4⟩
    go_simp
    with_reducible rfl
   rotate_left
   ·simp only [Act.put, List.setIfInBounds_toArray, List.set_cons_zero, List.set_cons_succ, i64_w, i32_w]
    rfl
   refine pure_ (i := 9) (N := some 15) (v := ?_) (a' := ?_) #[true, true, true, true, true, true, true, true, true, true, false, false, false, false, false, false, false, false] rfl rfl (any_of HT_.out (by kernel_rfl)) (fun _ _ _ h => h) (Or.inl ⟨by rfl, ?_⟩) ?_ ?_
   rotate_left
   ·intro w'
    go_simp
    with_reducible rfl
   rotate_left
   ·simp only [Act.put, List.setIfInBounds_toArray, List.set_cons_zero, List.set_cons_succ, i64_w, i32_w]
    rfl
   refine pure_ (i := 10) (N := some 16) (v := ?_) (a' := ?_) #[true, true, true, true, true, true, true, true, true, true, true, false, false, false, false, false, false, false] rfl rfl (any_of HT_.out (by kernel_rfl)) (fun _ _ _ h => h) (Or.inl ⟨by rfl, ?_⟩) ?_ ?_
   rotate_left
   ·intro w'
    go_simp
    with_reducible rfl
   rotate_left
   ·simp only [Act.put, List.setIfInBounds_toArray, List.set_cons_zero, List.set_cons_succ, i64_w, i32_w]
    rfl
   refine pure_ (i := 11) (N := some 17) (v := ?_) (a' := ?_) #[true, true, true, true, true, true, true, true, true, true, true, true, false, false, false, false, false, false] rfl rfl (any_of HT_.out (by kernel_rfl)) (fun _ _ _ h => h) (Or.inl ⟨by rfl, ?_⟩) ?_ ?_
   rotate_left
   ·intro w'
    go_simp
    with_reducible rfl
   rotate_left
   ·simp only [Act.put, List.setIfInBounds_toArray, List.set_cons_zero, List.set_cons_succ, i64_w, i32_w]
    rfl
   refine one_ (i := 12) (N := some 18) #[true, true, true, true, true, true, true, true, true, true, true, true, true, false, false, false, false, false] rfl rfl (one_of HT_.out (by kernel_rfl)) (by decide) (fun K hK => ?_)
   refine goes_ Try.func49 (by kernel_rfl) rfl #[.int .u16 (IntKind.u16.wrap (a0_1)), .slice A0_3 l0_3.length c0_3, .string (a0_4.extract 0 ((ji2) : Int).toNat)] (by rfl) rfl rfl (by (try simp only [List.map_toArray, List.map_cons, List.map_nil]); first | done | (simp only [hji2]; rfl) | rfl | (simp only [List.length_drop, List.length_take]; rfl)) ?_
   with_reducible refine (bolterlaw04_Data.calls k (IntKind.u16.wrap (a0_1)) _ _ l0_3 (a0_4.extract 0 ((ji2) : Int).toNat) t443 t444 _ ?side1 ?side2 A5.out).mono ?_
   (case side1 => repeat (first | exact (Kd.C_below HR0_3.out HB.out) | (with_reducible refine Kd.C_alloc ?_ _) | (with_reducible refine Kd.C_drewN ?_ _) | (with_reducible refine Kd.C_drew ?_)))
   (case side2 => exact HC0_3.out)
   rintro e w10 ⟨rfl, hb⟩
   refine ⟨_, rfl, ?_⟩
   have n0_ := Aside0.mk (blk_below (g := gb441) (o := .cells #[.slice A0_0 l0_0.length c0_0, .int .u8 a0_1, .int .u32 a0_2, .slice A0_3 l0_3.length c0_3, .string a0_4] 86 (0, 0)) (by (with_reducible repeat (first | refine blk_drewN ?_ _ | refine blk_drew ?_ | refine blk_alloc ?_ _)); exact BK441.out) hb)
   have n1_ := Aside0.mk (blk_below (g := gb442) (o := .cells #[.string (⟨#[]⟩ : ByteArray), .int .u16 0, .int .u32 0, .string (⟨#[]⟩ : ByteArray)] 43 (0, 0)) (by (with_reducible repeat (first | refine blk_drewN ?_ _ | refine blk_drew ?_ | refine blk_alloc ?_ _)); exact BK442.out) hb)
   have n2_ := Aside0.mk (below_step (by repeat (first | (with_reducible first | exact HB.out | apply below_alloc | apply pw_below_drewN | apply below_drew1 | refine below_set ?_ GE441.out | refine below_set ?_ GE442.out) | exact HB.out)) hb)
   clear BK441
   clear BK442
   clear HB
   have BK441 := n0_
   have BK442 := n1_
   have HB := n2_
   clear n0_ n1_ n2_
   (try clear hb)
   (try clear hb2)
   (try clear hk)
   (try clear hi)
   refine hK.out _ _ ⟨(blk_cell BK441.out 0).trans rfl, (blk_cell BK441.out 1).trans rfl, (blk_cell BK441.out 2).trans rfl, (blk_cell BK441.out 3).trans rfl, (blk_cell BK441.out 4).trans rfl⟩ (fun hHeld => ?_)
   clear hK K
   refine norm_ (a' := ?_) ?_ ?_
   rotate_left
   ·show Act.put _ (some 18) _ = _
    simp only [Act.put, List.setIfInBounds_toArray, List.set_cons_zero, List.set_cons_succ, i64_w, i32_w]
    rfl
   refine pure_ (i := 13) (N := some 5) (v := ?_) (a' := ?_) #[true, true, true, true, true, true, true, true, true, true, true, true, true, true, false, false, false, false] rfl rfl (any_of HT_.out (by kernel_rfl)) (fun _ _ _ h => h) (Or.inl ⟨by rfl, ?_⟩) ?_ ?_
   rotate_left
   ·intro w'
    go_simp
    with_reducible rfl
   rotate_left
   ·simp only [Act.put, List.setIfInBounds_toArray, List.set_cons_zero, List.set_cons_succ, i64_w, i32_w]
    rfl
   refine pure_ (i := 14) (N := some 19) (v := ?_) (a' := ?_) #[true, true, true, true, true, true, true, true, true, true, true, true, true, true, true, false, false, false] rfl rfl (any_of HT_.out (by kernel_rfl)) (fun _ _ _ h => h) (Or.inl ⟨by rfl, ?_⟩) ?_ ?_
   rotate_left
   ·intro w'
    go_simp
    with_reducible rfl
   rotate_left
   ·simp only [Act.put, List.setIfInBounds_toArray, List.set_cons_zero, List.set_cons_succ, i64_w, i32_w]
    rfl
   refine pure_ (i := 15) (N := some 20) (v := ?_) (a' := ?_) #[true, true, true, true, true, true, true, true, true, true, true, true, true, true, true, true, false, false] rfl rfl (any_of HT_.out (by kernel_rfl)) (fun _ _ _ h => h) (Or.inl ⟨by rfl, ?_⟩) ?_ ?_
   rotate_left
   ·intro w'
    go_simp
    with_reducible rfl
   rotate_left
   ·simp only [Act.put, List.setIfInBounds_toArray, List.set_cons_zero, List.set_cons_succ, i64_w, i32_w]
    rfl
   refine pure_ (i := 16) (N := some 3) (v := ?_) (a' := ?_) #[true, true, true, true, true, true, true, true, true, true, true, true, true, true, true, true, true, false] rfl rfl (any_of HT_.out (by kernel_rfl)) (fun _ _ _ h => h) (Or.inl ⟨by rfl, ?_⟩) ?_ ?_
   rotate_left
   ·intro w'
    go_simp
    with_reducible rfl
   rotate_left
   ·simp only [Act.put, List.setIfInBounds_toArray, List.set_cons_zero, List.set_cons_succ, i64_w, i32_w]
    rfl
   refine pure_ (i := 17) (N := some 4) (v := ?_) (a' := ?_) #[true, true, true, true, true, true, true, true, true, true, true, true, true, true, true, true, true, true] rfl rfl (any_of HT_.out (by kernel_rfl)) (fun _ _ _ h => h) (Or.inl ⟨by rfl, ?_⟩) ?_ ?_
   rotate_left
   ·intro w'
    go_simp
    with_reducible rfl
   rotate_left
   ·simp only [Act.put, List.setIfInBounds_toArray, List.set_cons_zero, List.set_cons_succ, i64_w, i32_w]
    rfl
   refine done_ (done_of HT_.out (by kernel_rfl)) ?_
   try go_wp2
   have n0_ := Aside0.mk (blk_drew BK441.out)
   have n1_ := Aside0.mk (blk_drew BK442.out)
   have n2_ := Aside0.mk (below_drew1 HB.out)
   clear BK441
   clear BK442
   clear HB
   have BK441 := n0_
   have BK442 := n1_
   have HB := n2_
   clear n0_ n1_ n2_
   refine start_ (n := 9) (S := fun w' => w'.cell? ⟨gb441, 0, none⟩ = some (.slice A0_0 l0_0.length c0_0) ∧ w'.cell? ⟨gb441, 1, none⟩ = some (.int .u8 a0_1) ∧ w'.cell? ⟨gb441, 2, none⟩ = some (.int .u32 a0_2) ∧ w'.cell? ⟨gb441, 3, none⟩ = some (.slice A0_3 l0_3.length c0_3) ∧ w'.cell? ⟨gb441, 4, none⟩ = some (.string a0_4)) (ds := []) #[false, false, false, false, false, false, false, false, false] (by kernel_rfl) rfl rfl ⟨(blk_cell BK441.out 0).trans rfl, (blk_cell BK441.out 1).trans rfl, (blk_cell BK441.out 2).trans rfl, (blk_cell BK441.out 3).trans rfl, (blk_cell BK441.out 4).trans rfl⟩ (fun hHeld => ?_); refine with_tabW bolterlaw05_Record.tab2 bolterlaw05_Record.bits2 (fun HT_ HW_ => ?_)
   generalize w10.drew = w11 at BK441 BK442 HB hHeld ⊢
   refine pure_ (i := 0) (N := some 21) (v := ?_) (a' := ?_) #[true, false, false, false, false, false, false, false, false] rfl rfl (any_of HT_.out (by kernel_rfl)) (fun _ _ _ h => h) (Or.inl ⟨by rfl, ?_⟩) ?_ ?_
   rotate_left
   ·intro w'
    go_simp
    with_reducible rfl
   rotate_left
   ·simp only [Act.put, List.setIfInBounds_toArray, List.set_cons_zero, List.set_cons_succ, i64_w, i32_w]
    rfl
   refine pure_ (i := 3) (N := some 24) (v := ?_) (a' := ?_) #[true, false, false, true, false, false, false, false, false] rfl rfl (any_of HT_.out (by kernel_rfl)) (fun _ _ _ h => h) (Or.inl ⟨by rfl, ?_⟩) ?_ ?_
   rotate_left
   ·intro w'
    go_simp
    with_reducible rfl
   rotate_left
   ·simp only [Act.put, List.setIfInBounds_toArray, List.set_cons_zero, List.set_cons_succ, i64_w, i32_w]
    rfl
   refine pure_ (i := 4) (N := some 25) (v := ?_) (a' := ?_) #[true, false, false, true, true, false, false, false, false] rfl rfl (any_of HT_.out (by kernel_rfl)) (fun _ _ _ h => h) (Or.inl ⟨by rfl, ?_⟩) ?_ ?_
   rotate_left
   ·intro w'
    go_simp
    with_reducible rfl
   rotate_left
   ·simp only [Act.put, List.setIfInBounds_toArray, List.set_cons_zero, List.set_cons_succ, i64_w, i32_w]
    rfl
   refine pure_ (i := 6) (N := some 27) (v := ?_) (a' := ?_) #[true, false, false, true, true, false, true, false, false] rfl rfl (any_of HT_.out (by kernel_rfl)) (fun _ _ _ h => h) (Or.inl ⟨by rfl, ?_⟩) ?_ ?_
   rotate_left
   ·intro w'
    go_simp
    with_reducible rfl
   rotate_left
   ·simp only [Act.put, List.setIfInBounds_toArray, List.set_cons_zero, List.set_cons_succ, i64_w, i32_w]
    rfl
   refine take_ (i := 1) (N := some 22) (v := ?_) (a' := ?_) #[true, true, false, true, true, false, true, false, false] rfl rfl (take_ofW HT_.out HW_.out (by kernel_rfl)) (fun _ _ _ h => h) (Or.inl ⟨by rfl, ?_⟩) hHeld ?_ ?_
   rotate_left
   ·rintro w' ⟨s0, s1, s2, s3, s4⟩
    go_simp
    with_reducible rfl
   rotate_left
   ·simp only [Act.put, List.setIfInBounds_toArray, List.set_cons_zero, List.set_cons_succ, i64_w, i32_w]
    rfl
   refine take_ (i := 5) (N := some 26) (v := ?_) (a' := ?_) #[true, true, false, true, true, true, true, false, false] rfl rfl (take_ofW HT_.out HW_.out (by kernel_rfl)) (fun _ _ _ h => h) (Or.inl ⟨by rfl, ?_⟩) hHeld ?_ ?_
   rotate_left
   ·rintro w' ⟨s0, s1, s2, s3, s4⟩
    go_simp
    with_reducible rfl
   rotate_left
   ·simp only [Act.put, List.setIfInBounds_toArray, List.set_cons_zero, List.set_cons_succ, i64_w, i32_w]
    rfl
   refine one_ (i := 2) (N := some 23) #[true, true, true, true, true, true, true, false, false] rfl rfl (one_of HT_.out (by kernel_rfl)) (by decide) (fun K hK => ?_)
   refine goes_ Try.func16 (by kernel_rfl) rfl #[.slice A0_0 l0_0.length c0_0] (by rfl) rfl rfl (by (try simp only [List.map_toArray, List.map_cons, List.map_nil]); first | done | rfl | (simp only [List.length_drop, List.length_take]; rfl)) ?_
   with_reducible refine (bolterlaw02_Name.calls k _ _ l0_0 t445 _ ?side1 ?side2 A6.out).mono ?_
   (case side1 => repeat (first | exact (Kd.C_below HR0_0.out HB.out) | (with_reducible refine Kd.C_alloc ?_ _) | (with_reducible refine Kd.C_drewN ?_ _) | (with_reducible refine Kd.C_drew ?_)))
   (case side2 => exact HC0_0.out)
   rintro e w12 ⟨rfl, hb⟩
   refine ⟨_, rfl, ?_⟩
   have n0_ := Aside0.mk (blk_below (g := gb441) (o := .cells #[.slice A0_0 l0_0.length c0_0, .int .u8 a0_1, .int .u32 a0_2, .slice A0_3 l0_3.length c0_3, .string a0_4] 86 (0, 0)) (by (with_reducible repeat (first | refine blk_drewN ?_ _ | refine blk_drew ?_ | refine blk_alloc ?_ _)); exact BK441.out) hb)
   have n1_ := Aside0.mk (blk_below (g := gb442) (o := .cells #[.string (⟨#[]⟩ : ByteArray), .int .u16 0, .int .u32 0, .string (⟨#[]⟩ : ByteArray)] 43 (0, 0)) (by (with_reducible repeat (first | refine blk_drewN ?_ _ | refine blk_drew ?_ | refine blk_alloc ?_ _)); exact BK442.out) hb)
   have n2_ := Aside0.mk (below_step (by repeat (first | (with_reducible first | exact HB.out | apply below_alloc | apply pw_below_drewN | apply below_drew1 | refine below_set ?_ GE441.out | refine below_set ?_ GE442.out) | exact HB.out)) hb)
   clear BK441
   clear BK442
   clear HB
   have BK441 := n0_
   have BK442 := n1_
   have HB := n2_
   clear n0_ n1_ n2_
   (try clear hb)
   (try clear hb2)
   (try clear hk)
   (try clear hi)
   refine hK.out _ _ ⟨(blk_cell BK441.out 0).trans rfl, (blk_cell BK441.out 1).trans rfl, (blk_cell BK441.out 2).trans rfl, (blk_cell BK441.out 3).trans rfl, (blk_cell BK441.out 4).trans rfl⟩ (fun hHeld => ?_)
   clear hK K
   refine norm_ (a' := ?_) ?_ ?_
   rotate_left
   ·show Act.put _ (some 23) _ = _
    simp only [Act.put, List.setIfInBounds_toArray, List.set_cons_zero, List.set_cons_succ, i64_w, i32_w]
    rfl
   refine pure_ (i := 7) (N := some 28) (v := ?_) (a' := ?_) #[true, true, true, true, true, true, true, true, false] rfl rfl (any_of HT_.out (by kernel_rfl)) (fun _ _ _ h => h) (Or.inl ⟨by rfl, ?_⟩) ?_ ?_
   rotate_left
   ·intro w'
    go_simp
    with_reducible rfl
   rotate_left
   ·simp only [Act.put, List.setIfInBounds_toArray, List.set_cons_zero, List.set_cons_succ, i64_w, i32_w]
    rfl
   refine one_ (i := 8) (N := none) #[true, true, true, true, true, true, true, true, true] rfl rfl (one_of HT_.out (by kernel_rfl)) (by decide) (fun K hK => ?_)
   have hs13 : w12.cell? ⟨gb442, 0, none⟩ = some (.string (⟨#[]⟩ : ByteArray)) := (blk_cell BK442.out 0).trans rfl
   have hfs13 := blk_frozen BK442.out 0
   have hns13_0 := NB441_442.out
   have hms13_0 := NB442_441.out
   have hs14 : w12.cell? ⟨gb442, 1, none⟩ = some (.int .u16 0) := (blk_cell BK442.out 1).trans rfl
   have hfs14 := blk_frozen BK442.out 1
   have hns14_0 := NB441_442.out
   have hms14_0 := NB442_441.out
   have hs15 : w12.cell? ⟨gb442, 2, none⟩ = some (.int .u32 0) := (blk_cell BK442.out 2).trans rfl
   have hfs15 := blk_frozen BK442.out 2
   have hns15_0 := NB441_442.out
   have hms15_0 := NB442_441.out
   have hs16 : w12.cell? ⟨gb442, 3, none⟩ = some (.string (⟨#[]⟩ : ByteArray)) := (blk_cell BK442.out 3).trans rfl
   have hfs16 := blk_frozen BK442.out 3
   have hns16_0 := NB441_442.out
   have hms16_0 := NB442_441.out
   refine skip_ (w1 := ?_) (by rfl) rfl ?_ ?_
   rotate_left
   ·go_simp
    rfl
   refine hK.out _ _ ⟨((cell_far (p := ⟨gb442, _, none⟩) NB441_442.out _).trans (((cell_far (p := ⟨gb442, _, none⟩) NB441_442.out _).trans (((cell_far (p := ⟨gb442, _, none⟩) NB441_442.out _).trans (((cell_far (p := ⟨gb442, _, none⟩) NB441_442.out _).trans (hHeld.1)))))))), ((cell_far (p := ⟨gb442, _, none⟩) NB441_442.out _).trans (((cell_far (p := ⟨gb442, _, none⟩) NB441_442.out _).trans (((cell_far (p := ⟨gb442, _, none⟩) NB441_442.out _).trans (((cell_far (p := ⟨gb442, _, none⟩) NB441_442.out _).trans (hHeld.2.1)))))))), ((cell_far (p := ⟨gb442, _, none⟩) NB441_442.out _).trans (((cell_far (p := ⟨gb442, _, none⟩) NB441_442.out _).trans (((cell_far (p := ⟨gb442, _, none⟩) NB441_442.out _).trans (((cell_far (p := ⟨gb442, _, none⟩) NB441_442.out _).trans (hHeld.2.2.1)))))))), ((cell_far (p := ⟨gb442, _, none⟩) NB441_442.out _).trans (((cell_far (p := ⟨gb442, _, none⟩) NB441_442.out _).trans (((cell_far (p := ⟨gb442, _, none⟩) NB441_442.out _).trans (((cell_far (p := ⟨gb442, _, none⟩) NB441_442.out _).trans (hHeld.2.2.2.1)))))))), ((cell_far (p := ⟨gb442, _, none⟩) NB441_442.out _).trans (((cell_far (p := ⟨gb442, _, none⟩) NB441_442.out _).trans (((cell_far (p := ⟨gb442, _, none⟩) NB441_442.out _).trans (((cell_far (p := ⟨gb442, _, none⟩) NB441_442.out _).trans (hHeld.2.2.2.2))))))))⟩ (fun hHeld => ?_)
   clear hK K
   refine done_ (done_of HT_.out (by kernel_rfl)) ?_
   try go_wp2
   refine bodyPost_ret (results_cell_row rfl _ _ gb442 43 #[.string t445, .int .u16 t443, .int .u32 a0_2, .string t444] (0, 0) _ rfl (by (with_reducible repeat (first | refine blk_drewN ?_ _ | refine blk_drew ?_ | refine blk_alloc ?_ _)); refine blk_put (cs := #[.string t445, .int .u16 t443, .int .u32 a0_2, .string (⟨#[]⟩ : ByteArray)]) ?_ 3 _ rfl; (with_reducible repeat (first | refine blk_drewN ?_ _ | refine blk_drew ?_ | refine blk_alloc ?_ _)); refine blk_put (cs := #[.string t445, .int .u16 t443, .int .u32 0, .string (⟨#[]⟩ : ByteArray)]) ?_ 2 _ rfl; (with_reducible repeat (first | refine blk_drewN ?_ _ | refine blk_drew ?_ | refine blk_alloc ?_ _)); refine blk_put (cs := #[.string t445, .int .u16 0, .int .u32 0, .string (⟨#[]⟩ : ByteArray)]) ?_ 1 _ rfl; (with_reducible repeat (first | refine blk_drewN ?_ _ | refine blk_drew ?_ | refine blk_alloc ?_ _)); refine blk_put (cs := #[.string (⟨#[]⟩ : ByteArray), .int .u16 0, .int .u32 0, .string (⟨#[]⟩ : ByteArray)]) ?_ 0 _ rfl; (with_reducible repeat (first | refine blk_drewN ?_ _ | refine blk_drew ?_ | refine blk_alloc ?_ _)); exact BK442.out) Try.underlying43 rfl (by kernel_rfl)) rfl ?_
   exact ⟨by first | rfl | (simp [errW_none, errW_some] <;> rfl) | (simp only [← hji2]; first | rfl | (simp [errW_none, errW_some] <;> rfl)) | (simp [*, errW_none, errW_some] <;> rfl), by repeat (first | (with_reducible first | exact HB.out | apply below_alloc | apply pw_below_drewN | apply below_drew1 | refine below_set ?_ GE441.out | refine below_set ?_ GE442.out) | exact HB.out)⟩
  ·rw [if_neg c4] at H
   exact absurd H (by simp)
 ·rw [if_neg c3] at H
  exact absurd H (by simp)

end Go.Proofs.Ytdkjlbbbdjkhbaa.PAll

namespace Go.Proofs.Ytdkjlbbbdjkhbaa.PAll
open Go.RowKit Go.Proofs.YtdkjlbbbdjkhbaaW.PrintWords Go.Proofs.YtdkjlbbbdjkhbaaW.PrintLast Go.Proofs.YtdkjlbbbdjkhbaaW.PrintMore
attribute [local go_sem] max2_int min2_int max_two min_two max_three min_three max_four min_four   -- for this text's walks alone
open Go.Proofs.Ytdkjlbbbdjkhbaa.Hand

/-! ### bolterlaw05_Records: function 21 -/
def bolterlaw05_Records.l0 : Nat → Int → List (S43) → List (S86) → Int → Int → Option ((List (S43)))
 | 0, _, _, _, _, _ => none
 | k + 1, x1, x5, x8, x9, x10 => if x10 < x9 then (if 0 ≤ x10 then (if x10 < (x8.length : Int) then (if x10 < x1 then ((bolterlaw05_Record.f k ((rd_T86 x8 x10).f0) ((rd_T86 x8 x10).f1) ((rd_T86 x8 x10).f2) ((rd_T86 x8 x10).f3) ((rd_T86 x8 x10).f4)).bind fun bt448 => (if x5.length < 3518437208883 then (bolterlaw05_Records.l0 k x1 (x5 ++ [(⟨bt448.1, bt448.2.1, bt448.2.2.1, bt448.2.2.2⟩ : S43)]) x8 x9 (wrap64 (x10 + 1))) else (none))) else (bolterlaw05_Records.l0 k x1 x5 x8 x9 (wrap64 (x10 + 1)))) else (none)) else (none)) else (some x5)
def bolterlaw05_Records.f (k : Nat) (l0 : List (S86)) (a1 : Int) : Option ((List (S43))) := bolterlaw05_Records.l0 k a1 ([] : List (S43)) l0 (l0.length : Int) 0
theorem bolterlaw05_Records.mono_l : ∀ k, (∀ y0 y1 y2 y3 y4, LeO (bolterlaw05_Records.l0 k y0 y1 y2 y3 y4) (bolterlaw05_Records.l0 (k + 1) y0 y1 y2 y3 y4))
 | 0 => fun _ _ _ _ _ r h => by simp [bolterlaw05_Records.l0] at h
 | k + 1 => by
  have ih0 := bolterlaw05_Records.mono_l k
  ·intro y0 y1 y2 y3 y4
   unfold bolterlaw05_Records.l0
   repeat' first
   | (with_reducible exact ih0 _ _ _ _ _)
   | (with_reducible exact bolterlaw05_Record.mono _ _ _ _ _ _)
   | (with_reducible exact LeO.refl _)
   | (with_reducible exact LeO.none _)
   | (with_reducible refine LeO.ite ?_ ?_)
   | (with_reducible refine LeO.bind ?_ (fun _ => ?_))
   | exact ih0 _ _ _ _ _
   | exact bolterlaw05_Record.mono _ _ _ _ _ _
   | exact LeO.none _
   | refine LeO.ite ?_ ?_
   | refine LeO.bind ?_ (fun _ => ?_)
theorem bolterlaw05_Records.mono : ∀ a0 a1 k, LeO (bolterlaw05_Records.f k a0 a1) (bolterlaw05_Records.f (k + 1) a0 a1) := by
 intro a0 a1 k
 have ih0 := bolterlaw05_Records.mono_l k
 unfold bolterlaw05_Records.f
 repeat' first
   | (with_reducible exact ih0 _ _ _ _ _)
   | (with_reducible exact bolterlaw05_Record.mono _ _ _ _ _ _)
   | (with_reducible exact LeO.refl _)
   | (with_reducible exact LeO.none _)
   | (with_reducible refine LeO.ite ?_ ?_)
   | (with_reducible refine LeO.bind ?_ (fun _ => ?_))
   | exact ih0 _ _ _ _ _
   | exact bolterlaw05_Record.mono _ _ _ _ _ _
   | exact LeO.none _
   | refine LeO.ite ?_ ?_
   | refine LeO.bind ?_ (fun _ => ?_)
set_option maxHeartbeats 8000000 in
set_option maxRecDepth 100000 in
theorem bolterlaw05_Records.calls (k : Nat) (A0 : Option Addr) (c0 : Nat) (l0 : List (S86)) (a1 : Int) (r : List (S43)) (w : World) (hr0 : Kd.C k86 w A0 l0.length l0) (hc0 : l0.length ≤ c0) (h : bolterlaw05_Records.f k l0 a1 = some r) :
  Calls Try.prog 21 #[.slice A0 l0.length c0, .int .i64 a1] w fun e w' => ∃ v0_ : Value, e = .returned (v0_) ∧ Kd.R k43 43 w' w.heap.size (fun _ => True) v0_ r ∧ Below w.heap.size w w' := by
 have hu86 := Try.underlying86
 have HR0 := Aside0.mk hr0
 have HC0 := Aside0.mk hc0
 clear hr0 hc0
 have HB := Aside0.mk (Below.refl w.heap.size w)
 have H : (bolterlaw05_Records.l0 k a1 ([] : List (S43)) l0 (l0.length : Int) 0) = some r := h
 clear h
 have H' := Aside0.mk H
 clear H
 go_enter Try.func21, Try.ntmps21
 go_wp2
 go_loopg [5, 10] k (fun kq v5 v10 w' => ∃ (x5_1 : List (S43)) (x10_1 : Int), v10 = .int .i64 x10_1 ∧ Aside0 (bolterlaw05_Records.l0 kq a1 x5_1 l0 (l0.length : Int) x10_1 = some r) ∧ Aside0 (kq ≤ k) ∧ Aside0 (Kd.R k43 43 w' w.heap.size (fun _ => True) v5 x5_1) ∧ Aside0 (Below w.heap.size w w'))
 case atStart => exact ⟨(([] : List (S43))), (0), (by first | rfl | (simp; done) | (simp [*]; done)), H', ⟨Nat.le_refl _⟩, ⟨by first | exact Kd.R_nil _ _ _ _ _ | exact Kd.N_nil _ _ _ _ _ | exact Kd.V_nil _ _ _ _ _ | exact Kd.Q_nil _ _ _ _ _ | exact Kd.S_nil _ _ _ _ _⟩, ⟨by repeat (first | (with_reducible first | exact HB.out | apply below_alloc | apply pw_below_drewN | apply below_drew1) | exact HB.out)⟩⟩
 case round =>
  clear H'
  try clear c2
  try clear p2
  obtain ⟨x5_1, x10_1, rfl, HA, HK1, HO_5, HB⟩ := hrel
  cases gk with
  | zero => exact absurd HA.out (by simp [bolterlaw05_Records.l0])
  | succ k1 =>
   have H := HA.out
   clear HA
   simp only [bolterlaw05_Records.l0] at H
   by_cases c3 : x10_1 < (l0.length : Int)
   ·rw [if_pos c3] at H
    have c3b0 : decide (x10_1 < (l0.length : Int)) = true := decide_eq_true c3
    clear c3
    by_cases c4 : 0 ≤ x10_1
    ·rw [if_pos c4] at H
     have c4b0 : decide (0 ≤ x10_1) = true := decide_eq_true c4
     clear c4
     by_cases c5 : x10_1 < (l0.length : Int)
     ·rw [if_pos c5] at H
      have c5b0 : decide (x10_1 < (l0.length : Int)) = true := decide_eq_true c5
      clear c5
      by_cases c6 : x10_1 < a1
      ·rw [if_pos c6] at H
       have c6b0 : decide (x10_1 < a1) = true := decide_eq_true c6
       clear c6
       replace H := Option.bind_eq_some_iff.mp H
       obtain ⟨⟨t448, t449, t450, t451⟩, A70, H⟩ := H
       replace H : (if x5_1.length < 3518437208883 then (bolterlaw05_Records.l0 k1 a1 (x5_1 ++ [(⟨t448, t449, t450, t451⟩ : S43)]) l0 (l0.length : Int) (wrap64 (x10_1 + 1))) else (none)) = some r := H
       have A7 := Aside0.mk A70
       clear A70
       by_cases c8 : x5_1.length < 3518437208883
       ·rw [if_pos c8] at H
        have LMc8 := Aside0.mk c8
        clear c8
        obtain ⟨y452, hy452⟩ : ∃ y_ : List (S43), y_ = (x5_1 ++ [(⟨t448, t449, t450, t451⟩ : S43)]) := ⟨_, rfl⟩
        replace H : (bolterlaw05_Records.l0 k1 a1 y452 l0 (l0.length : Int) (wrap64 (x10_1 + 1))) = some r := by first | (rw [hy452]; with_reducible exact H) | (have H2_ := (Option.bind_some _ _).symm.trans H; rw [hy452]; with_reducible exact H2_) | (have H2_ := (Option.bind_some _ _).symm.trans H; with_reducible exact H2_) | with_reducible exact H | (rw [hy452]; exact H) | exact H
        have Ny452 := Aside0.mk hy452
        clear hy452
        have H' := Aside0.mk H
        clear H
        have p446 : 0 ≤ (x10_1 : Int) := of_decide_eq_true (by first | (with_reducible assumption) | assumption)
        have q446 : x10_1 < (l0.length : Int) := of_decide_eq_true (by first | (with_reducible assumption) | assumption)
        obtain ⟨ad446, A446_0, c446_0, A446_3, c446_3, e446, hx446_0, hx446_1, hx446_2, hx446_3, hx446_4, hl446_0, hi446_0, hl446_3, hi446_3⟩ := at_T86 HR0.out x10_1 p446 q446
        cases e446
        replace hx446_0 := (HB.out.cell (World.block_lt_of_cell? w _ hx446_0)).trans hx446_0
        replace hx446_1 := (HB.out.cell (World.block_lt_of_cell? w _ hx446_1)).trans hx446_1
        replace hx446_2 := (HB.out.cell (World.block_lt_of_cell? w _ hx446_2)).trans hx446_2
        replace hx446_3 := (HB.out.cell (World.block_lt_of_cell? w _ hx446_3)).trans hx446_3
        replace hx446_4 := (HB.out.cell (World.block_lt_of_cell? w _ hx446_4)).trans hx446_4
        have HR446_0 := Aside0.mk hi446_0
        have HC446_0 := Aside0.mk hl446_0
        clear hi446_0 hl446_0
        have HR446_3 := Aside0.mk hi446_3
        have HC446_3 := Aside0.mk hl446_3
        clear hi446_3 hl446_3
        replace p446 := eq_true p446
        replace q446 := eq_true q446
        go_wp2_with (first | ((with_reducible refine gate_dst (N := 7) rfl ?_); refine box_event ?hg (N := 7) ?hd (cs := #[.slice none 0 0, .int .u8 0, .int .u32 0, .slice none 0 0, .string (⟨#[]⟩ : ByteArray)]) (t := 86) ?hr ?_; (case hd => rfl); (case hg => rfl); (case hr => first | (go_simp; done) | (go_simp; rfl)); intro gb447 hg w9 hbox hb; have n0_ := Aside0.mk (Kd.R_below (by (with_reducible repeat (first | apply Kd.R_alloc | apply Kd.R_drewN | apply Kd.R_drew)); exact HO_5.out) hb); have n1_ := Aside0.mk (below_step (by repeat (first | (with_reducible first | exact HB.out | apply below_alloc | apply pw_below_drewN | apply below_drew1) | exact HB.out)) hb); have n2_ := Aside0.mk (hbox); have n3_ := Aside0.mk ((by rw [hg]; exact (below_size (by repeat (first | (with_reducible first | exact HB.out | apply below_alloc | apply pw_below_drewN | apply below_drew1) | exact HB.out))) : w.heap.size ≤ gb447)); have n4_ := Aside0.mk ((by rw [hg]; exact (below_size (by repeat (first | (with_reducible first | exact HB.out | apply below_alloc | apply pw_below_drewN | apply below_drew1) | exact HB.out))) : w.heap.size ≤ gb447)); clear HO_5; clear HB; have HO_5 := n0_; have HB := n1_; have BK447 := n2_; have GW447 := n3_; have GE447 := n4_; clear n0_ n1_ n2_ n3_ n4_; clear hb hbox hg; have hcz10_0 : w9.cell? ⟨gb447, 0, none⟩ = some (.slice none 0 0) := (blk_cell BK447.out 0).trans rfl; have hcz10_1 : w9.cell? ⟨gb447, 1, none⟩ = some (.int .u8 0) := (blk_cell BK447.out 1).trans rfl; have hcz10_2 : w9.cell? ⟨gb447, 2, none⟩ = some (.int .u32 0) := (blk_cell BK447.out 2).trans rfl; have hcz10_3 : w9.cell? ⟨gb447, 3, none⟩ = some (.slice none 0 0) := (blk_cell BK447.out 3).trans rfl; have hcz10_4 : w9.cell? ⟨gb447, 4, none⟩ = some (.string (⟨#[]⟩ : ByteArray)) := (blk_cell BK447.out 4).trans rfl; have hfz10_0 := blk_frozen BK447.out 0; have hfz10_1 := blk_frozen BK447.out 1; have hfz10_2 := blk_frozen BK447.out 2; have hfz10_3 := blk_frozen BK447.out 3; have hfz10_4 := blk_frozen BK447.out 4) | ((with_reducible refine gate_callee (f := 41) rfl ?_); refine goesL_ (some 20) rfl rfl Try.func41 (by kernel_rfl) rfl #[.agg #[.slice A446_0 ((rd_T86 l0 x10_1).f0).length c446_0, .int .u8 ((rd_T86 l0 x10_1).f1), .int .u32 ((rd_T86 l0 x10_1).f2), .slice A446_3 ((rd_T86 l0 x10_1).f3).length c446_3, .string ((rd_T86 l0 x10_1).f4)]] rfl (by (try simp only [List.map_toArray, List.map_cons, List.map_nil]); first | done | rfl | (simp only [List.length_drop, List.length_take]; rfl)) ?_; (with_reducible refine (bolterlaw05_Record.calls k1 _ _ ((rd_T86 l0 x10_1).f0) ((rd_T86 l0 x10_1).f1) ((rd_T86 l0 x10_1).f2) _ _ ((rd_T86 l0 x10_1).f3) ((rd_T86 l0 x10_1).f4) t448 t449 t450 t451 _ ?side1 ?side2 ?side3 ?side4 A7.out).mono ?_); (case side1 => exact Kd.C_below HR446_0.out (by repeat (first | (with_reducible first | exact HB.out | apply below_alloc | apply pw_below_drewN | apply below_drew1 | refine below_set ?_ GE447.out) | exact HB.out))); (case side2 => exact HC446_0.out); (case side3 => exact Kd.C_below HR446_3.out (by repeat (first | (with_reducible first | exact HB.out | apply below_alloc | apply pw_below_drewN | apply below_drew1 | refine below_set ?_ GE447.out) | exact HB.out))); (case side4 => exact HC446_3.out); rintro e w11 ⟨rfl, hb⟩; refine ⟨_, rfl, ?_⟩; have n0_ := Aside0.mk (Kd.R_below (by (with_reducible repeat (first | apply Kd.R_alloc | apply Kd.R_drewN | apply Kd.R_drew)); exact (Kd.R_mono (Kd.R_far (p := ⟨gb447, 4, none⟩) (Kd.R_far (p := ⟨gb447, 3, none⟩) (Kd.R_far (p := ⟨gb447, 2, none⟩) (Kd.R_far (p := ⟨gb447, 1, none⟩) (Kd.R_far (p := ⟨gb447, 0, none⟩) (Kd.R_types HO_5.out BK447.out (by decide)) (fun _ hk => hk.2) (.slice A446_0 ((rd_T86 l0 x10_1).f0).length c446_0)) (fun _ hk => hk.2) (.int .u8 ((rd_T86 l0 x10_1).f1))) (fun _ hk => hk.2) (.int .u32 ((rd_T86 l0 x10_1).f2))) (fun _ hk => hk.2) (.slice A446_3 ((rd_T86 l0 x10_1).f3).length c446_3)) (fun _ hk => hk.2) (.string ((rd_T86 l0 x10_1).f4))) (fun _ h_ => h_.1))) hb); have n1_ := Aside0.mk (blk_below (g := gb447) (o := .cells #[.slice A446_0 ((rd_T86 l0 x10_1).f0).length c446_0, .int .u8 ((rd_T86 l0 x10_1).f1), .int .u32 ((rd_T86 l0 x10_1).f2), .slice A446_3 ((rd_T86 l0 x10_1).f3).length c446_3, .string ((rd_T86 l0 x10_1).f4)] 86 (0, 0)) (by (with_reducible repeat (first | refine blk_drewN ?_ _ | refine blk_drew ?_ | refine blk_alloc ?_ _)); refine blk_put (cs := #[.slice A446_0 ((rd_T86 l0 x10_1).f0).length c446_0, .int .u8 ((rd_T86 l0 x10_1).f1), .int .u32 ((rd_T86 l0 x10_1).f2), .slice A446_3 ((rd_T86 l0 x10_1).f3).length c446_3, .string (⟨#[]⟩ : ByteArray)]) ?_ 4 _ rfl; (with_reducible repeat (first | refine blk_drewN ?_ _ | refine blk_drew ?_ | refine blk_alloc ?_ _)); refine blk_put (cs := #[.slice A446_0 ((rd_T86 l0 x10_1).f0).length c446_0, .int .u8 ((rd_T86 l0 x10_1).f1), .int .u32 ((rd_T86 l0 x10_1).f2), .slice none 0 0, .string (⟨#[]⟩ : ByteArray)]) ?_ 3 _ rfl; (with_reducible repeat (first | refine blk_drewN ?_ _ | refine blk_drew ?_ | refine blk_alloc ?_ _)); refine blk_put (cs := #[.slice A446_0 ((rd_T86 l0 x10_1).f0).length c446_0, .int .u8 ((rd_T86 l0 x10_1).f1), .int .u32 0, .slice none 0 0, .string (⟨#[]⟩ : ByteArray)]) ?_ 2 _ rfl; (with_reducible repeat (first | refine blk_drewN ?_ _ | refine blk_drew ?_ | refine blk_alloc ?_ _)); refine blk_put (cs := #[.slice A446_0 ((rd_T86 l0 x10_1).f0).length c446_0, .int .u8 0, .int .u32 0, .slice none 0 0, .string (⟨#[]⟩ : ByteArray)]) ?_ 1 _ rfl; (with_reducible repeat (first | refine blk_drewN ?_ _ | refine blk_drew ?_ | refine blk_alloc ?_ _)); refine blk_put (cs := #[.slice none 0 0, .int .u8 0, .int .u32 0, .slice none 0 0, .string (⟨#[]⟩ : ByteArray)]) ?_ 0 _ rfl; (with_reducible repeat (first | refine blk_drewN ?_ _ | refine blk_drew ?_ | refine blk_alloc ?_ _)); exact BK447.out) hb); have n2_ := Aside0.mk (below_step (by repeat (first | (with_reducible first | exact HB.out | apply below_alloc | apply pw_below_drewN | apply below_drew1 | refine below_set ?_ GE447.out) | exact HB.out)) hb); clear HO_5; clear BK447; clear HB; have HO_5 := n0_; have BK447 := n1_; have HB := n2_; clear n0_ n1_ n2_; (try clear hb); (try clear hb2); (try clear hk); (try clear hi)) | ((with_reducible refine gate_builtin (b := .append) (xs := #[.tmp 18, .tmp 21]) rfl ?_); at_builtin; refine Kd.R_append k43 (w0 := w) w.heap.size rfl (.tmp 18) (.tmp 21) 26 43 (.agg #[(.string ⟨#[]⟩), (.int .u16 0), (.int .u32 0), (.string ⟨#[]⟩)]) 40 rfl Try.underlying26 info43 rfl (by decide) (by omega) u5 x5_1 (⟨t448, t449, t450, t451⟩ : S43) [.string t448, .int .u16 t449, .int .u32 t450, .string t451] (fun _ => True) (fun _ => False) rfl rfl ?aP (fun _ hk => hk.elim) ?aF ?aO ?aB ?aS ?aL ?_; (case aP => exact k43_mkM _ _ _ (⟨t448, t449, t450, t451⟩ : S43)); (case aB => exact (by repeat (first | (with_reducible first | exact HB.out | apply below_alloc | apply pw_below_drewN | apply below_drew1 | refine below_set ?_ GE447.out) | exact HB.out))); (case aF => exact (fun _ _ => trivial)); (case aO => exact (by (with_reducible repeat (first | apply Kd.R_alloc | apply Kd.R_drewN | apply Kd.R_drew)); exact HO_5.out)); (case aS => exact (below_size (by repeat (first | (with_reducible first | exact HB.out | apply below_alloc | apply pw_below_drewN | apply below_drew1 | refine below_set ?_ GE447.out) | exact HB.out)))); (case aL => have := LMc8.out; omega); intro v453 w12 ho hb hg hat; rw [← Ny452.out] at ho; have n0_ := Aside0.mk (blk_grown (g := gb447) (o := .cells #[.slice A446_0 ((rd_T86 l0 x10_1).f0).length c446_0, .int .u8 ((rd_T86 l0 x10_1).f1), .int .u32 ((rd_T86 l0 x10_1).f2), .slice A446_3 ((rd_T86 l0 x10_1).f3).length c446_3, .string ((rd_T86 l0 x10_1).f4)] 86 (0, 0)) (by (with_reducible repeat (first | refine blk_drewN ?_ _ | refine blk_drew ?_ | refine blk_alloc ?_ _)); exact BK447.out) hg (Kd.R_ne HO_5.out BK447.out (by decide))); have n1_ := Aside0.mk (hb); have n2_ := Aside0.mk (ho); clear BK447; clear HB; clear HO_5; have BK447 := n0_; have HB := n1_; have HO454 := n2_; clear n0_ n1_ n2_; clear ho hb hg hat))
        go_roundg k1
        case measure => have := HK1.out; omega
        case rel => exact ⟨(y452), (wrap64 (x10_1 + 1)), (by first | rfl | (simp; done) | (simp [*]; done)), H', ⟨by have := HK1.out; omega⟩, ⟨by (with_reducible repeat (first | apply Kd.R_alloc | apply Kd.R_drewN | apply Kd.R_drew)); exact HO454.out⟩, ⟨by repeat (first | (with_reducible first | exact HB.out | apply below_alloc | apply pw_below_drewN | apply below_drew1 | refine below_set ?_ GE447.out) | exact HB.out)⟩⟩
       ·rw [if_neg c8] at H
        exact absurd H (by simp)
      ·rw [if_neg c6] at H
       have c6b0 : decide (x10_1 < a1) = false := decide_eq_false c6
       clear c6
       have H' := Aside0.mk H
       clear H
       have p446 : 0 ≤ (x10_1 : Int) := of_decide_eq_true (by first | (with_reducible assumption) | assumption)
       have q446 : x10_1 < (l0.length : Int) := of_decide_eq_true (by first | (with_reducible assumption) | assumption)
       obtain ⟨ad446, A446_0, c446_0, A446_3, c446_3, e446, hx446_0, hx446_1, hx446_2, hx446_3, hx446_4, hl446_0, hi446_0, hl446_3, hi446_3⟩ := at_T86 HR0.out x10_1 p446 q446
       cases e446
       replace hx446_0 := (HB.out.cell (World.block_lt_of_cell? w _ hx446_0)).trans hx446_0
       replace hx446_1 := (HB.out.cell (World.block_lt_of_cell? w _ hx446_1)).trans hx446_1
       replace hx446_2 := (HB.out.cell (World.block_lt_of_cell? w _ hx446_2)).trans hx446_2
       replace hx446_3 := (HB.out.cell (World.block_lt_of_cell? w _ hx446_3)).trans hx446_3
       replace hx446_4 := (HB.out.cell (World.block_lt_of_cell? w _ hx446_4)).trans hx446_4
       have HR446_0 := Aside0.mk hi446_0
       have HC446_0 := Aside0.mk hl446_0
       clear hi446_0 hl446_0
       have HR446_3 := Aside0.mk hi446_3
       have HC446_3 := Aside0.mk hl446_3
       clear hi446_3 hl446_3
       replace p446 := eq_true p446
       replace q446 := eq_true q446
       go_wp2_with (first | ((with_reducible refine gate_dst (N := 7) rfl ?_); refine box_event ?hg (N := 7) ?hd (cs := #[.slice none 0 0, .int .u8 0, .int .u32 0, .slice none 0 0, .string (⟨#[]⟩ : ByteArray)]) (t := 86) ?hr ?_; (case hd => rfl); (case hg => rfl); (case hr => first | (go_simp; done) | (go_simp; rfl)); intro gb447 hg w13 hbox hb; have n0_ := Aside0.mk (Kd.R_below (by (with_reducible repeat (first | apply Kd.R_alloc | apply Kd.R_drewN | apply Kd.R_drew)); exact HO_5.out) hb); have n1_ := Aside0.mk (below_step (by repeat (first | (with_reducible first | exact HB.out | apply below_alloc | apply pw_below_drewN | apply below_drew1) | exact HB.out)) hb); have n2_ := Aside0.mk (hbox); have n3_ := Aside0.mk ((by rw [hg]; exact (below_size (by repeat (first | (with_reducible first | exact HB.out | apply below_alloc | apply pw_below_drewN | apply below_drew1) | exact HB.out))) : w.heap.size ≤ gb447)); have n4_ := Aside0.mk ((by rw [hg]; exact (below_size (by repeat (first | (with_reducible first | exact HB.out | apply below_alloc | apply pw_below_drewN | apply below_drew1) | exact HB.out))) : w.heap.size ≤ gb447)); clear HO_5; clear HB; have HO_5 := n0_; have HB := n1_; have BK447 := n2_; have GW447 := n3_; have GE447 := n4_; clear n0_ n1_ n2_ n3_ n4_; clear hb hbox hg; have hcz14_0 : w13.cell? ⟨gb447, 0, none⟩ = some (.slice none 0 0) := (blk_cell BK447.out 0).trans rfl; have hcz14_1 : w13.cell? ⟨gb447, 1, none⟩ = some (.int .u8 0) := (blk_cell BK447.out 1).trans rfl; have hcz14_2 : w13.cell? ⟨gb447, 2, none⟩ = some (.int .u32 0) := (blk_cell BK447.out 2).trans rfl; have hcz14_3 : w13.cell? ⟨gb447, 3, none⟩ = some (.slice none 0 0) := (blk_cell BK447.out 3).trans rfl; have hcz14_4 : w13.cell? ⟨gb447, 4, none⟩ = some (.string (⟨#[]⟩ : ByteArray)) := (blk_cell BK447.out 4).trans rfl; have hfz14_0 := blk_frozen BK447.out 0; have hfz14_1 := blk_frozen BK447.out 1; have hfz14_2 := blk_frozen BK447.out 2; have hfz14_3 := blk_frozen BK447.out 3; have hfz14_4 := blk_frozen BK447.out 4))
       go_roundg k1
       case measure => have := HK1.out; omega
       case rel => exact ⟨(x5_1), (wrap64 (x10_1 + 1)), (by first | rfl | (simp; done) | (simp [*]; done)), H', ⟨by have := HK1.out; omega⟩, ⟨by (with_reducible repeat (first | apply Kd.R_alloc | apply Kd.R_drewN | apply Kd.R_drew)); exact Kd.R_mono (Kd.R_far (p := ⟨gb447, 4, none⟩) (Kd.R_far (p := ⟨gb447, 3, none⟩) (Kd.R_far (p := ⟨gb447, 2, none⟩) (Kd.R_far (p := ⟨gb447, 1, none⟩) (Kd.R_far (p := ⟨gb447, 0, none⟩) (Kd.R_types HO_5.out BK447.out (by decide)) (fun _ hk => hk.2) (.slice A446_0 ((rd_T86 l0 x10_1).f0).length c446_0)) (fun _ hk => hk.2) (.int .u8 ((rd_T86 l0 x10_1).f1))) (fun _ hk => hk.2) (.int .u32 ((rd_T86 l0 x10_1).f2))) (fun _ hk => hk.2) (.slice A446_3 ((rd_T86 l0 x10_1).f3).length c446_3)) (fun _ hk => hk.2) (.string ((rd_T86 l0 x10_1).f4))) (fun _ hk => trivial)⟩, ⟨by repeat (first | (with_reducible first | exact HB.out | apply below_alloc | apply pw_below_drewN | apply below_drew1 | refine below_set ?_ GE447.out) | exact HB.out)⟩⟩
     ·rw [if_neg c5] at H
      exact absurd H (by simp)
    ·rw [if_neg c4] at H
     exact absurd H (by simp)
   ·rw [if_neg c3] at H
    have c3b0 : decide (x10_1 < (l0.length : Int)) = false := decide_eq_false c3
    clear c3
    obtain rfl := Option.some.inj H
    go_wp2
    go_ret
    exact ⟨_, by first | rfl | (simp [errW_none, errW_some] <;> rfl) | (simp [*, errW_none, errW_some] <;> rfl), by (with_reducible repeat (first | apply Kd.R_alloc | apply Kd.R_drewN | apply Kd.R_drew)); exact HO_5.out, by repeat (first | (with_reducible first | exact HB.out | apply below_alloc | apply pw_below_drewN | apply below_drew1) | exact HB.out)⟩

end Go.Proofs.Ytdkjlbbbdjkhbaa.PAll

namespace Go.Proofs.Ytdkjlbbbdjkhbaa.PAll
open Go.RowKit Go.Proofs.YtdkjlbbbdjkhbaaW.PrintWords Go.Proofs.YtdkjlbbbdjkhbaaW.PrintLast Go.Proofs.YtdkjlbbbdjkhbaaW.PrintMore
attribute [local go_sem] max2_int min2_int max_two min_two max_three min_three max_four min_four   -- for this text's walks alone
open Go.Proofs.Ytdkjlbbbdjkhbaa.Hand

/-! ### bolterlaw14_Target: function 15 -/
def bolterlaw14_Target.f (k : Nat) (a0 : Int) (l1 : List Int) : Option (ByteArray) := (some (([(([] : List ByteArray)), (([(⟨#[42]⟩ : ByteArray)] : List ByteArray)), (([(⟨#[114, 112, 122, 45, 112, 97, 115, 115, 116, 104, 114, 117]⟩ : ByteArray)] : List ByteArray)), (([(⟨#[114, 112, 122, 45, 100, 114, 111, 112]⟩ : ByteArray)] : List ByteArray)), (([(⟨#[114, 112, 122, 45, 116, 99, 112, 45, 111, 110, 108, 121]⟩ : ByteArray)] : List ByteArray)), (([(⟨#[42]⟩ : ByteArray), (⟨#[111, 114, 103]⟩ : ByteArray)] : List ByteArray))] : List (List ByteArray)) : List (List ByteArray))).bind fun y494 => (if (Int.tmod a0 8) < 6 then (if 0 ≤ (Int.tmod a0 8) then (if (Int.tmod a0 8) < (y494.length : Int) then ((name_Make.f (rd_L7 y494 (Int.tmod a0 8))).bind fun bt498 => (some bt498.1)) else (none)) else (none)) else ((bolterlaw02_Name.f k l1).bind fun t500 => (some t500)))
theorem bolterlaw14_Target.mono : ∀ a0 a1 k, LeO (bolterlaw14_Target.f k a0 a1) (bolterlaw14_Target.f (k + 1) a0 a1) := by
 intro a0 a1 k
 unfold bolterlaw14_Target.f
 repeat' first
   | (with_reducible exact bolterlaw02_Name.mono _ _)
   | (with_reducible exact LeO.refl _)
   | (with_reducible exact LeO.none _)
   | (with_reducible refine LeO.ite ?_ ?_)
   | (with_reducible refine LeO.bind ?_ (fun _ => ?_))
   | exact bolterlaw02_Name.mono _ _
   | exact LeO.none _
   | refine LeO.ite ?_ ?_
   | refine LeO.bind ?_ (fun _ => ?_)
set_option maxHeartbeats 8000000 in
set_option maxRecDepth 100000 in
theorem bolterlaw14_Target.calls (k : Nat) (a0 : Int) (A1 : Option Addr) (c1 : Nat) (l1 : List Int) (r : ByteArray) (w : World) (hr1 : Kd.C (Kd.int .u8) w A1 l1.length l1) (hc1 : l1.length ≤ c1) (h : bolterlaw14_Target.f k a0 l1 = some r) :
  Calls Try.prog 15 #[.int .u8 a0, .slice A1 l1.length c1] w fun e w' => e = .returned (.string r) ∧ Below w.heap.size w w' := by
 have HR1 := Aside0.mk hr1
 have HC1 := Aside0.mk hc1
 clear hr1 hc1
 have HB := Aside0.mk (Below.refl w.heap.size w)
 have H : ((some (([(([] : List ByteArray)), (([(⟨#[42]⟩ : ByteArray)] : List ByteArray)), (([(⟨#[114, 112, 122, 45, 112, 97, 115, 115, 116, 104, 114, 117]⟩ : ByteArray)] : List ByteArray)), (([(⟨#[114, 112, 122, 45, 100, 114, 111, 112]⟩ : ByteArray)] : List ByteArray)), (([(⟨#[114, 112, 122, 45, 116, 99, 112, 45, 111, 110, 108, 121]⟩ : ByteArray)] : List ByteArray)), (([(⟨#[42]⟩ : ByteArray), (⟨#[111, 114, 103]⟩ : ByteArray)] : List ByteArray))] : List (List ByteArray)) : List (List ByteArray))).bind fun y494 => (if (Int.tmod a0 8) < 6 then (if 0 ≤ (Int.tmod a0 8) then (if (Int.tmod a0 8) < (y494.length : Int) then ((name_Make.f (rd_L7 y494 (Int.tmod a0 8))).bind fun bt498 => (some bt498.1)) else (none)) else (none)) else ((bolterlaw02_Name.f k l1).bind fun t500 => (some t500)))) = some r := h
 clear h
 obtain ⟨y476, hy476⟩ : ∃ y_ : List ByteArray, y_ = (([] : List ByteArray)) := ⟨_, rfl⟩
 replace H : ((some (([y476, (([(⟨#[42]⟩ : ByteArray)] : List ByteArray)), (([(⟨#[114, 112, 122, 45, 112, 97, 115, 115, 116, 104, 114, 117]⟩ : ByteArray)] : List ByteArray)), (([(⟨#[114, 112, 122, 45, 100, 114, 111, 112]⟩ : ByteArray)] : List ByteArray)), (([(⟨#[114, 112, 122, 45, 116, 99, 112, 45, 111, 110, 108, 121]⟩ : ByteArray)] : List ByteArray)), (([(⟨#[42]⟩ : ByteArray), (⟨#[111, 114, 103]⟩ : ByteArray)] : List ByteArray))] : List (List ByteArray)) : List (List ByteArray))).bind fun y494 => (if (Int.tmod a0 8) < 6 then (if 0 ≤ (Int.tmod a0 8) then (if (Int.tmod a0 8) < (y494.length : Int) then ((name_Make.f (rd_L7 y494 (Int.tmod a0 8))).bind fun bt498 => (some bt498.1)) else (none)) else (none)) else ((bolterlaw02_Name.f k l1).bind fun t500 => (some t500)))) = some r := by first | (rw [hy476]; with_reducible exact H) | (have H2_ := (Option.bind_some _ _).symm.trans H; rw [hy476]; with_reducible exact H2_) | (have H2_ := (Option.bind_some _ _).symm.trans H; with_reducible exact H2_) | with_reducible exact H | (rw [hy476]; exact H) | exact H
 have Ny476 := Aside0.mk hy476
 clear hy476
 obtain ⟨y479, hy479⟩ : ∃ y_ : List ByteArray, y_ = (([(⟨#[42]⟩ : ByteArray)] : List ByteArray)) := ⟨_, rfl⟩
 replace H : ((some (([y476, y479, (([(⟨#[114, 112, 122, 45, 112, 97, 115, 115, 116, 104, 114, 117]⟩ : ByteArray)] : List ByteArray)), (([(⟨#[114, 112, 122, 45, 100, 114, 111, 112]⟩ : ByteArray)] : List ByteArray)), (([(⟨#[114, 112, 122, 45, 116, 99, 112, 45, 111, 110, 108, 121]⟩ : ByteArray)] : List ByteArray)), (([(⟨#[42]⟩ : ByteArray), (⟨#[111, 114, 103]⟩ : ByteArray)] : List ByteArray))] : List (List ByteArray)) : List (List ByteArray))).bind fun y494 => (if (Int.tmod a0 8) < 6 then (if 0 ≤ (Int.tmod a0 8) then (if (Int.tmod a0 8) < (y494.length : Int) then ((name_Make.f (rd_L7 y494 (Int.tmod a0 8))).bind fun bt498 => (some bt498.1)) else (none)) else (none)) else ((bolterlaw02_Name.f k l1).bind fun t500 => (some t500)))) = some r := by first | (rw [hy479]; with_reducible exact H) | (have H2_ := (Option.bind_some _ _).symm.trans H; rw [hy479]; with_reducible exact H2_) | (have H2_ := (Option.bind_some _ _).symm.trans H; with_reducible exact H2_) | with_reducible exact H | (rw [hy479]; exact H) | exact H
 have Ny479 := Aside0.mk hy479
 clear hy479
 obtain ⟨y482, hy482⟩ : ∃ y_ : List ByteArray, y_ = (([(⟨#[114, 112, 122, 45, 112, 97, 115, 115, 116, 104, 114, 117]⟩ : ByteArray)] : List ByteArray)) := ⟨_, rfl⟩
 replace H : ((some (([y476, y479, y482, (([(⟨#[114, 112, 122, 45, 100, 114, 111, 112]⟩ : ByteArray)] : List ByteArray)), (([(⟨#[114, 112, 122, 45, 116, 99, 112, 45, 111, 110, 108, 121]⟩ : ByteArray)] : List ByteArray)), (([(⟨#[42]⟩ : ByteArray), (⟨#[111, 114, 103]⟩ : ByteArray)] : List ByteArray))] : List (List ByteArray)) : List (List ByteArray))).bind fun y494 => (if (Int.tmod a0 8) < 6 then (if 0 ≤ (Int.tmod a0 8) then (if (Int.tmod a0 8) < (y494.length : Int) then ((name_Make.f (rd_L7 y494 (Int.tmod a0 8))).bind fun bt498 => (some bt498.1)) else (none)) else (none)) else ((bolterlaw02_Name.f k l1).bind fun t500 => (some t500)))) = some r := by first | (rw [hy482]; with_reducible exact H) | (have H2_ := (Option.bind_some _ _).symm.trans H; rw [hy482]; with_reducible exact H2_) | (have H2_ := (Option.bind_some _ _).symm.trans H; with_reducible exact H2_) | with_reducible exact H | (rw [hy482]; exact H) | exact H
 have Ny482 := Aside0.mk hy482
 clear hy482
 obtain ⟨y485, hy485⟩ : ∃ y_ : List ByteArray, y_ = (([(⟨#[114, 112, 122, 45, 100, 114, 111, 112]⟩ : ByteArray)] : List ByteArray)) := ⟨_, rfl⟩
 replace H : ((some (([y476, y479, y482, y485, (([(⟨#[114, 112, 122, 45, 116, 99, 112, 45, 111, 110, 108, 121]⟩ : ByteArray)] : List ByteArray)), (([(⟨#[42]⟩ : ByteArray), (⟨#[111, 114, 103]⟩ : ByteArray)] : List ByteArray))] : List (List ByteArray)) : List (List ByteArray))).bind fun y494 => (if (Int.tmod a0 8) < 6 then (if 0 ≤ (Int.tmod a0 8) then (if (Int.tmod a0 8) < (y494.length : Int) then ((name_Make.f (rd_L7 y494 (Int.tmod a0 8))).bind fun bt498 => (some bt498.1)) else (none)) else (none)) else ((bolterlaw02_Name.f k l1).bind fun t500 => (some t500)))) = some r := by first | (rw [hy485]; with_reducible exact H) | (have H2_ := (Option.bind_some _ _).symm.trans H; rw [hy485]; with_reducible exact H2_) | (have H2_ := (Option.bind_some _ _).symm.trans H; with_reducible exact H2_) | with_reducible exact H | (rw [hy485]; exact H) | exact H
 have Ny485 := Aside0.mk hy485
 clear hy485
 obtain ⟨y488, hy488⟩ : ∃ y_ : List ByteArray, y_ = (([(⟨#[114, 112, 122, 45, 116, 99, 112, 45, 111, 110, 108, 121]⟩ : ByteArray)] : List ByteArray)) := ⟨_, rfl⟩
 replace H : ((some (([y476, y479, y482, y485, y488, (([(⟨#[42]⟩ : ByteArray), (⟨#[111, 114, 103]⟩ : ByteArray)] : List ByteArray))] : List (List ByteArray)) : List (List ByteArray))).bind fun y494 => (if (Int.tmod a0 8) < 6 then (if 0 ≤ (Int.tmod a0 8) then (if (Int.tmod a0 8) < (y494.length : Int) then ((name_Make.f (rd_L7 y494 (Int.tmod a0 8))).bind fun bt498 => (some bt498.1)) else (none)) else (none)) else ((bolterlaw02_Name.f k l1).bind fun t500 => (some t500)))) = some r := by first | (rw [hy488]; with_reducible exact H) | (have H2_ := (Option.bind_some _ _).symm.trans H; rw [hy488]; with_reducible exact H2_) | (have H2_ := (Option.bind_some _ _).symm.trans H; with_reducible exact H2_) | with_reducible exact H | (rw [hy488]; exact H) | exact H
 have Ny488 := Aside0.mk hy488
 clear hy488
 obtain ⟨y491, hy491⟩ : ∃ y_ : List ByteArray, y_ = (([(⟨#[42]⟩ : ByteArray), (⟨#[111, 114, 103]⟩ : ByteArray)] : List ByteArray)) := ⟨_, rfl⟩
 replace H : ((some (([y476, y479, y482, y485, y488, y491] : List (List ByteArray)) : List (List ByteArray))).bind fun y494 => (if (Int.tmod a0 8) < 6 then (if 0 ≤ (Int.tmod a0 8) then (if (Int.tmod a0 8) < (y494.length : Int) then ((name_Make.f (rd_L7 y494 (Int.tmod a0 8))).bind fun bt498 => (some bt498.1)) else (none)) else (none)) else ((bolterlaw02_Name.f k l1).bind fun t500 => (some t500)))) = some r := by first | (rw [hy491]; with_reducible exact H) | (have H2_ := (Option.bind_some _ _).symm.trans H; rw [hy491]; with_reducible exact H2_) | (have H2_ := (Option.bind_some _ _).symm.trans H; with_reducible exact H2_) | with_reducible exact H | (rw [hy491]; exact H) | exact H
 have Ny491 := Aside0.mk hy491
 clear hy491
 obtain ⟨y494, hy494⟩ : ∃ y_ : List (List ByteArray), y_ = (([y476, y479, y482, y485, y488, y491] : List (List ByteArray))) := ⟨_, rfl⟩
 replace H : (if (Int.tmod a0 8) < 6 then (if 0 ≤ (Int.tmod a0 8) then (if (Int.tmod a0 8) < (y494.length : Int) then ((name_Make.f (rd_L7 y494 (Int.tmod a0 8))).bind fun bt498 => (some bt498.1)) else (none)) else (none)) else ((bolterlaw02_Name.f k l1).bind fun t500 => (some t500))) = some r := by first | (rw [hy494]; with_reducible exact H) | (have H2_ := (Option.bind_some _ _).symm.trans H; rw [hy494]; with_reducible exact H2_) | (have H2_ := (Option.bind_some _ _).symm.trans H; with_reducible exact H2_) | with_reducible exact H | (rw [hy494]; exact H) | exact H
 have Ny494 := Aside0.mk hy494
 clear hy494
 by_cases c3 : (Int.tmod a0 8) < 6
 ·rw [if_pos c3] at H
  have c3b0 : decide ((Int.tmod a0 8) < 6) = true := decide_eq_true c3
  clear c3
  obtain ⟨ji4, hji4⟩ : ∃ j_ : Int, (Int.tmod a0 8) = j_ := ⟨_, rfl⟩
  replace H : (if 0 ≤ (ji4) then (if (ji4) < (y494.length : Int) then ((name_Make.f (rd_L7 y494 (ji4))).bind fun bt498 => (some bt498.1)) else (none)) else (none)) = some r := by first | (rw [hji4] at H; exact H) | (simp only [hji4] at H ⊢; exact H)
  (try rw [hji4] at c3b0)
  by_cases c5 : 0 ≤ (ji4)
  ·rw [if_pos c5] at H
   have c5b0 : decide (0 ≤ (ji4)) = true := decide_eq_true c5
   clear c5
   by_cases c6 : (ji4) < (y494.length : Int)
   ·rw [if_pos c6] at H
    have c6b0 : decide ((ji4) < (y494.length : Int)) = true := decide_eq_true c6
    clear c6
    replace H := Option.bind_eq_some_iff.mp H
    obtain ⟨⟨t498, t499⟩, A70, H⟩ := H
    replace H : (some t498) = some r := H
    have A7 := Aside0.mk A70
    clear A70
    obtain rfl := Option.some.inj H
    go_enter Try.func15, Try.ntmps15
    go_wp2_with (first | ((with_reducible refine gate_dst (N := 8) rfl ?_); refine Kd.R_lit Kd.string _ 9 ?hg (N := 8) ?hd (xs := ([] : List ByteArray)) (inner := []) (ok := fun _ => True) (okp := fun _ => True) ?hr ?hp (fun _ hk => hk) trivial (Below.refl _ _) (Nat.le_refl _) (by simp) ?_; (case hd => rfl); (case hg => rfl); (case hr => first | (go_simp; done) | (go_simp; rfl)); (case hp => exact (Reps.none _ _)); intro v477 w8 ho9 hb hg_ hnew_; clear hg_ hnew_; (first | rw [← Ny476.out] at ho9 | (simp only [Int.reduceToNat] at ho9; rw [← Ny476.out] at ho9)); have n0_ := Aside0.mk (Kd.R_lower ho9 (below_size (by repeat (first | (with_reducible first | exact HB.out | apply below_alloc | apply pw_below_drewN | apply below_drew1) | exact HB.out)))); have n1_ := Aside0.mk (below_step (by repeat (first | (with_reducible first | exact HB.out | apply below_alloc | apply pw_below_drewN | apply below_drew1) | exact HB.out)) hb); clear HB; have HO478 := n0_; have HB := n1_; clear n0_ n1_; clear hb ho9) | ((with_reducible refine gate_dst (N := 9) rfl ?_); refine Kd.R_lit Kd.string _ 9 ?hg (N := 9) ?hd (xs := ([(⟨#[42]⟩ : ByteArray)] : List ByteArray)) (inner := [.string (⟨#[42]⟩ : ByteArray)]) (ok := fun _ => True) (okp := fun _ => True) ?hr ?hp (fun _ hk => hk) trivial (Below.refl _ _) (Nat.le_refl _) (by simp) ?_; (case hd => rfl); (case hg => rfl); (case hr => first | (go_simp; done) | (go_simp; rfl)); (case hp => exact (Reps.one (show Kd.M Kd.string _ _ _ (⟨#[42]⟩ : ByteArray) [.string (⟨#[42]⟩ : ByteArray)] from rfl) (Reps.none _ _))); intro v480 w10 ho11 hb hg_ hnew_; clear hg_ hnew_; (first | rw [← Ny479.out] at ho11 | (simp only [Int.reduceToNat] at ho11; rw [← Ny479.out] at ho11)); have n0_ := Aside0.mk (Kd.R_elder' (by (with_reducible repeat (first | apply Kd.R_alloc | apply Kd.R_drewN | apply Kd.R_drew)); exact HO478.out) (Kd.R_base ho11) hb); have n1_ := Aside0.mk (Kd.R_lower (Kd.R_new' ho11 (Kd.R_lt (by (with_reducible repeat (first | apply Kd.R_alloc | apply Kd.R_drewN | apply Kd.R_drew)); exact HO478.out))) (below_size (by repeat (first | (with_reducible first | exact HB.out | apply below_alloc | apply pw_below_drewN | apply below_drew1) | exact HB.out)))); have n2_ := Aside0.mk (below_step (by repeat (first | (with_reducible first | exact HB.out | apply below_alloc | apply pw_below_drewN | apply below_drew1) | exact HB.out)) hb); clear HO478; clear HB; have HO478 := n0_; have HO481 := n1_; have HB := n2_; clear n0_ n1_ n2_; clear hb ho11) | ((with_reducible refine gate_dst (N := 10) rfl ?_); refine Kd.R_lit Kd.string _ 9 ?hg (N := 10) ?hd (xs := ([(⟨#[114, 112, 122, 45, 112, 97, 115, 115, 116, 104, 114, 117]⟩ : ByteArray)] : List ByteArray)) (inner := [.string (⟨#[114, 112, 122, 45, 112, 97, 115, 115, 116, 104, 114, 117]⟩ : ByteArray)]) (ok := fun _ => True) (okp := fun _ => True) ?hr ?hp (fun _ hk => hk) trivial (Below.refl _ _) (Nat.le_refl _) (by simp) ?_; (case hd => rfl); (case hg => rfl); (case hr => first | (go_simp; done) | (go_simp; rfl)); (case hp => exact (Reps.one (show Kd.M Kd.string _ _ _ (⟨#[114, 112, 122, 45, 112, 97, 115, 115, 116, 104, 114, 117]⟩ : ByteArray) [.string (⟨#[114, 112, 122, 45, 112, 97, 115, 115, 116, 104, 114, 117]⟩ : ByteArray)] from rfl) (Reps.none _ _))); intro v483 w12 ho13 hb hg_ hnew_; clear hg_ hnew_; (first | rw [← Ny482.out] at ho13 | (simp only [Int.reduceToNat] at ho13; rw [← Ny482.out] at ho13)); have n0_ := Aside0.mk (Kd.R_elder' (by (with_reducible repeat (first | apply Kd.R_alloc | apply Kd.R_drewN | apply Kd.R_drew)); exact HO478.out) (Kd.R_base ho13) hb); have n1_ := Aside0.mk (Kd.R_elder' (by (with_reducible repeat (first | apply Kd.R_alloc | apply Kd.R_drewN | apply Kd.R_drew)); exact HO481.out) (Kd.R_base ho13) hb); have n2_ := Aside0.mk (Kd.R_lower (Kd.R_new' (Kd.R_new' ho13 (Kd.R_lt (by (with_reducible repeat (first | apply Kd.R_alloc | apply Kd.R_drewN | apply Kd.R_drew)); exact HO478.out))) (Kd.R_lt (by (with_reducible repeat (first | apply Kd.R_alloc | apply Kd.R_drewN | apply Kd.R_drew)); exact HO481.out))) (below_size (by repeat (first | (with_reducible first | exact HB.out | apply below_alloc | apply pw_below_drewN | apply below_drew1) | exact HB.out)))); have n3_ := Aside0.mk (below_step (by repeat (first | (with_reducible first | exact HB.out | apply below_alloc | apply pw_below_drewN | apply below_drew1) | exact HB.out)) hb); clear HO478; clear HO481; clear HB; have HO478 := n0_; have HO481 := n1_; have HO484 := n2_; have HB := n3_; clear n0_ n1_ n2_ n3_; clear hb ho13) | ((with_reducible refine gate_dst (N := 11) rfl ?_); refine Kd.R_lit Kd.string _ 9 ?hg (N := 11) ?hd (xs := ([(⟨#[114, 112, 122, 45, 100, 114, 111, 112]⟩ : ByteArray)] : List ByteArray)) (inner := [.string (⟨#[114, 112, 122, 45, 100, 114, 111, 112]⟩ : ByteArray)]) (ok := fun _ => True) (okp := fun _ => True) ?hr ?hp (fun _ hk => hk) trivial (Below.refl _ _) (Nat.le_refl _) (by simp) ?_; (case hd => rfl); (case hg => rfl); (case hr => first | (go_simp; done) | (go_simp; rfl)); (case hp => exact (Reps.one (show Kd.M Kd.string _ _ _ (⟨#[114, 112, 122, 45, 100, 114, 111, 112]⟩ : ByteArray) [.string (⟨#[114, 112, 122, 45, 100, 114, 111, 112]⟩ : ByteArray)] from rfl) (Reps.none _ _))); intro v486 w14 ho15 hb hg_ hnew_; clear hg_ hnew_; (first | rw [← Ny485.out] at ho15 | (simp only [Int.reduceToNat] at ho15; rw [← Ny485.out] at ho15)); have n0_ := Aside0.mk (Kd.R_elder' (by (with_reducible repeat (first | apply Kd.R_alloc | apply Kd.R_drewN | apply Kd.R_drew)); exact HO478.out) (Kd.R_base ho15) hb); have n1_ := Aside0.mk (Kd.R_elder' (by (with_reducible repeat (first | apply Kd.R_alloc | apply Kd.R_drewN | apply Kd.R_drew)); exact HO481.out) (Kd.R_base ho15) hb); have n2_ := Aside0.mk (Kd.R_elder' (by (with_reducible repeat (first | apply Kd.R_alloc | apply Kd.R_drewN | apply Kd.R_drew)); exact HO484.out) (Kd.R_base ho15) hb); have n3_ := Aside0.mk (Kd.R_lower (Kd.R_new' (Kd.R_new' (Kd.R_new' ho15 (Kd.R_lt (by (with_reducible repeat (first | apply Kd.R_alloc | apply Kd.R_drewN | apply Kd.R_drew)); exact HO478.out))) (Kd.R_lt (by (with_reducible repeat (first | apply Kd.R_alloc | apply Kd.R_drewN | apply Kd.R_drew)); exact HO481.out))) (Kd.R_lt (by (with_reducible repeat (first | apply Kd.R_alloc | apply Kd.R_drewN | apply Kd.R_drew)); exact HO484.out))) (below_size (by repeat (first | (with_reducible first | exact HB.out | apply below_alloc | apply pw_below_drewN | apply below_drew1) | exact HB.out)))); have n4_ := Aside0.mk (below_step (by repeat (first | (with_reducible first | exact HB.out | apply below_alloc | apply pw_below_drewN | apply below_drew1) | exact HB.out)) hb); clear HO478; clear HO481; clear HO484; clear HB; have HO478 := n0_; have HO481 := n1_; have HO484 := n2_; have HO487 := n3_; have HB := n4_; clear n0_ n1_ n2_ n3_ n4_; clear hb ho15) | ((with_reducible refine gate_dst (N := 12) rfl ?_); refine Kd.R_lit Kd.string _ 9 ?hg (N := 12) ?hd (xs := ([(⟨#[114, 112, 122, 45, 116, 99, 112, 45, 111, 110, 108, 121]⟩ : ByteArray)] : List ByteArray)) (inner := [.string (⟨#[114, 112, 122, 45, 116, 99, 112, 45, 111, 110, 108, 121]⟩ : ByteArray)]) (ok := fun _ => True) (okp := fun _ => True) ?hr ?hp (fun _ hk => hk) trivial (Below.refl _ _) (Nat.le_refl _) (by simp) ?_; (case hd => rfl); (case hg => rfl); (case hr => first | (go_simp; done) | (go_simp; rfl)); (case hp => exact (Reps.one (show Kd.M Kd.string _ _ _ (⟨#[114, 112, 122, 45, 116, 99, 112, 45, 111, 110, 108, 121]⟩ : ByteArray) [.string (⟨#[114, 112, 122, 45, 116, 99, 112, 45, 111, 110, 108, 121]⟩ : ByteArray)] from rfl) (Reps.none _ _))); intro v489 w16 ho17 hb hg_ hnew_; clear hg_ hnew_; (first | rw [← Ny488.out] at ho17 | (simp only [Int.reduceToNat] at ho17; rw [← Ny488.out] at ho17)); have n0_ := Aside0.mk (Kd.R_elder' (by (with_reducible repeat (first | apply Kd.R_alloc | apply Kd.R_drewN | apply Kd.R_drew)); exact HO478.out) (Kd.R_base ho17) hb); have n1_ := Aside0.mk (Kd.R_elder' (by (with_reducible repeat (first | apply Kd.R_alloc | apply Kd.R_drewN | apply Kd.R_drew)); exact HO481.out) (Kd.R_base ho17) hb); have n2_ := Aside0.mk (Kd.R_elder' (by (with_reducible repeat (first | apply Kd.R_alloc | apply Kd.R_drewN | apply Kd.R_drew)); exact HO484.out) (Kd.R_base ho17) hb); have n3_ := Aside0.mk (Kd.R_elder' (by (with_reducible repeat (first | apply Kd.R_alloc | apply Kd.R_drewN | apply Kd.R_drew)); exact HO487.out) (Kd.R_base ho17) hb); have n4_ := Aside0.mk (Kd.R_lower (Kd.R_new' (Kd.R_new' (Kd.R_new' (Kd.R_new' ho17 (Kd.R_lt (by (with_reducible repeat (first | apply Kd.R_alloc | apply Kd.R_drewN | apply Kd.R_drew)); exact HO478.out))) (Kd.R_lt (by (with_reducible repeat (first | apply Kd.R_alloc | apply Kd.R_drewN | apply Kd.R_drew)); exact HO481.out))) (Kd.R_lt (by (with_reducible repeat (first | apply Kd.R_alloc | apply Kd.R_drewN | apply Kd.R_drew)); exact HO484.out))) (Kd.R_lt (by (with_reducible repeat (first | apply Kd.R_alloc | apply Kd.R_drewN | apply Kd.R_drew)); exact HO487.out))) (below_size (by repeat (first | (with_reducible first | exact HB.out | apply below_alloc | apply pw_below_drewN | apply below_drew1) | exact HB.out)))); have n5_ := Aside0.mk (below_step (by repeat (first | (with_reducible first | exact HB.out | apply below_alloc | apply pw_below_drewN | apply below_drew1) | exact HB.out)) hb); clear HO478; clear HO481; clear HO484; clear HO487; clear HB; have HO478 := n0_; have HO481 := n1_; have HO484 := n2_; have HO487 := n3_; have HO490 := n4_; have HB := n5_; clear n0_ n1_ n2_ n3_ n4_ n5_; clear hb ho17) | ((with_reducible refine gate_dst (N := 13) rfl ?_); refine Kd.R_lit Kd.string _ 9 ?hg (N := 13) ?hd (xs := ([(⟨#[42]⟩ : ByteArray), (⟨#[111, 114, 103]⟩ : ByteArray)] : List ByteArray)) (inner := [.string (⟨#[42]⟩ : ByteArray), .string (⟨#[111, 114, 103]⟩ : ByteArray)]) (ok := fun _ => True) (okp := fun _ => True) ?hr ?hp (fun _ hk => hk) trivial (Below.refl _ _) (Nat.le_refl _) (by simp) ?_; (case hd => rfl); (case hg => rfl); (case hr => first | (go_simp; done) | (go_simp; rfl)); (case hp => exact (Reps.one (show Kd.M Kd.string _ _ _ (⟨#[42]⟩ : ByteArray) [.string (⟨#[42]⟩ : ByteArray)] from rfl) (Reps.one (show Kd.M Kd.string _ _ _ (⟨#[111, 114, 103]⟩ : ByteArray) [.string (⟨#[111, 114, 103]⟩ : ByteArray)] from rfl) (Reps.none _ _)))); intro v492 w18 ho19 hb hg_ hnew_; clear hg_ hnew_; (first | rw [← Ny491.out] at ho19 | (simp only [Int.reduceToNat] at ho19; rw [← Ny491.out] at ho19)); have n0_ := Aside0.mk (Kd.R_elder' (by (with_reducible repeat (first | apply Kd.R_alloc | apply Kd.R_drewN | apply Kd.R_drew)); exact HO478.out) (Kd.R_base ho19) hb); have n1_ := Aside0.mk (Kd.R_elder' (by (with_reducible repeat (first | apply Kd.R_alloc | apply Kd.R_drewN | apply Kd.R_drew)); exact HO481.out) (Kd.R_base ho19) hb); have n2_ := Aside0.mk (Kd.R_elder' (by (with_reducible repeat (first | apply Kd.R_alloc | apply Kd.R_drewN | apply Kd.R_drew)); exact HO484.out) (Kd.R_base ho19) hb); have n3_ := Aside0.mk (Kd.R_elder' (by (with_reducible repeat (first | apply Kd.R_alloc | apply Kd.R_drewN | apply Kd.R_drew)); exact HO487.out) (Kd.R_base ho19) hb); have n4_ := Aside0.mk (Kd.R_elder' (by (with_reducible repeat (first | apply Kd.R_alloc | apply Kd.R_drewN | apply Kd.R_drew)); exact HO490.out) (Kd.R_base ho19) hb); have n5_ := Aside0.mk (Kd.R_lower (Kd.R_new' (Kd.R_new' (Kd.R_new' (Kd.R_new' (Kd.R_new' ho19 (Kd.R_lt (by (with_reducible repeat (first | apply Kd.R_alloc | apply Kd.R_drewN | apply Kd.R_drew)); exact HO478.out))) (Kd.R_lt (by (with_reducible repeat (first | apply Kd.R_alloc | apply Kd.R_drewN | apply Kd.R_drew)); exact HO481.out))) (Kd.R_lt (by (with_reducible repeat (first | apply Kd.R_alloc | apply Kd.R_drewN | apply Kd.R_drew)); exact HO484.out))) (Kd.R_lt (by (with_reducible repeat (first | apply Kd.R_alloc | apply Kd.R_drewN | apply Kd.R_drew)); exact HO487.out))) (Kd.R_lt (by (with_reducible repeat (first | apply Kd.R_alloc | apply Kd.R_drewN | apply Kd.R_drew)); exact HO490.out))) (below_size (by repeat (first | (with_reducible first | exact HB.out | apply below_alloc | apply pw_below_drewN | apply below_drew1) | exact HB.out)))); have n6_ := Aside0.mk (below_step (by repeat (first | (with_reducible first | exact HB.out | apply below_alloc | apply pw_below_drewN | apply below_drew1) | exact HB.out)) hb); clear HO478; clear HO481; clear HO484; clear HO487; clear HO490; clear HB; have HO478 := n0_; have HO481 := n1_; have HO484 := n2_; have HO487 := n3_; have HO490 := n4_; have HO493 := n5_; have HB := n6_; clear n0_ n1_ n2_ n3_ n4_ n5_ n6_; clear hb ho19; obtain ⟨Ao20, co20, eo20⟩ := Kd.R_slice HO478.out; subst eo20; obtain ⟨Ao21, co21, eo21⟩ := Kd.R_slice HO481.out; subst eo21; obtain ⟨Ao22, co22, eo22⟩ := Kd.R_slice HO484.out; subst eo22; obtain ⟨Ao23, co23, eo23⟩ := Kd.R_slice HO487.out; subst eo23; obtain ⟨Ao24, co24, eo24⟩ := Kd.R_slice HO490.out; subst eo24; obtain ⟨Ao25, co25, eo25⟩ := Kd.R_slice HO493.out; subst eo25) | ((with_reducible refine gate_dst (N := 14) rfl ?_); refine Kd.N_lit (Kd.slice 9 Kd.string) _ 74 ?hg (N' := 14) ?hd (xs := ([y476, y479, y482, y485, y488, y491] : List (List ByteArray))) (inner := [.slice Ao20 y476.length co20, .slice Ao21 y479.length co21, .slice Ao22 y482.length co22, .slice Ao23 y485.length co23, .slice Ao24 y488.length co24, .slice Ao25 y491.length co25]) (ok := (fun _ => True)) (okp := (fun _ => True)) ?hr ?hp (fun _ hk => hk) ((show ∀ k_, w18.heap.size ≤ k_ → (fun _ => True) k_ from fun k_ hk => trivial) _ (Nat.le_refl _)) (Below.refl _ _) (Nat.le_refl _) (by simp) ?_; (case hd => rfl); (case hg => rfl); (case hr => first | (go_simp; done) | (go_simp; rfl)); (case hp => exact (Reps.one (show Kd.FK (Kd.slice 9 Kd.string) _ _ y476 [.slice Ao20 y476.length co20] from (Kd.FK_slice_mk (Kd.R_reads' (Kd.R_mono (ok' := (fun _ => True)) (HO478.out) (fun k_ hk => trivial))).2.1 (Kd.R_F (Kd.R_mono (ok' := (fun _ => True)) (HO478.out) (fun k_ hk => trivial))))) (Reps.one (show Kd.FK (Kd.slice 9 Kd.string) _ _ y479 [.slice Ao21 y479.length co21] from (Kd.FK_slice_mk (Kd.R_reads' (Kd.R_mono (ok' := (fun _ => True)) (HO481.out) (fun k_ hk => trivial))).2.1 (Kd.R_F (Kd.R_mono (ok' := (fun _ => True)) (HO481.out) (fun k_ hk => trivial))))) (Reps.one (show Kd.FK (Kd.slice 9 Kd.string) _ _ y482 [.slice Ao22 y482.length co22] from (Kd.FK_slice_mk (Kd.R_reads' (Kd.R_mono (ok' := (fun _ => True)) (HO484.out) (fun k_ hk => trivial))).2.1 (Kd.R_F (Kd.R_mono (ok' := (fun _ => True)) (HO484.out) (fun k_ hk => trivial))))) (Reps.one (show Kd.FK (Kd.slice 9 Kd.string) _ _ y485 [.slice Ao23 y485.length co23] from (Kd.FK_slice_mk (Kd.R_reads' (Kd.R_mono (ok' := (fun _ => True)) (HO487.out) (fun k_ hk => trivial))).2.1 (Kd.R_F (Kd.R_mono (ok' := (fun _ => True)) (HO487.out) (fun k_ hk => trivial))))) (Reps.one (show Kd.FK (Kd.slice 9 Kd.string) _ _ y488 [.slice Ao24 y488.length co24] from (Kd.FK_slice_mk (Kd.R_reads' (Kd.R_mono (ok' := (fun _ => True)) (HO490.out) (fun k_ hk => trivial))).2.1 (Kd.R_F (Kd.R_mono (ok' := (fun _ => True)) (HO490.out) (fun k_ hk => trivial))))) (Reps.one (show Kd.FK (Kd.slice 9 Kd.string) _ _ y491 [.slice Ao25 y491.length co25] from (Kd.FK_slice_mk (Kd.R_reads' (Kd.R_mono (ok' := (fun _ => True)) (HO493.out) (fun k_ hk => trivial))).2.1 (Kd.R_F (Kd.R_mono (ok' := (fun _ => True)) (HO493.out) (fun k_ hk => trivial))))) (Reps.none _ _)))))))); intro v495 w26 ho27 hb hg_ hnew_; clear hg_ hnew_; (first | rw [← Ny494.out] at ho27 | (simp only [Int.reduceToNat] at ho27; rw [← Ny494.out] at ho27)); have n0_ := Aside0.mk (Kd.N_lower ho27 (below_size (by repeat (first | (with_reducible first | exact HB.out | apply below_alloc | apply pw_below_drewN | apply below_drew1) | exact HB.out)))); have n1_ := Aside0.mk (below_step (by repeat (first | (with_reducible first | exact HB.out | apply below_alloc | apply pw_below_drewN | apply below_drew1) | exact HB.out)) hb); clear HB; clear HO478; clear HO481; clear HO484; clear HO487; clear HO490; clear HO493; have HO496 := n0_; have HB := n1_; clear n0_ n1_; clear hb ho27; obtain ⟨Ao28, co28, eo28⟩ := Kd.N_slice HO496.out; subst eo28; have p497 : 0 ≤ ((ji4) : Int) := of_decide_eq_true (by first | (with_reducible assumption) | assumption); have q497 : (ji4) < (y494.length : Int) := of_decide_eq_true (by first | (with_reducible assumption) | assumption); obtain ⟨ad497, A497_0, c497_0, e497, hx497_0, hl497_0, hi497_0⟩ := at_L7 (Kd.N_reads' HO496.out).2.2 (ji4) p497 q497; cases e497; obtain ⟨ce497, hce497, hMe497, hcc497⟩ := Kd.N_get HO496.out [] (ji4) p497 (by first | exact q497 | exact of_decide_eq_true (by first | (with_reducible assumption) | assumption) | (have e_ := (Kd.N_reads' HO496.out).1; omega)); obtain ⟨ua497_0, uc497_0, rfl, ul497_0, ge497_0⟩ := Kd.FK_slice_open hMe497; have hv497_0 := hcc497 0 _ rfl; rw [Nat.add_zero, show ((Kd.slice 9 Kd.string)).sz = 1 from rfl, Nat.mul_one] at hv497_0; replace hv497_0 := Option.some.inj (hv497_0.symm.trans hx497_0); injection hv497_0 with hva_ hvn_ hvc_; rw [hva_] at ge497_0; rw [hvc_] at ul497_0; have HL497_0 := Aside0.mk (show Kd.V Kd.string 9 _ w.heap.size _ _ (rd_L7 y494 (ji4)) from Kd.V_mk ul497_0 ge497_0); clear hva_ hvn_ hvc_ ge497_0 ul497_0; clear hcc497 hce497; have HR497_0 := Aside0.mk hi497_0; have HC497_0 := Aside0.mk hl497_0; clear hi497_0 hl497_0; replace p497 := eq_true p497; replace q497 := eq_true q497) | ((with_reducible refine gate_callee (f := 36) rfl ?_); refine goesL_ (some 24) rfl rfl Try.func36 (by kernel_rfl) rfl #[.slice A497_0 (rd_L7 y494 (ji4)).length c497_0] rfl (by (try simp only [List.map_toArray, List.map_cons, List.map_nil]); first | done | (simp only [hji4]; rfl) | rfl | (simp only [List.length_drop, List.length_take]; rfl)) ?_; (with_reducible refine (name_Make.calls _ _ (rd_L7 y494 (ji4)) t498 t499 _ ?side1 ?side2 A7.out).mono ?_); (case side1 => repeat (first | exact (by repeat (first | (with_reducible exact HR497_0.out) | (with_reducible refine Kd.C_alloc ?_ _) | (with_reducible refine Kd.C_drewN ?_ _) | (with_reducible refine Kd.C_drew ?_) | exact HR497_0.out)) | (with_reducible refine Kd.C_alloc ?_ _) | (with_reducible refine Kd.C_drewN ?_ _) | (with_reducible refine Kd.C_drew ?_))); (case side2 => exact HC497_0.out); rintro e w29 ⟨rfl, hb⟩; refine ⟨_, rfl, ?_⟩; have n0_ := Aside0.mk (Kd.N_below (by (with_reducible repeat (first | apply Kd.N_alloc | apply Kd.N_drewN | apply Kd.N_drew)); exact HO496.out) hb); have n1_ := Aside0.mk (Kd.V_below (by (with_reducible repeat (first | apply Kd.V_alloc | apply Kd.V_drewN | apply Kd.V_drew)); exact HL497_0.out) hb); have n2_ := Aside0.mk (Kd.C_below (by repeat (first | (with_reducible exact HR497_0.out) | (with_reducible refine Kd.C_alloc ?_ _) | (with_reducible refine Kd.C_drewN ?_ _) | (with_reducible refine Kd.C_drew ?_) | exact HR497_0.out)) hb); have n3_ := Aside0.mk (below_step (by repeat (first | (with_reducible first | exact HB.out | apply below_alloc | apply pw_below_drewN | apply below_drew1) | exact HB.out)) hb); clear HO496; clear HL497_0; clear HR497_0; clear HB; have HO496 := n0_; have HL497_0 := n1_; have HR497_0 := n2_; have HB := n3_; clear n0_ n1_ n2_ n3_; (try clear hb); (try clear hb2); (try clear hk); (try clear hi)))
    go_ret
    exact ⟨by first | rfl | (simp [errW_none, errW_some] <;> rfl) | (simp only [← hji4]; first | rfl | (simp [errW_none, errW_some] <;> rfl)) | (simp [*, errW_none, errW_some] <;> rfl), by repeat (first | (with_reducible first | exact HB.out | apply below_alloc | apply pw_below_drewN | apply below_drew1) | exact HB.out)⟩
   ·rw [if_neg c6] at H
    exact absurd H (by simp)
  ·rw [if_neg c5] at H
   exact absurd H (by simp)
 ·rw [if_neg c3] at H
  have c3b0 : decide ((Int.tmod a0 8) < 6) = false := decide_eq_false c3
  clear c3
  replace H := Option.bind_eq_some_iff.mp H
  obtain ⟨t500, A300, H⟩ := H
  replace H : (some t500) = some r := H
  have A30 := Aside0.mk A300
  clear A300
  obtain rfl := Option.some.inj H
  go_enter Try.func15, Try.ntmps15
  go_wp2_with (first | ((with_reducible refine gate_dst (N := 8) rfl ?_); refine Kd.R_lit Kd.string _ 9 ?hg (N := 8) ?hd (xs := ([] : List ByteArray)) (inner := []) (ok := fun _ => True) (okp := fun _ => True) ?hr ?hp (fun _ hk => hk) trivial (Below.refl _ _) (Nat.le_refl _) (by simp) ?_; (case hd => rfl); (case hg => rfl); (case hr => first | (go_simp; done) | (go_simp; rfl)); (case hp => exact (Reps.none _ _)); intro v477 w31 ho32 hb hg_ hnew_; clear hg_ hnew_; (first | rw [← Ny476.out] at ho32 | (simp only [Int.reduceToNat] at ho32; rw [← Ny476.out] at ho32)); have n0_ := Aside0.mk (Kd.R_lower ho32 (below_size (by repeat (first | (with_reducible first | exact HB.out | apply below_alloc | apply pw_below_drewN | apply below_drew1) | exact HB.out)))); have n1_ := Aside0.mk (below_step (by repeat (first | (with_reducible first | exact HB.out | apply below_alloc | apply pw_below_drewN | apply below_drew1) | exact HB.out)) hb); clear HB; have HO478 := n0_; have HB := n1_; clear n0_ n1_; clear hb ho32) | ((with_reducible refine gate_dst (N := 9) rfl ?_); refine Kd.R_lit Kd.string _ 9 ?hg (N := 9) ?hd (xs := ([(⟨#[42]⟩ : ByteArray)] : List ByteArray)) (inner := [.string (⟨#[42]⟩ : ByteArray)]) (ok := fun _ => True) (okp := fun _ => True) ?hr ?hp (fun _ hk => hk) trivial (Below.refl _ _) (Nat.le_refl _) (by simp) ?_; (case hd => rfl); (case hg => rfl); (case hr => first | (go_simp; done) | (go_simp; rfl)); (case hp => exact (Reps.one (show Kd.M Kd.string _ _ _ (⟨#[42]⟩ : ByteArray) [.string (⟨#[42]⟩ : ByteArray)] from rfl) (Reps.none _ _))); intro v480 w33 ho34 hb hg_ hnew_; clear hg_ hnew_; (first | rw [← Ny479.out] at ho34 | (simp only [Int.reduceToNat] at ho34; rw [← Ny479.out] at ho34)); have n0_ := Aside0.mk (Kd.R_elder' (by (with_reducible repeat (first | apply Kd.R_alloc | apply Kd.R_drewN | apply Kd.R_drew)); exact HO478.out) (Kd.R_base ho34) hb); have n1_ := Aside0.mk (Kd.R_lower (Kd.R_new' ho34 (Kd.R_lt (by (with_reducible repeat (first | apply Kd.R_alloc | apply Kd.R_drewN | apply Kd.R_drew)); exact HO478.out))) (below_size (by repeat (first | (with_reducible first | exact HB.out | apply below_alloc | apply pw_below_drewN | apply below_drew1) | exact HB.out)))); have n2_ := Aside0.mk (below_step (by repeat (first | (with_reducible first | exact HB.out | apply below_alloc | apply pw_below_drewN | apply below_drew1) | exact HB.out)) hb); clear HO478; clear HB; have HO478 := n0_; have HO481 := n1_; have HB := n2_; clear n0_ n1_ n2_; clear hb ho34) | ((with_reducible refine gate_dst (N := 10) rfl ?_); refine Kd.R_lit Kd.string _ 9 ?hg (N := 10) ?hd (xs := ([(⟨#[114, 112, 122, 45, 112, 97, 115, 115, 116, 104, 114, 117]⟩ : ByteArray)] : List ByteArray)) (inner := [.string (⟨#[114, 112, 122, 45, 112, 97, 115, 115, 116, 104, 114, 117]⟩ : ByteArray)]) (ok := fun _ => True) (okp := fun _ => True) ?hr ?hp (fun _ hk => hk) trivial (Below.refl _ _) (Nat.le_refl _) (by simp) ?_; (case hd => rfl); (case hg => rfl); (case hr => first | (go_simp; done) | (go_simp; rfl)); (case hp => exact (Reps.one (show Kd.M Kd.string _ _ _ (⟨#[114, 112, 122, 45, 112, 97, 115, 115, 116, 104, 114, 117]⟩ : ByteArray) [.string (⟨#[114, 112, 122, 45, 112, 97, 115, 115, 116, 104, 114, 117]⟩ : ByteArray)] from rfl) (Reps.none _ _))); intro v483 w35 ho36 hb hg_ hnew_; clear hg_ hnew_; (first | rw [← Ny482.out] at ho36 | (simp only [Int.reduceToNat] at ho36; rw [← Ny482.out] at ho36)); have n0_ := Aside0.mk (Kd.R_elder' (by (with_reducible repeat (first | apply Kd.R_alloc | apply Kd.R_drewN | apply Kd.R_drew)); exact HO478.out) (Kd.R_base ho36) hb); have n1_ := Aside0.mk (Kd.R_elder' (by (with_reducible repeat (first | apply Kd.R_alloc | apply Kd.R_drewN | apply Kd.R_drew)); exact HO481.out) (Kd.R_base ho36) hb); have n2_ := Aside0.mk (Kd.R_lower (Kd.R_new' (Kd.R_new' ho36 (Kd.R_lt (by (with_reducible repeat (first | apply Kd.R_alloc | apply Kd.R_drewN | apply Kd.R_drew)); exact HO478.out))) (Kd.R_lt (by (with_reducible repeat (first | apply Kd.R_alloc | apply Kd.R_drewN | apply Kd.R_drew)); exact HO481.out))) (below_size (by repeat (first | (with_reducible first | exact HB.out | apply below_alloc | apply pw_below_drewN | apply below_drew1) | exact HB.out)))); have n3_ := Aside0.mk (below_step (by repeat (first | (with_reducible first | exact HB.out | apply below_alloc | apply pw_below_drewN | apply below_drew1) | exact HB.out)) hb); clear HO478; clear HO481; clear HB; have HO478 := n0_; have HO481 := n1_; have HO484 := n2_; have HB := n3_; clear n0_ n1_ n2_ n3_; clear hb ho36) | ((with_reducible refine gate_dst (N := 11) rfl ?_); refine Kd.R_lit Kd.string _ 9 ?hg (N := 11) ?hd (xs := ([(⟨#[114, 112, 122, 45, 100, 114, 111, 112]⟩ : ByteArray)] : List ByteArray)) (inner := [.string (⟨#[114, 112, 122, 45, 100, 114, 111, 112]⟩ : ByteArray)]) (ok := fun _ => True) (okp := fun _ => True) ?hr ?hp (fun _ hk => hk) trivial (Below.refl _ _) (Nat.le_refl _) (by simp) ?_; (case hd => rfl); (case hg => rfl); (case hr => first | (go_simp; done) | (go_simp; rfl)); (case hp => exact (Reps.one (show Kd.M Kd.string _ _ _ (⟨#[114, 112, 122, 45, 100, 114, 111, 112]⟩ : ByteArray) [.string (⟨#[114, 112, 122, 45, 100, 114, 111, 112]⟩ : ByteArray)] from rfl) (Reps.none _ _))); intro v486 w37 ho38 hb hg_ hnew_; clear hg_ hnew_; (first | rw [← Ny485.out] at ho38 | (simp only [Int.reduceToNat] at ho38; rw [← Ny485.out] at ho38)); have n0_ := Aside0.mk (Kd.R_elder' (by (with_reducible repeat (first | apply Kd.R_alloc | apply Kd.R_drewN | apply Kd.R_drew)); exact HO478.out) (Kd.R_base ho38) hb); have n1_ := Aside0.mk (Kd.R_elder' (by (with_reducible repeat (first | apply Kd.R_alloc | apply Kd.R_drewN | apply Kd.R_drew)); exact HO481.out) (Kd.R_base ho38) hb); have n2_ := Aside0.mk (Kd.R_elder' (by (with_reducible repeat (first | apply Kd.R_alloc | apply Kd.R_drewN | apply Kd.R_drew)); exact HO484.out) (Kd.R_base ho38) hb); have n3_ := Aside0.mk (Kd.R_lower (Kd.R_new' (Kd.R_new' (Kd.R_new' ho38 (Kd.R_lt (by (with_reducible repeat (first | apply Kd.R_alloc | apply Kd.R_drewN | apply Kd.R_drew)); exact HO478.out))) (Kd.R_lt (by (with_reducible repeat (first | apply Kd.R_alloc | apply Kd.R_drewN | apply Kd.R_drew)); exact HO481.out))) (Kd.R_lt (by (with_reducible repeat (first | apply Kd.R_alloc | apply Kd.R_drewN | apply Kd.R_drew)); exact HO484.out))) (below_size (by repeat (first | (with_reducible first | exact HB.out | apply below_alloc | apply pw_below_drewN | apply below_drew1) | exact HB.out)))); have n4_ := Aside0.mk (below_step (by repeat (first | (with_reducible first | exact HB.out | apply below_alloc | apply pw_below_drewN | apply below_drew1) | exact HB.out)) hb); clear HO478; clear HO481; clear HO484; clear HB; have HO478 := n0_; have HO481 := n1_; have HO484 := n2_; have HO487 := n3_; have HB := n4_; clear n0_ n1_ n2_ n3_ n4_; clear hb ho38) | ((with_reducible refine gate_dst (N := 12) rfl ?_); refine Kd.R_lit Kd.string _ 9 ?hg (N := 12) ?hd (xs := ([(⟨#[114, 112, 122, 45, 116, 99, 112, 45, 111, 110, 108, 121]⟩ : ByteArray)] : List ByteArray)) (inner := [.string (⟨#[114, 112, 122, 45, 116, 99, 112, 45, 111, 110, 108, 121]⟩ : ByteArray)]) (ok := fun _ => True) (okp := fun _ => True) ?hr ?hp (fun _ hk => hk) trivial (Below.refl _ _) (Nat.le_refl _) (by simp) ?_; (case hd => rfl); (case hg => rfl); (case hr => first | (go_simp; done) | (go_simp; rfl)); (case hp => exact (Reps.one (show Kd.M Kd.string _ _ _ (⟨#[114, 112, 122, 45, 116, 99, 112, 45, 111, 110, 108, 121]⟩ : ByteArray) [.string (⟨#[114, 112, 122, 45, 116, 99, 112, 45, 111, 110, 108, 121]⟩ : ByteArray)] from rfl) (Reps.none _ _))); intro v489 w39 ho40 hb hg_ hnew_; clear hg_ hnew_; (first | rw [← Ny488.out] at ho40 | (simp only [Int.reduceToNat] at ho40; rw [← Ny488.out] at ho40)); have n0_ := Aside0.mk (Kd.R_elder' (by (with_reducible repeat (first | apply Kd.R_alloc | apply Kd.R_drewN | apply Kd.R_drew)); exact HO478.out) (Kd.R_base ho40) hb); have n1_ := Aside0.mk (Kd.R_elder' (by (with_reducible repeat (first | apply Kd.R_alloc | apply Kd.R_drewN | apply Kd.R_drew)); exact HO481.out) (Kd.R_base ho40) hb); have n2_ := Aside0.mk (Kd.R_elder' (by (with_reducible repeat (first | apply Kd.R_alloc | apply Kd.R_drewN | apply Kd.R_drew)); exact HO484.out) (Kd.R_base ho40) hb); have n3_ := Aside0.mk (Kd.R_elder' (by (with_reducible repeat (first | apply Kd.R_alloc | apply Kd.R_drewN | apply Kd.R_drew)); exact HO487.out) (Kd.R_base ho40) hb); have n4_ := Aside0.mk (Kd.R_lower (Kd.R_new' (Kd.R_new' (Kd.R_new' (Kd.R_new' ho40 (Kd.R_lt (by (with_reducible repeat (first | apply Kd.R_alloc | apply Kd.R_drewN | apply Kd.R_drew)); exact HO478.out))) (Kd.R_lt (by (with_reducible repeat (first | apply Kd.R_alloc | apply Kd.R_drewN | apply Kd.R_drew)); exact HO481.out))) (Kd.R_lt (by (with_reducible repeat (first | apply Kd.R_alloc | apply Kd.R_drewN | apply Kd.R_drew)); exact HO484.out))) (Kd.R_lt (by (with_reducible repeat (first | apply Kd.R_alloc | apply Kd.R_drewN | apply Kd.R_drew)); exact HO487.out))) (below_size (by repeat (first | (with_reducible first | exact HB.out | apply below_alloc | apply pw_below_drewN | apply below_drew1) | exact HB.out)))); have n5_ := Aside0.mk (below_step (by repeat (first | (with_reducible first | exact HB.out | apply below_alloc | apply pw_below_drewN | apply below_drew1) | exact HB.out)) hb); clear HO478; clear HO481; clear HO484; clear HO487; clear HB; have HO478 := n0_; have HO481 := n1_; have HO484 := n2_; have HO487 := n3_; have HO490 := n4_; have HB := n5_; clear n0_ n1_ n2_ n3_ n4_ n5_; clear hb ho40) | ((with_reducible refine gate_dst (N := 13) rfl ?_); refine Kd.R_lit Kd.string _ 9 ?hg (N := 13) ?hd (xs := ([(⟨#[42]⟩ : ByteArray), (⟨#[111, 114, 103]⟩ : ByteArray)] : List ByteArray)) (inner := [.string (⟨#[42]⟩ : ByteArray), .string (⟨#[111, 114, 103]⟩ : ByteArray)]) (ok := fun _ => True) (okp := fun _ => True) ?hr ?hp (fun _ hk => hk) trivial (Below.refl _ _) (Nat.le_refl _) (by simp) ?_; (case hd => rfl); (case hg => rfl); (case hr => first | (go_simp; done) | (go_simp; rfl)); (case hp => exact (Reps.one (show Kd.M Kd.string _ _ _ (⟨#[42]⟩ : ByteArray) [.string (⟨#[42]⟩ : ByteArray)] from rfl) (Reps.one (show Kd.M Kd.string _ _ _ (⟨#[111, 114, 103]⟩ : ByteArray) [.string (⟨#[111, 114, 103]⟩ : ByteArray)] from rfl) (Reps.none _ _)))); intro v492 w41 ho42 hb hg_ hnew_; clear hg_ hnew_; (first | rw [← Ny491.out] at ho42 | (simp only [Int.reduceToNat] at ho42; rw [← Ny491.out] at ho42)); have n0_ := Aside0.mk (Kd.R_elder' (by (with_reducible repeat (first | apply Kd.R_alloc | apply Kd.R_drewN | apply Kd.R_drew)); exact HO478.out) (Kd.R_base ho42) hb); have n1_ := Aside0.mk (Kd.R_elder' (by (with_reducible repeat (first | apply Kd.R_alloc | apply Kd.R_drewN | apply Kd.R_drew)); exact HO481.out) (Kd.R_base ho42) hb); have n2_ := Aside0.mk (Kd.R_elder' (by (with_reducible repeat (first | apply Kd.R_alloc | apply Kd.R_drewN | apply Kd.R_drew)); exact HO484.out) (Kd.R_base ho42) hb); have n3_ := Aside0.mk (Kd.R_elder' (by (with_reducible repeat (first | apply Kd.R_alloc | apply Kd.R_drewN | apply Kd.R_drew)); exact HO487.out) (Kd.R_base ho42) hb); have n4_ := Aside0.mk (Kd.R_elder' (by (with_reducible repeat (first | apply Kd.R_alloc | apply Kd.R_drewN | apply Kd.R_drew)); exact HO490.out) (Kd.R_base ho42) hb); have n5_ := Aside0.mk (Kd.R_lower (Kd.R_new' (Kd.R_new' (Kd.R_new' (Kd.R_new' (Kd.R_new' ho42 (Kd.R_lt (by (with_reducible repeat (first | apply Kd.R_alloc | apply Kd.R_drewN | apply Kd.R_drew)); exact HO478.out))) (Kd.R_lt (by (with_reducible repeat (first | apply Kd.R_alloc | apply Kd.R_drewN | apply Kd.R_drew)); exact HO481.out))) (Kd.R_lt (by (with_reducible repeat (first | apply Kd.R_alloc | apply Kd.R_drewN | apply Kd.R_drew)); exact HO484.out))) (Kd.R_lt (by (with_reducible repeat (first | apply Kd.R_alloc | apply Kd.R_drewN | apply Kd.R_drew)); exact HO487.out))) (Kd.R_lt (by (with_reducible repeat (first | apply Kd.R_alloc | apply Kd.R_drewN | apply Kd.R_drew)); exact HO490.out))) (below_size (by repeat (first | (with_reducible first | exact HB.out | apply below_alloc | apply pw_below_drewN | apply below_drew1) | exact HB.out)))); have n6_ := Aside0.mk (below_step (by repeat (first | (with_reducible first | exact HB.out | apply below_alloc | apply pw_below_drewN | apply below_drew1) | exact HB.out)) hb); clear HO478; clear HO481; clear HO484; clear HO487; clear HO490; clear HB; have HO478 := n0_; have HO481 := n1_; have HO484 := n2_; have HO487 := n3_; have HO490 := n4_; have HO493 := n5_; have HB := n6_; clear n0_ n1_ n2_ n3_ n4_ n5_ n6_; clear hb ho42; obtain ⟨Ao43, co43, eo43⟩ := Kd.R_slice HO478.out; subst eo43; obtain ⟨Ao44, co44, eo44⟩ := Kd.R_slice HO481.out; subst eo44; obtain ⟨Ao45, co45, eo45⟩ := Kd.R_slice HO484.out; subst eo45; obtain ⟨Ao46, co46, eo46⟩ := Kd.R_slice HO487.out; subst eo46; obtain ⟨Ao47, co47, eo47⟩ := Kd.R_slice HO490.out; subst eo47; obtain ⟨Ao48, co48, eo48⟩ := Kd.R_slice HO493.out; subst eo48) | ((with_reducible refine gate_dst (N := 14) rfl ?_); refine Kd.N_lit (Kd.slice 9 Kd.string) _ 74 ?hg (N' := 14) ?hd (xs := ([y476, y479, y482, y485, y488, y491] : List (List ByteArray))) (inner := [.slice Ao43 y476.length co43, .slice Ao44 y479.length co44, .slice Ao45 y482.length co45, .slice Ao46 y485.length co46, .slice Ao47 y488.length co47, .slice Ao48 y491.length co48]) (ok := (fun _ => True)) (okp := (fun _ => True)) ?hr ?hp (fun _ hk => hk) ((show ∀ k_, w41.heap.size ≤ k_ → (fun _ => True) k_ from fun k_ hk => trivial) _ (Nat.le_refl _)) (Below.refl _ _) (Nat.le_refl _) (by simp) ?_; (case hd => rfl); (case hg => rfl); (case hr => first | (go_simp; done) | (go_simp; rfl)); (case hp => exact (Reps.one (show Kd.FK (Kd.slice 9 Kd.string) _ _ y476 [.slice Ao43 y476.length co43] from (Kd.FK_slice_mk (Kd.R_reads' (Kd.R_mono (ok' := (fun _ => True)) (HO478.out) (fun k_ hk => trivial))).2.1 (Kd.R_F (Kd.R_mono (ok' := (fun _ => True)) (HO478.out) (fun k_ hk => trivial))))) (Reps.one (show Kd.FK (Kd.slice 9 Kd.string) _ _ y479 [.slice Ao44 y479.length co44] from (Kd.FK_slice_mk (Kd.R_reads' (Kd.R_mono (ok' := (fun _ => True)) (HO481.out) (fun k_ hk => trivial))).2.1 (Kd.R_F (Kd.R_mono (ok' := (fun _ => True)) (HO481.out) (fun k_ hk => trivial))))) (Reps.one (show Kd.FK (Kd.slice 9 Kd.string) _ _ y482 [.slice Ao45 y482.length co45] from (Kd.FK_slice_mk (Kd.R_reads' (Kd.R_mono (ok' := (fun _ => True)) (HO484.out) (fun k_ hk => trivial))).2.1 (Kd.R_F (Kd.R_mono (ok' := (fun _ => True)) (HO484.out) (fun k_ hk => trivial))))) (Reps.one (show Kd.FK (Kd.slice 9 Kd.string) _ _ y485 [.slice Ao46 y485.length co46] from (Kd.FK_slice_mk (Kd.R_reads' (Kd.R_mono (ok' := (fun _ => True)) (HO487.out) (fun k_ hk => trivial))).2.1 (Kd.R_F (Kd.R_mono (ok' := (fun _ => True)) (HO487.out) (fun k_ hk => trivial))))) (Reps.one (show Kd.FK (Kd.slice 9 Kd.string) _ _ y488 [.slice Ao47 y488.length co47] from (Kd.FK_slice_mk (Kd.R_reads' (Kd.R_mono (ok' := (fun _ => True)) (HO490.out) (fun k_ hk => trivial))).2.1 (Kd.R_F (Kd.R_mono (ok' := (fun _ => True)) (HO490.out) (fun k_ hk => trivial))))) (Reps.one (show Kd.FK (Kd.slice 9 Kd.string) _ _ y491 [.slice Ao48 y491.length co48] from (Kd.FK_slice_mk (Kd.R_reads' (Kd.R_mono (ok' := (fun _ => True)) (HO493.out) (fun k_ hk => trivial))).2.1 (Kd.R_F (Kd.R_mono (ok' := (fun _ => True)) (HO493.out) (fun k_ hk => trivial))))) (Reps.none _ _)))))))); intro v495 w49 ho50 hb hg_ hnew_; clear hg_ hnew_; (first | rw [← Ny494.out] at ho50 | (simp only [Int.reduceToNat] at ho50; rw [← Ny494.out] at ho50)); have n0_ := Aside0.mk (Kd.N_lower ho50 (below_size (by repeat (first | (with_reducible first | exact HB.out | apply below_alloc | apply pw_below_drewN | apply below_drew1) | exact HB.out)))); have n1_ := Aside0.mk (below_step (by repeat (first | (with_reducible first | exact HB.out | apply below_alloc | apply pw_below_drewN | apply below_drew1) | exact HB.out)) hb); clear HB; clear HO478; clear HO481; clear HO484; clear HO487; clear HO490; clear HO493; have HO496 := n0_; have HB := n1_; clear n0_ n1_; clear hb ho50) | ((with_reducible refine gate_callee (f := 16) rfl ?_); refine goesL_ (some 29) rfl rfl Try.func16 (by kernel_rfl) rfl #[.slice A1 l1.length c1] rfl (by (try simp only [List.map_toArray, List.map_cons, List.map_nil]); first | done | rfl | (simp only [List.length_drop, List.length_take]; rfl)) ?_; (with_reducible refine (bolterlaw02_Name.calls k _ _ l1 t500 _ ?side1 ?side2 A30.out).mono ?_); (case side1 => repeat (first | exact (Kd.C_below HR1.out HB.out) | (with_reducible refine Kd.C_alloc ?_ _) | (with_reducible refine Kd.C_drewN ?_ _) | (with_reducible refine Kd.C_drew ?_))); (case side2 => exact HC1.out); rintro e w51 ⟨rfl, hb⟩; refine ⟨_, rfl, ?_⟩; have n0_ := Aside0.mk (Kd.N_below (by (with_reducible repeat (first | apply Kd.N_alloc | apply Kd.N_drewN | apply Kd.N_drew)); exact HO496.out) hb); have n1_ := Aside0.mk (below_step (by repeat (first | (with_reducible first | exact HB.out | apply below_alloc | apply pw_below_drewN | apply below_drew1) | exact HB.out)) hb); clear HO496; clear HB; have HO496 := n0_; have HB := n1_; clear n0_ n1_; (try clear hb); (try clear hb2); (try clear hk); (try clear hi)))
  go_ret
  exact ⟨by first | rfl | (simp [errW_none, errW_some] <;> rfl) | (simp [*, errW_none, errW_some] <;> rfl), by repeat (first | (with_reducible first | exact HB.out | apply below_alloc | apply pw_below_drewN | apply below_drew1) | exact HB.out)⟩

end Go.Proofs.Ytdkjlbbbdjkhbaa.PAll

namespace Go.Proofs.Ytdkjlbbbdjkhbaa.PAll
open Go.RowKit Go.Proofs.YtdkjlbbbdjkhbaaW.PrintWords Go.Proofs.YtdkjlbbbdjkhbaaW.PrintLast Go.Proofs.YtdkjlbbbdjkhbaaW.PrintMore
attribute [local go_sem] max2_int min2_int max_two min_two max_three min_three max_four min_four   -- for this text's walks alone
open Go.Proofs.Ytdkjlbbbdjkhbaa.Hand

/-! ### bolterlaw21_Choice_Action: function 30 -/
def bolterlaw21_Choice_Action.f (k : Nat) (a0_0 : Int) (a0_1 : Int) (l0_2 : List Int) (l0_3 : List (S86)) : Option (Int × ByteArray × Bool × (List (S43))) := if (wrap64 (Int.tmod a0_0 10)) = 7 then ((bolterlaw14_Target.f k a0_1 l0_2).bind fun t504 => (if (wrap64 (Int.tmod a0_0 10)) = 8 then ((bolterlaw05_Records.f k l0_3 6).bind fun t505 => (some (wrap64 (Int.tmod a0_0 10), t504, ((Int.tmod a0_1 3) == 0), t505))) else (some (wrap64 (Int.tmod a0_0 10), t504, ((Int.tmod a0_1 3) == 0), ([] : List (S43)))))) else (if (wrap64 (Int.tmod a0_0 10)) = 8 then ((bolterlaw05_Records.f k l0_3 6).bind fun t508 => (some (wrap64 (Int.tmod a0_0 10), (⟨#[]⟩ : ByteArray), false, t508))) else (some (wrap64 (Int.tmod a0_0 10), (⟨#[]⟩ : ByteArray), false, ([] : List (S43)))))
theorem bolterlaw21_Choice_Action.mono : ∀ a0 a1 a2 a3 k, LeO (bolterlaw21_Choice_Action.f k a0 a1 a2 a3) (bolterlaw21_Choice_Action.f (k + 1) a0 a1 a2 a3) := by
 intro a0 a1 a2 a3 k
 unfold bolterlaw21_Choice_Action.f
 repeat' first
   | (with_reducible exact bolterlaw05_Records.mono _ _ _)
   | (with_reducible exact bolterlaw14_Target.mono _ _ _)
   | (with_reducible exact LeO.refl _)
   | (with_reducible exact LeO.none _)
   | (with_reducible refine LeO.ite ?_ ?_)
   | (with_reducible refine LeO.bind ?_ (fun _ => ?_))
   | exact bolterlaw05_Records.mono _ _ _
   | exact bolterlaw14_Target.mono _ _ _
   | exact LeO.none _
   | refine LeO.ite ?_ ?_
   | refine LeO.bind ?_ (fun _ => ?_)
def bolterlaw21_Choice_Action.T3 : Bool × List (List Nat × List Nat) := (true, [([], []), ([0], [0]), ([], []), ([2], [2]), ([1, 3], [1, 3]), ([], []), ([5], [5]), ([6], [6]), ([7], [7]), ([0, 1, 2, 3, 4], []), ([9, 4, 4, 0, 1, 2, 3, 4], [4, 9]), ([0, 1, 2, 3, 4, 5, 6, 7, 8, 9, 10], []), ([11, 8, 10, 0, 1, 2, 3, 4, 5, 6, 7, 8, 9, 10], [8, 11])])
def bolterlaw21_Choice_Action.B3 : List Nat := [0, 1, 0, 4, 15, 0, 32, 96, 224, 31, 543, 2047, 4095]
theorem bolterlaw21_Choice_Action.tab3 : rtab .any (opsOf Try.f30 3) = bolterlaw21_Choice_Action.T3 := by kernel_rfl
theorem bolterlaw21_Choice_Action.bits3 : waitsOk bolterlaw21_Choice_Action.T3.2 bolterlaw21_Choice_Action.B3 = true := by kernel_rfl
set_option maxHeartbeats 8000000 in
set_option maxRecDepth 100000 in
theorem bolterlaw21_Choice_Action.calls (k : Nat) (a0_0 : Int) (a0_1 : Int) (A0_2 : Option Addr) (c0_2 : Nat) (l0_2 : List Int) (A0_3 : Option Addr) (c0_3 : Nat) (l0_3 : List (S86)) (r1 : Int) (r2 : ByteArray) (r3 : Bool) (r4 : List (S43)) (w : World) (hr0_2 : Kd.C (Kd.int .u8) w A0_2 l0_2.length l0_2) (hc0_2 : l0_2.length ≤ c0_2) (hr0_3 : Kd.C k86 w A0_3 l0_3.length l0_3) (hc0_3 : l0_3.length ≤ c0_3) (h : bolterlaw21_Choice_Action.f k a0_0 a0_1 l0_2 l0_3 = some (r1, r2, r3, r4)) :
  Calls Try.prog 30 #[.agg #[.int .u8 a0_0, .int .u8 a0_1, .slice A0_2 l0_2.length c0_2, .slice A0_3 l0_3.length c0_3]] w fun e w' => ∃ v3_ : Value, e = .returned (.agg #[.int .i64 r1, .string r2, .bool r3, v3_]) ∧ Kd.R k43 43 w' w.heap.size (fun _ => True) v3_ r4 ∧ Below w.heap.size w w' := by
 have hu64 := Try.underlying64
 have hu28 := Try.underlying28
 have HR0_2 := Aside0.mk hr0_2
 have HC0_2 := Aside0.mk hc0_2
 clear hr0_2 hc0_2
 have HR0_3 := Aside0.mk hr0_3
 have HC0_3 := Aside0.mk hc0_3
 clear hr0_3 hc0_3
 have HB := Aside0.mk (Below.refl w.heap.size w)
 have H : (if (wrap64 (Int.tmod a0_0 10)) = 7 then ((bolterlaw14_Target.f k a0_1 l0_2).bind fun t504 => (if (wrap64 (Int.tmod a0_0 10)) = 8 then ((bolterlaw05_Records.f k l0_3 6).bind fun t505 => (some (wrap64 (Int.tmod a0_0 10), t504, ((Int.tmod a0_1 3) == 0), t505))) else (some (wrap64 (Int.tmod a0_0 10), t504, ((Int.tmod a0_1 3) == 0), ([] : List (S43)))))) else (if (wrap64 (Int.tmod a0_0 10)) = 8 then ((bolterlaw05_Records.f k l0_3 6).bind fun t508 => (some (wrap64 (Int.tmod a0_0 10), (⟨#[]⟩ : ByteArray), false, t508))) else (some (wrap64 (Int.tmod a0_0 10), (⟨#[]⟩ : ByteArray), false, ([] : List (S43)))))) = some (r1, r2, r3, r4) := h
 clear h
 by_cases c2 : (wrap64 (Int.tmod a0_0 10)) = 7
 ·rw [if_pos c2] at H
  have c2b0 : ((wrap64 (Int.tmod a0_0 10)) == 7) = true := beq_iff_eq.mpr c2
  have c2b1 : ((wrap64 (Int.tmod a0_0 10)) != 7) = false := bne_eq_false_iff_eq.mpr c2
  clear c2
  replace H := Option.bind_eq_some_iff.mp H
  obtain ⟨t504, A30, H⟩ := H
  replace H : (if (wrap64 (Int.tmod a0_0 10)) = 8 then ((bolterlaw05_Records.f k l0_3 6).bind fun t505 => (some (wrap64 (Int.tmod a0_0 10), t504, ((Int.tmod a0_1 3) == 0), t505))) else (some (wrap64 (Int.tmod a0_0 10), t504, ((Int.tmod a0_1 3) == 0), ([] : List (S43))))) = some (r1, r2, r3, r4) := H
  have A3 := Aside0.mk A30
  clear A30
  by_cases c4 : (wrap64 (Int.tmod a0_0 10)) = 8
  ·rw [if_pos c4] at H
   have c4b0 : ((wrap64 (Int.tmod a0_0 10)) == 8) = true := beq_iff_eq.mpr c4
   have c4b1 : ((wrap64 (Int.tmod a0_0 10)) != 8) = false := bne_eq_false_iff_eq.mpr c4
   clear c4
   replace H := Option.bind_eq_some_iff.mp H
   obtain ⟨t505, A50, H⟩ := H
   replace H : (some (wrap64 (Int.tmod a0_0 10), t504, ((Int.tmod a0_1 3) == 0), t505)) = some (r1, r2, r3, r4) := H
   have A5 := Aside0.mk A50
   clear A50
   simp only [Option.some.injEq, Prod.mk.injEq] at H
   obtain ⟨rfl, rfl, rfl, rfl⟩ := H
   go_enter Try.func30, Try.ntmps30
   try go_wp2_with (first | ((with_reducible refine gate_dst (N := 1) rfl ?_); refine box_event ?hg (N := 1) ?hd (cs := #[.int .u8 a0_0, .int .u8 a0_1, .slice A0_2 l0_2.length c0_2, .slice A0_3 l0_3.length c0_3]) (t := 64) ?hr ?_; (case hd => rfl); (case hg => rfl); (case hr => first | (go_simp; done) | (go_simp; rfl)); intro gb501 hg w6 hbox hb; have n0_ := Aside0.mk (below_step (by repeat (first | (with_reducible first | exact HB.out | apply below_alloc | apply pw_below_drewN | apply below_drew1) | exact HB.out)) hb); have n1_ := Aside0.mk (hbox); have n2_ := Aside0.mk ((by rw [hg]; exact (below_size (by repeat (first | (with_reducible first | exact HB.out | apply below_alloc | apply pw_below_drewN | apply below_drew1) | exact HB.out))) : w.heap.size ≤ gb501)); have n3_ := Aside0.mk ((by rw [hg]; exact (below_size (by repeat (first | (with_reducible first | exact HB.out | apply below_alloc | apply pw_below_drewN | apply below_drew1) | exact HB.out))) : w.heap.size ≤ gb501)); clear HB; have HB := n0_; have BK501 := n1_; have GW501 := n2_; have GE501 := n3_; clear n0_ n1_ n2_ n3_; clear hb hbox hg) | ((with_reducible refine gate_dst (N := 2) rfl ?_); refine box_event ?hg (N := 2) ?hd (cs := #[.int .i64 0, .string (⟨#[]⟩ : ByteArray), .bool false, .slice none 0 0]) (t := 28) ?hr ?_; (case hd => rfl); (case hg => rfl); (case hr => first | (go_simp; done) | (go_simp; rfl)); intro gb502 hg w7 hbox hb; have n0_ := Aside0.mk (blk_below (g := gb501) (o := .cells #[.int .u8 a0_0, .int .u8 a0_1, .slice A0_2 l0_2.length c0_2, .slice A0_3 l0_3.length c0_3] 64 (0, 0)) (by (with_reducible repeat (first | refine blk_drewN ?_ _ | refine blk_drew ?_ | refine blk_alloc ?_ _)); exact BK501.out) hb); have n1_ := Aside0.mk (below_step (by repeat (first | (with_reducible first | exact HB.out | apply below_alloc | apply pw_below_drewN | apply below_drew1 | refine below_set ?_ GE501.out) | exact HB.out)) hb); have n2_ := Aside0.mk (hbox); have n3_ := Aside0.mk ((by rw [hg]; exact (below_size (by repeat (first | (with_reducible first | exact HB.out | apply below_alloc | apply pw_below_drewN | apply below_drew1 | refine below_set ?_ GE501.out) | exact HB.out))) : w.heap.size ≤ gb502)); have n4_ := Aside0.mk ((by rw [hg]; exact (below_size (by repeat (first | (with_reducible first | exact HB.out | apply below_alloc | apply pw_below_drewN | apply below_drew1 | refine below_set ?_ GE501.out) | exact HB.out))) : w.heap.size ≤ gb502)); have n5_ := Aside0.mk ((by rw [hg]; exact Nat.ne_of_lt (blk_lt (g := gb501) (o := .cells #[.int .u8 a0_0, .int .u8 a0_1, .slice A0_2 l0_2.length c0_2, .slice A0_3 l0_3.length c0_3] 64 (0, 0)) (by (with_reducible repeat (first | refine blk_drewN ?_ _ | refine blk_drew ?_ | refine blk_alloc ?_ _)); exact BK501.out)) : gb501 ≠ gb502)); have n6_ := Aside0.mk ((by rw [hg]; exact Nat.ne_of_gt (blk_lt (g := gb501) (o := .cells #[.int .u8 a0_0, .int .u8 a0_1, .slice A0_2 l0_2.length c0_2, .slice A0_3 l0_3.length c0_3] 64 (0, 0)) (by (with_reducible repeat (first | refine blk_drewN ?_ _ | refine blk_drew ?_ | refine blk_alloc ?_ _)); exact BK501.out)) : gb502 ≠ gb501)); clear BK501; clear HB; have BK501 := n0_; have HB := n1_; have BK502 := n2_; have GW502 := n3_; have GE502 := n4_; have NB501_502 := n5_; have NB502_501 := n6_; clear n0_ n1_ n2_ n3_ n4_ n5_ n6_; clear hb hbox hg; have hnb8 := NB501_502.out; have hnc8 := NB502_501.out; have hcz9_0 : w7.cell? ⟨gb501, 0, none⟩ = some (.int .u8 a0_0) := (blk_cell BK501.out 0).trans rfl; have hcz9_1 : w7.cell? ⟨gb501, 1, none⟩ = some (.int .u8 a0_1) := (blk_cell BK501.out 1).trans rfl; have hcz9_2 : w7.cell? ⟨gb501, 2, none⟩ = some (.slice A0_2 l0_2.length c0_2) := (blk_cell BK501.out 2).trans rfl; have hcz9_3 : w7.cell? ⟨gb501, 3, none⟩ = some (.slice A0_3 l0_3.length c0_3) := (blk_cell BK501.out 3).trans rfl; have hfz9_0 := blk_frozen BK501.out 0; have hfz9_1 := blk_frozen BK501.out 1; have hfz9_2 := blk_frozen BK501.out 2; have hfz9_3 := blk_frozen BK501.out 3) | ((with_reducible refine gate_dst (N := 3) rfl ?_); refine box_event ?hg (N := 3) ?hd (cs := #[.int .i64 0, .string (⟨#[]⟩ : ByteArray), .bool false, .slice none 0 0]) (t := 28) ?hr ?_; (case hd => rfl); (case hg => rfl); (case hr => first | (go_simp; done) | (go_simp; rfl)); intro gb503 hg w10 hbox hb; have n0_ := Aside0.mk (blk_below (g := gb501) (o := .cells #[.int .u8 a0_0, .int .u8 a0_1, .slice A0_2 l0_2.length c0_2, .slice A0_3 l0_3.length c0_3] 64 (0, 0)) (by (with_reducible repeat (first | refine blk_drewN ?_ _ | refine blk_drew ?_ | refine blk_alloc ?_ _)); exact BK501.out) hb); have n1_ := Aside0.mk (blk_below (g := gb502) (o := .cells #[.int .i64 0, .string (⟨#[]⟩ : ByteArray), .bool false, .slice none 0 0] 28 (0, 0)) (by (with_reducible repeat (first | refine blk_drewN ?_ _ | refine blk_drew ?_ | refine blk_alloc ?_ _)); exact BK502.out) hb); have n2_ := Aside0.mk (below_step (by repeat (first | (with_reducible first | exact HB.out | apply below_alloc | apply pw_below_drewN | apply below_drew1 | refine below_set ?_ GE501.out | refine below_set ?_ GE502.out) | exact HB.out)) hb); have n3_ := Aside0.mk (hbox); have n4_ := Aside0.mk ((by rw [hg]; exact (below_size (by repeat (first | (with_reducible first | exact HB.out | apply below_alloc | apply pw_below_drewN | apply below_drew1 | refine below_set ?_ GE501.out | refine below_set ?_ GE502.out) | exact HB.out))) : w.heap.size ≤ gb503)); have n5_ := Aside0.mk ((by rw [hg]; exact (below_size (by repeat (first | (with_reducible first | exact HB.out | apply below_alloc | apply pw_below_drewN | apply below_drew1 | refine below_set ?_ GE501.out | refine below_set ?_ GE502.out) | exact HB.out))) : w.heap.size ≤ gb503)); have n6_ := Aside0.mk ((by rw [hg]; exact Nat.ne_of_lt (blk_lt (g := gb501) (o := .cells #[.int .u8 a0_0, .int .u8 a0_1, .slice A0_2 l0_2.length c0_2, .slice A0_3 l0_3.length c0_3] 64 (0, 0)) (by (with_reducible repeat (first | refine blk_drewN ?_ _ | refine blk_drew ?_ | refine blk_alloc ?_ _)); exact BK501.out)) : gb501 ≠ gb503)); have n7_ := Aside0.mk ((by rw [hg]; exact Nat.ne_of_gt (blk_lt (g := gb501) (o := .cells #[.int .u8 a0_0, .int .u8 a0_1, .slice A0_2 l0_2.length c0_2, .slice A0_3 l0_3.length c0_3] 64 (0, 0)) (by (with_reducible repeat (first | refine blk_drewN ?_ _ | refine blk_drew ?_ | refine blk_alloc ?_ _)); exact BK501.out)) : gb503 ≠ gb501)); have n8_ := Aside0.mk ((by rw [hg]; exact Nat.ne_of_lt (blk_lt (g := gb502) (o := .cells #[.int .i64 0, .string (⟨#[]⟩ : ByteArray), .bool false, .slice none 0 0] 28 (0, 0)) (by (with_reducible repeat (first | refine blk_drewN ?_ _ | refine blk_drew ?_ | refine blk_alloc ?_ _)); exact BK502.out)) : gb502 ≠ gb503)); have n9_ := Aside0.mk ((by rw [hg]; exact Nat.ne_of_gt (blk_lt (g := gb502) (o := .cells #[.int .i64 0, .string (⟨#[]⟩ : ByteArray), .bool false, .slice none 0 0] 28 (0, 0)) (by (with_reducible repeat (first | refine blk_drewN ?_ _ | refine blk_drew ?_ | refine blk_alloc ?_ _)); exact BK502.out)) : gb503 ≠ gb502)); clear BK501; clear BK502; clear HB; have BK501 := n0_; have BK502 := n1_; have HB := n2_; have BK503 := n3_; have GW503 := n4_; have GE503 := n5_; have NB501_503 := n6_; have NB503_501 := n7_; have NB502_503 := n8_; have NB503_502 := n9_; clear n0_ n1_ n2_ n3_ n4_ n5_ n6_ n7_ n8_ n9_; clear hb hbox hg; have hnb11 := NB503_501.out; have hnc11 := NB501_503.out; have hnb12 := NB503_502.out; have hnc12 := NB502_503.out; have hcz13_0 : w10.cell? ⟨gb503, 0, none⟩ = some (.int .i64 0) := (blk_cell BK503.out 0).trans rfl; have hcz13_1 : w10.cell? ⟨gb503, 1, none⟩ = some (.string (⟨#[]⟩ : ByteArray)) := (blk_cell BK503.out 1).trans rfl; have hcz13_2 : w10.cell? ⟨gb503, 2, none⟩ = some (.bool false) := (blk_cell BK503.out 2).trans rfl; have hcz13_3 : w10.cell? ⟨gb503, 3, none⟩ = some (.slice none 0 0) := (blk_cell BK503.out 3).trans rfl; have hfz13_0 := blk_frozen BK503.out 0; have hfz13_1 := blk_frozen BK503.out 1; have hfz13_2 := blk_frozen BK503.out 2; have hfz13_3 := blk_frozen BK503.out 3))
   have n0_ : Aside0 (((((w10.setCell ⟨gb503, 0, none⟩ (.int .i64 (wrap64 (Int.tmod a0_0 10)))).setCell ⟨gb503, 1, none⟩ (.string (⟨#[]⟩ : ByteArray))).setCell ⟨gb503, 2, none⟩ (.bool false)).setCell ⟨gb503, 3, none⟩ (.slice none 0 0)).heap[gb501]? = some (.cells #[.int .u8 a0_0, .int .u8 a0_1, .slice A0_2 l0_2.length c0_2, .slice A0_3 l0_3.length c0_3] 64 (0, 0))) := ⟨by (with_reducible repeat (first | refine blk_drewN ?_ _ | refine blk_drew ?_ | refine blk_alloc ?_ _)); refine blk_far ?_ NB501_503.out _; (with_reducible repeat (first | refine blk_drewN ?_ _ | refine blk_drew ?_ | refine blk_alloc ?_ _)); refine blk_far ?_ NB501_503.out _; (with_reducible repeat (first | refine blk_drewN ?_ _ | refine blk_drew ?_ | refine blk_alloc ?_ _)); refine blk_far ?_ NB501_503.out _; (with_reducible repeat (first | refine blk_drewN ?_ _ | refine blk_drew ?_ | refine blk_alloc ?_ _)); refine blk_far ?_ NB501_503.out _; (with_reducible repeat (first | refine blk_drewN ?_ _ | refine blk_drew ?_ | refine blk_alloc ?_ _)); exact BK501.out⟩
   have n1_ : Aside0 (((((w10.setCell ⟨gb503, 0, none⟩ (.int .i64 (wrap64 (Int.tmod a0_0 10)))).setCell ⟨gb503, 1, none⟩ (.string (⟨#[]⟩ : ByteArray))).setCell ⟨gb503, 2, none⟩ (.bool false)).setCell ⟨gb503, 3, none⟩ (.slice none 0 0)).heap[gb502]? = some (.cells #[.int .i64 0, .string (⟨#[]⟩ : ByteArray), .bool false, .slice none 0 0] 28 (0, 0))) := ⟨by (with_reducible repeat (first | refine blk_drewN ?_ _ | refine blk_drew ?_ | refine blk_alloc ?_ _)); refine blk_far ?_ NB502_503.out _; (with_reducible repeat (first | refine blk_drewN ?_ _ | refine blk_drew ?_ | refine blk_alloc ?_ _)); refine blk_far ?_ NB502_503.out _; (with_reducible repeat (first | refine blk_drewN ?_ _ | refine blk_drew ?_ | refine blk_alloc ?_ _)); refine blk_far ?_ NB502_503.out _; (with_reducible repeat (first | refine blk_drewN ?_ _ | refine blk_drew ?_ | refine blk_alloc ?_ _)); refine blk_far ?_ NB502_503.out _; (with_reducible repeat (first | refine blk_drewN ?_ _ | refine blk_drew ?_ | refine blk_alloc ?_ _)); exact BK502.out⟩
   have n2_ : Aside0 (((((w10.setCell ⟨gb503, 0, none⟩ (.int .i64 (wrap64 (Int.tmod a0_0 10)))).setCell ⟨gb503, 1, none⟩ (.string (⟨#[]⟩ : ByteArray))).setCell ⟨gb503, 2, none⟩ (.bool false)).setCell ⟨gb503, 3, none⟩ (.slice none 0 0)).heap[gb503]? = some (.cells #[.int .i64 (wrap64 (Int.tmod a0_0 10)), .string (⟨#[]⟩ : ByteArray), .bool false, .slice none 0 0] 28 (0, 0))) := ⟨by (with_reducible repeat (first | refine blk_drewN ?_ _ | refine blk_drew ?_ | refine blk_alloc ?_ _)); refine blk_put (cs := #[.int .i64 (wrap64 (Int.tmod a0_0 10)), .string (⟨#[]⟩ : ByteArray), .bool false, .slice none 0 0]) ?_ 3 _ rfl; (with_reducible repeat (first | refine blk_drewN ?_ _ | refine blk_drew ?_ | refine blk_alloc ?_ _)); refine blk_put (cs := #[.int .i64 (wrap64 (Int.tmod a0_0 10)), .string (⟨#[]⟩ : ByteArray), .bool false, .slice none 0 0]) ?_ 2 _ rfl; (with_reducible repeat (first | refine blk_drewN ?_ _ | refine blk_drew ?_ | refine blk_alloc ?_ _)); refine blk_put (cs := #[.int .i64 (wrap64 (Int.tmod a0_0 10)), .string (⟨#[]⟩ : ByteArray), .bool false, .slice none 0 0]) ?_ 1 _ rfl; (with_reducible repeat (first | refine blk_drewN ?_ _ | refine blk_drew ?_ | refine blk_alloc ?_ _)); refine blk_put (cs := #[.int .i64 0, .string (⟨#[]⟩ : ByteArray), .bool false, .slice none 0 0]) ?_ 0 _ rfl; (with_reducible repeat (first | refine blk_drewN ?_ _ | refine blk_drew ?_ | refine blk_alloc ?_ _)); exact BK503.out⟩
   have n3_ : Aside0 (Below w.heap.size w ((((w10.setCell ⟨gb503, 0, none⟩ (.int .i64 (wrap64 (Int.tmod a0_0 10)))).setCell ⟨gb503, 1, none⟩ (.string (⟨#[]⟩ : ByteArray))).setCell ⟨gb503, 2, none⟩ (.bool false)).setCell ⟨gb503, 3, none⟩ (.slice none 0 0))) := ⟨by repeat (first | (with_reducible first | exact HB.out | apply below_alloc | apply pw_below_drewN | apply below_drew1 | refine below_set ?_ GE501.out | refine below_set ?_ GE502.out | refine below_set ?_ GE503.out) | exact HB.out)⟩
   (try clear BK501)
   (try clear BK502)
   (try clear BK503)
   (try clear HB)
   generalize ((((w10.setCell ⟨gb503, 0, none⟩ (.int .i64 (wrap64 (Int.tmod a0_0 10)))).setCell ⟨gb503, 1, none⟩ (.string (⟨#[]⟩ : ByteArray))).setCell ⟨gb503, 2, none⟩ (.bool false)).setCell ⟨gb503, 3, none⟩ (.slice none 0 0)) = w14 at n0_ n1_ n2_ n3_ ⊢
   have BK501 := n0_
   have BK502 := n1_
   have BK503 := n2_
   have HB := n3_
   clear n0_ n1_ n2_ n3_
   have n0_ := Aside0.mk (blk_drew BK501.out)
   have n1_ := Aside0.mk (blk_drew BK502.out)
   have n2_ := Aside0.mk (blk_drew BK503.out)
   have n3_ := Aside0.mk (below_drew1 HB.out)
   clear BK501
   clear BK502
   clear BK503
   clear HB
   have BK501 := n0_
   have BK502 := n1_
   have BK503 := n2_
   have HB := n3_
   clear n0_ n1_ n2_ n3_
   refine start_ (n := 13) (S := fun w' => w'.cell? ⟨gb501, 0, none⟩ = some (.int .u8 a0_0) ∧ w'.cell? ⟨gb501, 1, none⟩ = some (.int .u8 a0_1) ∧ w'.cell? ⟨gb501, 2, none⟩ = some (.slice A0_2 l0_2.length c0_2) ∧ w'.cell? ⟨gb501, 3, none⟩ = some (.slice A0_3 l0_3.length c0_3)) (ds := []) #[false, false, false, false, false, false, false, false, false, false, false, false, false] (by kernel_rfl) rfl rfl ⟨(blk_cell BK501.out 0).trans rfl, (blk_cell BK501.out 1).trans rfl, (blk_cell BK501.out 2).trans rfl, (blk_cell BK501.out 3).trans rfl⟩ (fun hHeld => ?_); refine with_tabW bolterlaw21_Choice_Action.tab3 bolterlaw21_Choice_Action.bits3 (fun HT_ HW_ => ?_)
   generalize w14.drew = w15 at BK501 BK502 BK503 HB hHeld ⊢
   refine pure_ (i := 0) (N := some 12) (v := ?_) (a' := ?_) #[true, false, false, false, false, false, false, false, false, false, false, false, false] rfl rfl (any_of HT_.out (by kernel_rfl)) (fun _ _ _ h => h) (Or.inl ⟨by rfl, ?_⟩) ?_ ?_
   rotate_left
   ·intro w'
    go_simp
    with_reducible rfl
   rotate_left
   ·simp only [Act.put, List.setIfInBounds_toArray, List.set_cons_zero, List.set_cons_succ, i64_w, i32_w]
    rfl
   refine pure_ (i := 2) (N := some 14) (v := ?_) (a' := ?_) #[true, false, true, false, false, false, false, false, false, false, false, false, false] rfl rfl (any_of HT_.out (by kernel_rfl)) (fun _ _ _ h => h) (Or.inl ⟨by rfl, ?_⟩) ?_ ?_
   rotate_left
   ·intro w'
    go_simp
    with_reducible rfl
   rotate_left
   ·simp only [Act.put, List.setIfInBounds_toArray, List.set_cons_zero, List.set_cons_succ, i64_w, i32_w]
    rfl
   refine pure_ (i := 5) (N := some 17) (v := ?_) (a' := ?_) #[true, false, true, false, false, true, false, false, false, false, false, false, false] rfl rfl (any_of HT_.out (by kernel_rfl)) (fun _ _ _ h => h) (Or.inl ⟨by rfl, ?_⟩) ?_ ?_
   rotate_left
   ·intro w'
    go_simp
    with_reducible rfl
   rotate_left
   ·simp only [Act.put, List.setIfInBounds_toArray, List.set_cons_zero, List.set_cons_succ, i64_w, i32_w]
    rfl
   refine take_ (i := 1) (N := some 13) (v := ?_) (a' := ?_) #[true, true, true, false, false, true, false, false, false, false, false, false, false] rfl rfl (take_ofW HT_.out HW_.out (by kernel_rfl)) (fun _ _ _ h => h) (Or.inl ⟨by rfl, ?_⟩) hHeld ?_ ?_
   rotate_left
   ·rintro w' ⟨s0, s1, s2, s3⟩
    go_simp
    with_reducible rfl
   rotate_left
   ·simp only [Act.put, List.setIfInBounds_toArray, List.set_cons_zero, List.set_cons_succ, i64_w, i32_w]
    rfl
   refine take_ (i := 3) (N := some 15) (v := ?_) (a' := ?_) #[true, true, true, true, false, true, false, false, false, false, false, false, false] rfl rfl (take_ofW HT_.out HW_.out (by kernel_rfl)) (fun _ _ _ h => h) (Or.inl ⟨by rfl, ?_⟩) hHeld ?_ ?_
   rotate_left
   ·rintro w' ⟨s0, s1, s2, s3⟩
    go_simp
    with_reducible rfl
   rotate_left
   ·simp only [Act.put, List.setIfInBounds_toArray, List.set_cons_zero, List.set_cons_succ, i64_w, i32_w]
    rfl
   refine take_ (i := 6) (N := some 18) (v := ?_) (a' := ?_) #[true, true, true, true, false, true, true, false, false, false, false, false, false] rfl rfl (take_ofW HT_.out HW_.out (by kernel_rfl)) (fun _ _ _ h => h) (Or.inl ⟨by rfl, ?_⟩) hHeld ?_ ?_
   rotate_left
   ·rintro w' ⟨s0, s1, s2, s3⟩
    go_simp
    with_reducible rfl
   rotate_left
   ·simp only [Act.put, List.setIfInBounds_toArray, List.set_cons_zero, List.set_cons_succ, i64_w, i32_w]
    rfl
   refine pure_ (i := 7) (N := some 19) (v := ?_) (a' := ?_) #[true, true, true, true, false, true, true, true, false, false, false, false, false] rfl rfl (any_of HT_.out (by kernel_rfl)) (fun _ _ _ h => h) (Or.inl ⟨by rfl, ?_⟩) ?_ ?_
   rotate_left
   ·intro w'
    go_simp
    with_reducible rfl
   rotate_left
   ·simp only [Act.put, List.setIfInBounds_toArray, List.set_cons_zero, List.set_cons_succ, i64_w, i32_w]
    rfl
   refine pure_ (i := 8) (N := some 20) (v := ?_) (a' := ?_) #[true, true, true, true, false, true, true, true, true, false, false, false, false] rfl rfl (any_of HT_.out (by kernel_rfl)) (fun _ _ _ h => h) (Or.inl ⟨by rfl, ?_⟩) ?_ ?_
   rotate_left
   ·intro w'
    go_simp
    with_reducible rfl
   rotate_left
   ·simp only [Act.put, List.setIfInBounds_toArray, List.set_cons_zero, List.set_cons_succ, i64_w, i32_w]
    rfl
   refine one_ (i := 4) (N := some 16) #[true, true, true, true, true, true, true, true, true, false, false, false, false] rfl rfl (one_of HT_.out (by kernel_rfl)) (by decide) (fun K hK => ?_)
   refine goes_ Try.func15 (by kernel_rfl) rfl #[.int .u8 a0_1, .slice A0_2 l0_2.length c0_2] (by rfl) rfl rfl (by (try simp only [List.map_toArray, List.map_cons, List.map_nil]); first | done | rfl | (simp only [List.length_drop, List.length_take]; rfl)) ?_
   with_reducible refine (bolterlaw14_Target.calls k a0_1 _ _ l0_2 t504 _ ?side1 ?side2 A3.out).mono ?_
   (case side1 => repeat (first | exact (Kd.C_below HR0_2.out HB.out) | (with_reducible refine Kd.C_alloc ?_ _) | (with_reducible refine Kd.C_drewN ?_ _) | (with_reducible refine Kd.C_drew ?_)))
   (case side2 => exact HC0_2.out)
   rintro e w16 ⟨rfl, hb⟩
   refine ⟨_, rfl, ?_⟩
   have n0_ := Aside0.mk (blk_below (g := gb501) (o := .cells #[.int .u8 a0_0, .int .u8 a0_1, .slice A0_2 l0_2.length c0_2, .slice A0_3 l0_3.length c0_3] 64 (0, 0)) (by (with_reducible repeat (first | refine blk_drewN ?_ _ | refine blk_drew ?_ | refine blk_alloc ?_ _)); exact BK501.out) hb)
   have n1_ := Aside0.mk (blk_below (g := gb502) (o := .cells #[.int .i64 0, .string (⟨#[]⟩ : ByteArray), .bool false, .slice none 0 0] 28 (0, 0)) (by (with_reducible repeat (first | refine blk_drewN ?_ _ | refine blk_drew ?_ | refine blk_alloc ?_ _)); exact BK502.out) hb)
   have n2_ := Aside0.mk (blk_below (g := gb503) (o := .cells #[.int .i64 (wrap64 (Int.tmod a0_0 10)), .string (⟨#[]⟩ : ByteArray), .bool false, .slice none 0 0] 28 (0, 0)) (by (with_reducible repeat (first | refine blk_drewN ?_ _ | refine blk_drew ?_ | refine blk_alloc ?_ _)); exact BK503.out) hb)
   have n3_ := Aside0.mk (below_step (by repeat (first | (with_reducible first | exact HB.out | apply below_alloc | apply pw_below_drewN | apply below_drew1 | refine below_set ?_ GE501.out | refine below_set ?_ GE502.out | refine below_set ?_ GE503.out) | exact HB.out)) hb)
   clear BK501
   clear BK502
   clear BK503
   clear HB
   have BK501 := n0_
   have BK502 := n1_
   have BK503 := n2_
   have HB := n3_
   clear n0_ n1_ n2_ n3_
   (try clear hb)
   (try clear hb2)
   (try clear hk)
   (try clear hi)
   refine hK.out _ _ ⟨(blk_cell BK501.out 0).trans rfl, (blk_cell BK501.out 1).trans rfl, (blk_cell BK501.out 2).trans rfl, (blk_cell BK501.out 3).trans rfl⟩ (fun hHeld => ?_)
   clear hK K
   refine norm_ (a' := ?_) ?_ ?_
   rotate_left
   ·show Act.put _ (some 16) _ = _
    simp only [Act.put, List.setIfInBounds_toArray, List.set_cons_zero, List.set_cons_succ, i64_w, i32_w]
    rfl
   refine pure_ (i := 9) (N := some 21) (v := ?_) (a' := ?_) #[true, true, true, true, true, true, true, true, true, true, false, false, false] rfl rfl (any_of HT_.out (by kernel_rfl)) (fun _ _ _ h => h) (Or.inl ⟨by rfl, ?_⟩) ?_ ?_
   rotate_left
   ·intro w'
    go_simp
    with_reducible rfl
   rotate_left
   ·simp only [Act.put, List.setIfInBounds_toArray, List.set_cons_zero, List.set_cons_succ, i64_w, i32_w]
    rfl
   refine one_ (i := 10) (N := none) #[true, true, true, true, true, true, true, true, true, true, true, false, false] rfl rfl (one_of HT_.out (by kernel_rfl)) (by decide) (fun K hK => ?_)
   have hs17 : w16.cell? ⟨gb503, 1, none⟩ = some (.string (⟨#[]⟩ : ByteArray)) := (blk_cell BK503.out 1).trans rfl
   have hfs17 := blk_frozen BK503.out 1
   have hns17_0 := NB501_503.out
   have hns17_1 := NB502_503.out
   have hms17_0 := NB503_501.out
   have hms17_1 := NB503_502.out
   refine skip_ (w1 := ?_) (by rfl) rfl ?_ ?_
   rotate_left
   ·go_simp
    rfl
   refine hK.out _ _ ⟨((cell_far (p := ⟨gb503, _, none⟩) NB501_503.out _).trans (hHeld.1)), ((cell_far (p := ⟨gb503, _, none⟩) NB501_503.out _).trans (hHeld.2.1)), ((cell_far (p := ⟨gb503, _, none⟩) NB501_503.out _).trans (hHeld.2.2.1)), ((cell_far (p := ⟨gb503, _, none⟩) NB501_503.out _).trans (hHeld.2.2.2))⟩ (fun hHeld => ?_)
   clear hK K
   refine pure_ (i := 11) (N := some 22) (v := ?_) (a' := ?_) #[true, true, true, true, true, true, true, true, true, true, true, true, false] rfl rfl (any_of HT_.out (by kernel_rfl)) (fun _ _ _ h => h) (Or.inl ⟨by rfl, ?_⟩) ?_ ?_
   rotate_left
   ·intro w'
    go_simp
    with_reducible rfl
   rotate_left
   ·simp only [Act.put, List.setIfInBounds_toArray, List.set_cons_zero, List.set_cons_succ, i64_w, i32_w]
    rfl
   refine one_ (i := 12) (N := none) #[true, true, true, true, true, true, true, true, true, true, true, true, true] rfl rfl (one_of HT_.out (by kernel_rfl)) (by decide) (fun K hK => ?_)
   have hs18 : w16.cell? ⟨gb503, 2, none⟩ = some (.bool false) := (blk_cell BK503.out 2).trans rfl
   have hfs18 := blk_frozen BK503.out 2
   have hns18_0 := NB501_503.out
   have hns18_1 := NB502_503.out
   have hms18_0 := NB503_501.out
   have hms18_1 := NB503_502.out
   refine skip_ (w1 := ?_) (by rfl) rfl ?_ ?_
   rotate_left
   ·go_simp
    rfl
   refine hK.out _ _ ⟨((cell_far (p := ⟨gb503, _, none⟩) NB501_503.out _).trans (hHeld.1)), ((cell_far (p := ⟨gb503, _, none⟩) NB501_503.out _).trans (hHeld.2.1)), ((cell_far (p := ⟨gb503, _, none⟩) NB501_503.out _).trans (hHeld.2.2.1)), ((cell_far (p := ⟨gb503, _, none⟩) NB501_503.out _).trans (hHeld.2.2.2))⟩ (fun hHeld => ?_)
   clear hK K
   refine done_ (done_of HT_.out (by kernel_rfl)) ?_
   have hcz19_0 : w16.cell? ⟨gb503, 0, none⟩ = some (.int .i64 (wrap64 (Int.tmod a0_0 10))) := (blk_cell BK503.out 0).trans rfl
   have hcz19_1 : w16.cell? ⟨gb503, 1, none⟩ = some (.string (⟨#[]⟩ : ByteArray)) := (blk_cell BK503.out 1).trans rfl
   have hcz19_2 : w16.cell? ⟨gb503, 2, none⟩ = some (.bool false) := (blk_cell BK503.out 2).trans rfl
   have hcz19_3 : w16.cell? ⟨gb503, 3, none⟩ = some (.slice none 0 0) := (blk_cell BK503.out 3).trans rfl
   have hfz19_0 := blk_frozen BK503.out 0
   have hfz19_1 := blk_frozen BK503.out 1
   have hfz19_2 := blk_frozen BK503.out 2
   have hfz19_3 := blk_frozen BK503.out 3
   have hcz20_0 : w16.cell? ⟨gb501, 0, none⟩ = some (.int .u8 a0_0) := (blk_cell BK501.out 0).trans rfl
   have hcz20_1 : w16.cell? ⟨gb501, 1, none⟩ = some (.int .u8 a0_1) := (blk_cell BK501.out 1).trans rfl
   have hcz20_2 : w16.cell? ⟨gb501, 2, none⟩ = some (.slice A0_2 l0_2.length c0_2) := (blk_cell BK501.out 2).trans rfl
   have hcz20_3 : w16.cell? ⟨gb501, 3, none⟩ = some (.slice A0_3 l0_3.length c0_3) := (blk_cell BK501.out 3).trans rfl
   have hfz20_0 := blk_frozen BK501.out 0
   have hfz20_1 := blk_frozen BK501.out 1
   have hfz20_2 := blk_frozen BK501.out 2
   have hfz20_3 := blk_frozen BK501.out 3
   try go_wp2_with (first | ((with_reducible refine gate_callee (f := 21) rfl ?_); refine goesL_ (some 28) rfl rfl Try.func21 (by kernel_rfl) rfl #[.slice A0_3 l0_3.length c0_3, .int .i64 6] rfl (by (try simp only [List.map_toArray, List.map_cons, List.map_nil]); first | done | rfl | (simp only [List.length_drop, List.length_take]; rfl)) ?_; (with_reducible refine (bolterlaw05_Records.calls k _ _ l0_3 6 t505 _ ?side1 ?side2 A5.out).mono ?_); (case side1 => exact Kd.C_below HR0_3.out (by repeat (first | (with_reducible first | exact HB.out | apply below_alloc | apply pw_below_drewN | apply below_drew1 | refine below_set ?_ GE501.out | refine below_set ?_ GE502.out | refine below_set ?_ GE503.out) | exact HB.out))); (case side2 => exact HC0_3.out); rintro e w21 ⟨v506, rfl, ho0, hb⟩; refine ⟨_, rfl, ?_⟩; have n0_ := Aside0.mk (Kd.R_lower ho0 (below_size (by repeat (first | (with_reducible first | exact HB.out | apply below_alloc | apply pw_below_drewN | apply below_drew1 | refine below_set ?_ GE501.out | refine below_set ?_ GE502.out | refine below_set ?_ GE503.out) | exact HB.out)))); have n1_ := Aside0.mk (blk_below (g := gb501) (o := .cells #[.int .u8 a0_0, .int .u8 a0_1, .slice A0_2 l0_2.length c0_2, .slice A0_3 l0_3.length c0_3] 64 (0, 0)) (by (with_reducible repeat (first | refine blk_drewN ?_ _ | refine blk_drew ?_ | refine blk_alloc ?_ _)); refine blk_far ?_ NB501_503.out _; (with_reducible repeat (first | refine blk_drewN ?_ _ | refine blk_drew ?_ | refine blk_alloc ?_ _)); refine blk_far ?_ NB501_503.out _; (with_reducible repeat (first | refine blk_drewN ?_ _ | refine blk_drew ?_ | refine blk_alloc ?_ _)); exact BK501.out) hb); have n2_ := Aside0.mk (blk_below (g := gb502) (o := .cells #[.int .i64 0, .string (⟨#[]⟩ : ByteArray), .bool false, .slice none 0 0] 28 (0, 0)) (by (with_reducible repeat (first | refine blk_drewN ?_ _ | refine blk_drew ?_ | refine blk_alloc ?_ _)); refine blk_far ?_ NB502_503.out _; (with_reducible repeat (first | refine blk_drewN ?_ _ | refine blk_drew ?_ | refine blk_alloc ?_ _)); refine blk_far ?_ NB502_503.out _; (with_reducible repeat (first | refine blk_drewN ?_ _ | refine blk_drew ?_ | refine blk_alloc ?_ _)); exact BK502.out) hb); have n3_ := Aside0.mk (blk_below (g := gb503) (o := .cells #[.int .i64 (wrap64 (Int.tmod a0_0 10)), .string t504, .bool ((Int.tmod a0_1 3) == 0), .slice none 0 0] 28 (0, 0)) (by (with_reducible repeat (first | refine blk_drewN ?_ _ | refine blk_drew ?_ | refine blk_alloc ?_ _)); refine blk_put (cs := #[.int .i64 (wrap64 (Int.tmod a0_0 10)), .string t504, .bool false, .slice none 0 0]) ?_ 2 _ rfl; (with_reducible repeat (first | refine blk_drewN ?_ _ | refine blk_drew ?_ | refine blk_alloc ?_ _)); refine blk_put (cs := #[.int .i64 (wrap64 (Int.tmod a0_0 10)), .string (⟨#[]⟩ : ByteArray), .bool false, .slice none 0 0]) ?_ 1 _ rfl; (with_reducible repeat (first | refine blk_drewN ?_ _ | refine blk_drew ?_ | refine blk_alloc ?_ _)); exact BK503.out) hb); have n4_ := Aside0.mk (below_step (by repeat (first | (with_reducible first | exact HB.out | apply below_alloc | apply pw_below_drewN | apply below_drew1 | refine below_set ?_ GE501.out | refine below_set ?_ GE502.out | refine below_set ?_ GE503.out) | exact HB.out)) hb); clear BK501; clear BK502; clear BK503; clear HB; have HO507 := n0_; have BK501 := n1_; have BK502 := n2_; have BK503 := n3_; have HB := n4_; clear n0_ n1_ n2_ n3_ n4_; (try clear hb); (try clear hb2); (try clear hk); (try clear hi); (try clear ho0); obtain ⟨Ao22, co22, eo22⟩ := Kd.R_slice HO507.out; subst eo22; have hcz23_0 : w21.cell? ⟨gb503, 0, none⟩ = some (.int .i64 (wrap64 (Int.tmod a0_0 10))) := (blk_cell BK503.out 0).trans rfl; have hcz23_1 : w21.cell? ⟨gb503, 1, none⟩ = some (.string t504) := (blk_cell BK503.out 1).trans rfl; have hcz23_2 : w21.cell? ⟨gb503, 2, none⟩ = some (.bool ((Int.tmod a0_1 3) == 0)) := (blk_cell BK503.out 2).trans rfl; have hcz23_3 : w21.cell? ⟨gb503, 3, none⟩ = some (.slice none 0 0) := (blk_cell BK503.out 3).trans rfl; have hfz23_0 := blk_frozen BK503.out 0; have hfz23_1 := blk_frozen BK503.out 1; have hfz23_2 := blk_frozen BK503.out 2; have hfz23_3 := blk_frozen BK503.out 3; have hcz24_0 : w21.cell? ⟨gb502, 0, none⟩ = some (.int .i64 0) := (blk_cell BK502.out 0).trans rfl; have hcz24_1 : w21.cell? ⟨gb502, 1, none⟩ = some (.string (⟨#[]⟩ : ByteArray)) := (blk_cell BK502.out 1).trans rfl; have hcz24_2 : w21.cell? ⟨gb502, 2, none⟩ = some (.bool false) := (blk_cell BK502.out 2).trans rfl; have hcz24_3 : w21.cell? ⟨gb502, 3, none⟩ = some (.slice none 0 0) := (blk_cell BK502.out 3).trans rfl; have hfz24_0 := blk_frozen BK502.out 0; have hfz24_1 := blk_frozen BK502.out 1; have hfz24_2 := blk_frozen BK502.out 2; have hfz24_3 := blk_frozen BK502.out 3))
   refine bodyPost_ret (results_cell_row rfl _ _ gb502 28 #[.int .i64 (wrap64 (Int.tmod a0_0 10)), .string t504, .bool ((Int.tmod a0_1 3) == 0), .slice Ao22 t505.length co22] (0, 0) _ rfl (by (with_reducible repeat (first | refine blk_drewN ?_ _ | refine blk_drew ?_ | refine blk_alloc ?_ _)); refine blk_put (cs := #[.int .i64 (wrap64 (Int.tmod a0_0 10)), .string t504, .bool ((Int.tmod a0_1 3) == 0), .slice none 0 0]) ?_ 3 _ rfl; (with_reducible repeat (first | refine blk_drewN ?_ _ | refine blk_drew ?_ | refine blk_alloc ?_ _)); refine blk_put (cs := #[.int .i64 (wrap64 (Int.tmod a0_0 10)), .string t504, .bool false, .slice none 0 0]) ?_ 2 _ rfl; (with_reducible repeat (first | refine blk_drewN ?_ _ | refine blk_drew ?_ | refine blk_alloc ?_ _)); refine blk_put (cs := #[.int .i64 (wrap64 (Int.tmod a0_0 10)), .string (⟨#[]⟩ : ByteArray), .bool false, .slice none 0 0]) ?_ 1 _ rfl; (with_reducible repeat (first | refine blk_drewN ?_ _ | refine blk_drew ?_ | refine blk_alloc ?_ _)); refine blk_put (cs := #[.int .i64 0, .string (⟨#[]⟩ : ByteArray), .bool false, .slice none 0 0]) ?_ 0 _ rfl; (with_reducible repeat (first | refine blk_drewN ?_ _ | refine blk_drew ?_ | refine blk_alloc ?_ _)); refine blk_far ?_ NB502_503.out _; (with_reducible repeat (first | refine blk_drewN ?_ _ | refine blk_drew ?_ | refine blk_alloc ?_ _)); exact BK502.out) Try.underlying28 rfl (by kernel_rfl)) rfl ?_
   exact ⟨_, by first | rfl | (simp [errW_none, errW_some] <;> rfl) | (simp [*, errW_none, errW_some] <;> rfl), by (with_reducible repeat (first | apply Kd.R_alloc | apply Kd.R_drewN | apply Kd.R_drew)); exact Kd.R_mono (Kd.R_far (p := ⟨gb502, 3, none⟩) (Kd.R_far (p := ⟨gb502, 2, none⟩) (Kd.R_far (p := ⟨gb502, 1, none⟩) (Kd.R_far (p := ⟨gb502, 0, none⟩) (Kd.R_far (p := ⟨gb503, 3, none⟩) (Kd.R_types (Kd.R_types HO507.out BK503.out (by decide)) BK502.out (by decide)) (fun _ hk => hk.1.2) (.slice Ao22 t505.length co22)) (fun _ hk => hk.2) (.int .i64 (wrap64 (Int.tmod a0_0 10)))) (fun _ hk => hk.2) (.string t504)) (fun _ hk => hk.2) (.bool ((Int.tmod a0_1 3) == 0))) (fun _ hk => hk.2) (.slice Ao22 t505.length co22)) (fun _ hk => trivial), by repeat (first | (with_reducible first | exact HB.out | apply below_alloc | apply pw_below_drewN | apply below_drew1 | refine below_set ?_ GE501.out | refine below_set ?_ GE502.out | refine below_set ?_ GE503.out) | exact HB.out)⟩
  ·rw [if_neg c4] at H
   have c4b0 : ((wrap64 (Int.tmod a0_0 10)) == 8) = false := beq_eq_false_iff_ne.mpr c4
   have c4b1 : ((wrap64 (Int.tmod a0_0 10)) != 8) = true := bne_iff_ne.mpr c4
   simp only [Option.some.injEq, Prod.mk.injEq] at H
   obtain ⟨rfl, rfl, rfl, rfl⟩ := H
   go_enter Try.func30, Try.ntmps30
   try go_wp2_with (first | ((with_reducible refine gate_dst (N := 1) rfl ?_); refine box_event ?hg (N := 1) ?hd (cs := #[.int .u8 a0_0, .int .u8 a0_1, .slice A0_2 l0_2.length c0_2, .slice A0_3 l0_3.length c0_3]) (t := 64) ?hr ?_; (case hd => rfl); (case hg => rfl); (case hr => first | (go_simp; done) | (go_simp; rfl)); intro gb501 hg w25 hbox hb; have n0_ := Aside0.mk (below_step (by repeat (first | (with_reducible first | exact HB.out | apply below_alloc | apply pw_below_drewN | apply below_drew1) | exact HB.out)) hb); have n1_ := Aside0.mk (hbox); have n2_ := Aside0.mk ((by rw [hg]; exact (below_size (by repeat (first | (with_reducible first | exact HB.out | apply below_alloc | apply pw_below_drewN | apply below_drew1) | exact HB.out))) : w.heap.size ≤ gb501)); have n3_ := Aside0.mk ((by rw [hg]; exact (below_size (by repeat (first | (with_reducible first | exact HB.out | apply below_alloc | apply pw_below_drewN | apply below_drew1) | exact HB.out))) : w.heap.size ≤ gb501)); clear HB; have HB := n0_; have BK501 := n1_; have GW501 := n2_; have GE501 := n3_; clear n0_ n1_ n2_ n3_; clear hb hbox hg) | ((with_reducible refine gate_dst (N := 2) rfl ?_); refine box_event ?hg (N := 2) ?hd (cs := #[.int .i64 0, .string (⟨#[]⟩ : ByteArray), .bool false, .slice none 0 0]) (t := 28) ?hr ?_; (case hd => rfl); (case hg => rfl); (case hr => first | (go_simp; done) | (go_simp; rfl)); intro gb502 hg w26 hbox hb; have n0_ := Aside0.mk (blk_below (g := gb501) (o := .cells #[.int .u8 a0_0, .int .u8 a0_1, .slice A0_2 l0_2.length c0_2, .slice A0_3 l0_3.length c0_3] 64 (0, 0)) (by (with_reducible repeat (first | refine blk_drewN ?_ _ | refine blk_drew ?_ | refine blk_alloc ?_ _)); exact BK501.out) hb); have n1_ := Aside0.mk (below_step (by repeat (first | (with_reducible first | exact HB.out | apply below_alloc | apply pw_below_drewN | apply below_drew1 | refine below_set ?_ GE501.out) | exact HB.out)) hb); have n2_ := Aside0.mk (hbox); have n3_ := Aside0.mk ((by rw [hg]; exact (below_size (by repeat (first | (with_reducible first | exact HB.out | apply below_alloc | apply pw_below_drewN | apply below_drew1 | refine below_set ?_ GE501.out) | exact HB.out))) : w.heap.size ≤ gb502)); have n4_ := Aside0.mk ((by rw [hg]; exact (below_size (by repeat (first | (with_reducible first | exact HB.out | apply below_alloc | apply pw_below_drewN | apply below_drew1 | refine below_set ?_ GE501.out) | exact HB.out))) : w.heap.size ≤ gb502)); have n5_ := Aside0.mk ((by rw [hg]; exact Nat.ne_of_lt (blk_lt (g := gb501) (o := .cells #[.int .u8 a0_0, .int .u8 a0_1, .slice A0_2 l0_2.length c0_2, .slice A0_3 l0_3.length c0_3] 64 (0, 0)) (by (with_reducible repeat (first | refine blk_drewN ?_ _ | refine blk_drew ?_ | refine blk_alloc ?_ _)); exact BK501.out)) : gb501 ≠ gb502)); have n6_ := Aside0.mk ((by rw [hg]; exact Nat.ne_of_gt (blk_lt (g := gb501) (o := .cells #[.int .u8 a0_0, .int .u8 a0_1, .slice A0_2 l0_2.length c0_2, .slice A0_3 l0_3.length c0_3] 64 (0, 0)) (by (with_reducible repeat (first | refine blk_drewN ?_ _ | refine blk_drew ?_ | refine blk_alloc ?_ _)); exact BK501.out)) : gb502 ≠ gb501)); clear BK501; clear HB; have BK501 := n0_; have HB := n1_; have BK502 := n2_; have GW502 := n3_; have GE502 := n4_; have NB501_502 := n5_; have NB502_501 := n6_; clear n0_ n1_ n2_ n3_ n4_ n5_ n6_; clear hb hbox hg; have hnb27 := NB501_502.out; have hnc27 := NB502_501.out; have hcz28_0 : w26.cell? ⟨gb501, 0, none⟩ = some (.int .u8 a0_0) := (blk_cell BK501.out 0).trans rfl; have hcz28_1 : w26.cell? ⟨gb501, 1, none⟩ = some (.int .u8 a0_1) := (blk_cell BK501.out 1).trans rfl; have hcz28_2 : w26.cell? ⟨gb501, 2, none⟩ = some (.slice A0_2 l0_2.length c0_2) := (blk_cell BK501.out 2).trans rfl; have hcz28_3 : w26.cell? ⟨gb501, 3, none⟩ = some (.slice A0_3 l0_3.length c0_3) := (blk_cell BK501.out 3).trans rfl; have hfz28_0 := blk_frozen BK501.out 0; have hfz28_1 := blk_frozen BK501.out 1; have hfz28_2 := blk_frozen BK501.out 2; have hfz28_3 := blk_frozen BK501.out 3) | ((with_reducible refine gate_dst (N := 3) rfl ?_); refine box_event ?hg (N := 3) ?hd (cs := #[.int .i64 0, .string (⟨#[]⟩ : ByteArray), .bool false, .slice none 0 0]) (t := 28) ?hr ?_; (case hd => rfl); (case hg => rfl); (case hr => first | (go_simp; done) | (go_simp; rfl)); intro gb503 hg w29 hbox hb; have n0_ := Aside0.mk (blk_below (g := gb501) (o := .cells #[.int .u8 a0_0, .int .u8 a0_1, .slice A0_2 l0_2.length c0_2, .slice A0_3 l0_3.length c0_3] 64 (0, 0)) (by (with_reducible repeat (first | refine blk_drewN ?_ _ | refine blk_drew ?_ | refine blk_alloc ?_ _)); exact BK501.out) hb); have n1_ := Aside0.mk (blk_below (g := gb502) (o := .cells #[.int .i64 0, .string (⟨#[]⟩ : ByteArray), .bool false, .slice none 0 0] 28 (0, 0)) (by (with_reducible repeat (first | refine blk_drewN ?_ _ | refine blk_drew ?_ | refine blk_alloc ?_ _)); exact BK502.out) hb); have n2_ := Aside0.mk (below_step (by repeat (first | (with_reducible first | exact HB.out | apply below_alloc | apply pw_below_drewN | apply below_drew1 | refine below_set ?_ GE501.out | refine below_set ?_ GE502.out) | exact HB.out)) hb); have n3_ := Aside0.mk (hbox); have n4_ := Aside0.mk ((by rw [hg]; exact (below_size (by repeat (first | (with_reducible first | exact HB.out | apply below_alloc | apply pw_below_drewN | apply below_drew1 | refine below_set ?_ GE501.out | refine below_set ?_ GE502.out) | exact HB.out))) : w.heap.size ≤ gb503)); have n5_ := Aside0.mk ((by rw [hg]; exact (below_size (by repeat (first | (with_reducible first | exact HB.out | apply below_alloc | apply pw_below_drewN | apply below_drew1 | refine below_set ?_ GE501.out | refine below_set ?_ GE502.out) | exact HB.out))) : w.heap.size ≤ gb503)); have n6_ := Aside0.mk ((by rw [hg]; exact Nat.ne_of_lt (blk_lt (g := gb501) (o := .cells #[.int .u8 a0_0, .int .u8 a0_1, .slice A0_2 l0_2.length c0_2, .slice A0_3 l0_3.length c0_3] 64 (0, 0)) (by (with_reducible repeat (first | refine blk_drewN ?_ _ | refine blk_drew ?_ | refine blk_alloc ?_ _)); exact BK501.out)) : gb501 ≠ gb503)); have n7_ := Aside0.mk ((by rw [hg]; exact Nat.ne_of_gt (blk_lt (g := gb501) (o := .cells #[.int .u8 a0_0, .int .u8 a0_1, .slice A0_2 l0_2.length c0_2, .slice A0_3 l0_3.length c0_3] 64 (0, 0)) (by (with_reducible repeat (first | refine blk_drewN ?_ _ | refine blk_drew ?_ | refine blk_alloc ?_ _)); exact BK501.out)) : gb503 ≠ gb501)); have n8_ := Aside0.mk ((by rw [hg]; exact Nat.ne_of_lt (blk_lt (g := gb502) (o := .cells #[.int .i64 0, .string (⟨#[]⟩ : ByteArray), .bool false, .slice none 0 0] 28 (0, 0)) (by (with_reducible repeat (first | refine blk_drewN ?_ _ | refine blk_drew ?_ | refine blk_alloc ?_ _)); exact BK502.out)) : gb502 ≠ gb503)); have n9_ := Aside0.mk ((by rw [hg]; exact Nat.ne_of_gt (blk_lt (g := gb502) (o := .cells #[.int .i64 0, .string (⟨#[]⟩ : ByteArray), .bool false, .slice none 0 0] 28 (0, 0)) (by (with_reducible repeat (first | refine blk_drewN ?_ _ | refine blk_drew ?_ | refine blk_alloc ?_ _)); exact BK502.out)) : gb503 ≠ gb502)); clear BK501; clear BK502; clear HB; have BK501 := n0_; have BK502 := n1_; have HB := n2_; have BK503 := n3_; have GW503 := n4_; have GE503 := n5_; have NB501_503 := n6_; have NB503_501 := n7_; have NB502_503 := n8_; have NB503_502 := n9_; clear n0_ n1_ n2_ n3_ n4_ n5_ n6_ n7_ n8_ n9_; clear hb hbox hg; have hnb30 := NB503_501.out; have hnc30 := NB501_503.out; have hnb31 := NB503_502.out; have hnc31 := NB502_503.out; have hcz32_0 : w29.cell? ⟨gb503, 0, none⟩ = some (.int .i64 0) := (blk_cell BK503.out 0).trans rfl; have hcz32_1 : w29.cell? ⟨gb503, 1, none⟩ = some (.string (⟨#[]⟩ : ByteArray)) := (blk_cell BK503.out 1).trans rfl; have hcz32_2 : w29.cell? ⟨gb503, 2, none⟩ = some (.bool false) := (blk_cell BK503.out 2).trans rfl; have hcz32_3 : w29.cell? ⟨gb503, 3, none⟩ = some (.slice none 0 0) := (blk_cell BK503.out 3).trans rfl; have hfz32_0 := blk_frozen BK503.out 0; have hfz32_1 := blk_frozen BK503.out 1; have hfz32_2 := blk_frozen BK503.out 2; have hfz32_3 := blk_frozen BK503.out 3))
   have n0_ : Aside0 (((((w29.setCell ⟨gb503, 0, none⟩ (.int .i64 (wrap64 (Int.tmod a0_0 10)))).setCell ⟨gb503, 1, none⟩ (.string (⟨#[]⟩ : ByteArray))).setCell ⟨gb503, 2, none⟩ (.bool false)).setCell ⟨gb503, 3, none⟩ (.slice none 0 0)).heap[gb501]? = some (.cells #[.int .u8 a0_0, .int .u8 a0_1, .slice A0_2 l0_2.length c0_2, .slice A0_3 l0_3.length c0_3] 64 (0, 0))) := ⟨by (with_reducible repeat (first | refine blk_drewN ?_ _ | refine blk_drew ?_ | refine blk_alloc ?_ _)); refine blk_far ?_ NB501_503.out _; (with_reducible repeat (first | refine blk_drewN ?_ _ | refine blk_drew ?_ | refine blk_alloc ?_ _)); refine blk_far ?_ NB501_503.out _; (with_reducible repeat (first | refine blk_drewN ?_ _ | refine blk_drew ?_ | refine blk_alloc ?_ _)); refine blk_far ?_ NB501_503.out _; (with_reducible repeat (first | refine blk_drewN ?_ _ | refine blk_drew ?_ | refine blk_alloc ?_ _)); refine blk_far ?_ NB501_503.out _; (with_reducible repeat (first | refine blk_drewN ?_ _ | refine blk_drew ?_ | refine blk_alloc ?_ _)); exact BK501.out⟩
   have n1_ : Aside0 (((((w29.setCell ⟨gb503, 0, none⟩ (.int .i64 (wrap64 (Int.tmod a0_0 10)))).setCell ⟨gb503, 1, none⟩ (.string (⟨#[]⟩ : ByteArray))).setCell ⟨gb503, 2, none⟩ (.bool false)).setCell ⟨gb503, 3, none⟩ (.slice none 0 0)).heap[gb502]? = some (.cells #[.int .i64 0, .string (⟨#[]⟩ : ByteArray), .bool false, .slice none 0 0] 28 (0, 0))) := ⟨by (with_reducible repeat (first | refine blk_drewN ?_ _ | refine blk_drew ?_ | refine blk_alloc ?_ _)); refine blk_far ?_ NB502_503.out _; (with_reducible repeat (first | refine blk_drewN ?_ _ | refine blk_drew ?_ | refine blk_alloc ?_ _)); refine blk_far ?_ NB502_503.out _; (with_reducible repeat (first | refine blk_drewN ?_ _ | refine blk_drew ?_ | refine blk_alloc ?_ _)); refine blk_far ?_ NB502_503.out _; (with_reducible repeat (first | refine blk_drewN ?_ _ | refine blk_drew ?_ | refine blk_alloc ?_ _)); refine blk_far ?_ NB502_503.out _; (with_reducible repeat (first | refine blk_drewN ?_ _ | refine blk_drew ?_ | refine blk_alloc ?_ _)); exact BK502.out⟩
   have n2_ : Aside0 (((((w29.setCell ⟨gb503, 0, none⟩ (.int .i64 (wrap64 (Int.tmod a0_0 10)))).setCell ⟨gb503, 1, none⟩ (.string (⟨#[]⟩ : ByteArray))).setCell ⟨gb503, 2, none⟩ (.bool false)).setCell ⟨gb503, 3, none⟩ (.slice none 0 0)).heap[gb503]? = some (.cells #[.int .i64 (wrap64 (Int.tmod a0_0 10)), .string (⟨#[]⟩ : ByteArray), .bool false, .slice none 0 0] 28 (0, 0))) := ⟨by (with_reducible repeat (first | refine blk_drewN ?_ _ | refine blk_drew ?_ | refine blk_alloc ?_ _)); refine blk_put (cs := #[.int .i64 (wrap64 (Int.tmod a0_0 10)), .string (⟨#[]⟩ : ByteArray), .bool false, .slice none 0 0]) ?_ 3 _ rfl; (with_reducible repeat (first | refine blk_drewN ?_ _ | refine blk_drew ?_ | refine blk_alloc ?_ _)); refine blk_put (cs := #[.int .i64 (wrap64 (Int.tmod a0_0 10)), .string (⟨#[]⟩ : ByteArray), .bool false, .slice none 0 0]) ?_ 2 _ rfl; (with_reducible repeat (first | refine blk_drewN ?_ _ | refine blk_drew ?_ | refine blk_alloc ?_ _)); refine blk_put (cs := #[.int .i64 (wrap64 (Int.tmod a0_0 10)), .string (⟨#[]⟩ : ByteArray), .bool false, .slice none 0 0]) ?_ 1 _ rfl; (with_reducible repeat (first | refine blk_drewN ?_ _ | refine blk_drew ?_ | refine blk_alloc ?_ _)); refine blk_put (cs := #[.int .i64 0, .string (⟨#[]⟩ : ByteArray), .bool false, .slice none 0 0]) ?_ 0 _ rfl; (with_reducible repeat (first | refine blk_drewN ?_ _ | refine blk_drew ?_ | refine blk_alloc ?_ _)); exact BK503.out⟩
   have n3_ : Aside0 (Below w.heap.size w ((((w29.setCell ⟨gb503, 0, none⟩ (.int .i64 (wrap64 (Int.tmod a0_0 10)))).setCell ⟨gb503, 1, none⟩ (.string (⟨#[]⟩ : ByteArray))).setCell ⟨gb503, 2, none⟩ (.bool false)).setCell ⟨gb503, 3, none⟩ (.slice none 0 0))) := ⟨by repeat (first | (with_reducible first | exact HB.out | apply below_alloc | apply pw_below_drewN | apply below_drew1 | refine below_set ?_ GE501.out | refine below_set ?_ GE502.out | refine below_set ?_ GE503.out) | exact HB.out)⟩
   (try clear BK501)
   (try clear BK502)
   (try clear BK503)
   (try clear HB)
   generalize ((((w29.setCell ⟨gb503, 0, none⟩ (.int .i64 (wrap64 (Int.tmod a0_0 10)))).setCell ⟨gb503, 1, none⟩ (.string (⟨#[]⟩ : ByteArray))).setCell ⟨gb503, 2, none⟩ (.bool false)).setCell ⟨gb503, 3, none⟩ (.slice none 0 0)) = w33 at n0_ n1_ n2_ n3_ ⊢
   have BK501 := n0_
   have BK502 := n1_
   have BK503 := n2_
   have HB := n3_
   clear n0_ n1_ n2_ n3_
   have n0_ := Aside0.mk (blk_drew BK501.out)
   have n1_ := Aside0.mk (blk_drew BK502.out)
   have n2_ := Aside0.mk (blk_drew BK503.out)
   have n3_ := Aside0.mk (below_drew1 HB.out)
   clear BK501
   clear BK502
   clear BK503
   clear HB
   have BK501 := n0_
   have BK502 := n1_
   have BK503 := n2_
   have HB := n3_
   clear n0_ n1_ n2_ n3_
   refine start_ (n := 13) (S := fun w' => w'.cell? ⟨gb501, 0, none⟩ = some (.int .u8 a0_0) ∧ w'.cell? ⟨gb501, 1, none⟩ = some (.int .u8 a0_1) ∧ w'.cell? ⟨gb501, 2, none⟩ = some (.slice A0_2 l0_2.length c0_2) ∧ w'.cell? ⟨gb501, 3, none⟩ = some (.slice A0_3 l0_3.length c0_3)) (ds := []) #[false, false, false, false, false, false, false, false, false, false, false, false, false] (by kernel_rfl) rfl rfl ⟨(blk_cell BK501.out 0).trans rfl, (blk_cell BK501.out 1).trans rfl, (blk_cell BK501.out 2).trans rfl, (blk_cell BK501.out 3).trans rfl⟩ (fun hHeld => ?_); refine with_tabW bolterlaw21_Choice_Action.tab3 bolterlaw21_Choice_Action.bits3 (fun HT_ HW_ => ?_)
   generalize w33.drew = w34 at BK501 BK502 BK503 HB hHeld ⊢
   refine pure_ (i := 0) (N := some 12) (v := ?_) (a' := ?_) #[true, false, false, false, false, false, false, false, false, false, false, false, false] rfl rfl (any_of HT_.out (by kernel_rfl)) (fun _ _ _ h => h) (Or.inl ⟨by rfl, ?_⟩) ?_ ?_
   rotate_left
   ·intro w'
    go_simp
    with_reducible rfl
   rotate_left
   ·simp only [Act.put, List.setIfInBounds_toArray, List.set_cons_zero, List.set_cons_succ, i64_w, i32_w]
    rfl
   refine pure_ (i := 2) (N := some 14) (v := ?_) (a' := ?_) #[true, false, true, false, false, false, false, false, false, false, false, false, false] rfl rfl (any_of HT_.out (by kernel_rfl)) (fun _ _ _ h => h) (Or.inl ⟨by rfl, ?_⟩) ?_ ?_
   rotate_left
   ·intro w'
    go_simp
    with_reducible rfl
   rotate_left
   ·simp only [Act.put, List.setIfInBounds_toArray, List.set_cons_zero, List.set_cons_succ, i64_w, i32_w]
    rfl
   refine pure_ (i := 5) (N := some 17) (v := ?_) (a' := ?_) #[true, false, true, false, false, true, false, false, false, false, false, false, false] rfl rfl (any_of HT_.out (by kernel_rfl)) (fun _ _ _ h => h) (Or.inl ⟨by rfl, ?_⟩) ?_ ?_
   rotate_left
   ·intro w'
    go_simp
    with_reducible rfl
   rotate_left
   ·simp only [Act.put, List.setIfInBounds_toArray, List.set_cons_zero, List.set_cons_succ, i64_w, i32_w]
    rfl
   refine take_ (i := 1) (N := some 13) (v := ?_) (a' := ?_) #[true, true, true, false, false, true, false, false, false, false, false, false, false] rfl rfl (take_ofW HT_.out HW_.out (by kernel_rfl)) (fun _ _ _ h => h) (Or.inl ⟨by rfl, ?_⟩) hHeld ?_ ?_
   rotate_left
   ·rintro w' ⟨s0, s1, s2, s3⟩
    go_simp
    with_reducible rfl
   rotate_left
   ·simp only [Act.put, List.setIfInBounds_toArray, List.set_cons_zero, List.set_cons_succ, i64_w, i32_w]
    rfl
   refine take_ (i := 3) (N := some 15) (v := ?_) (a' := ?_) #[true, true, true, true, false, true, false, false, false, false, false, false, false] rfl rfl (take_ofW HT_.out HW_.out (by kernel_rfl)) (fun _ _ _ h => h) (Or.inl ⟨by rfl, ?_⟩) hHeld ?_ ?_
   rotate_left
   ·rintro w' ⟨s0, s1, s2, s3⟩
    go_simp
    with_reducible rfl
   rotate_left
   ·simp only [Act.put, List.setIfInBounds_toArray, List.set_cons_zero, List.set_cons_succ, i64_w, i32_w]
    rfl
   refine take_ (i := 6) (N := some 18) (v := ?_) (a' := ?_) #[true, true, true, true, false, true, true, false, false, false, false, false, false] rfl rfl (take_ofW HT_.out HW_.out (by kernel_rfl)) (fun _ _ _ h => h) (Or.inl ⟨by rfl, ?_⟩) hHeld ?_ ?_
   rotate_left
   ·rintro w' ⟨s0, s1, s2, s3⟩
    go_simp
    with_reducible rfl
   rotate_left
   ·simp only [Act.put, List.setIfInBounds_toArray, List.set_cons_zero, List.set_cons_succ, i64_w, i32_w]
    rfl
   refine pure_ (i := 7) (N := some 19) (v := ?_) (a' := ?_) #[true, true, true, true, false, true, true, true, false, false, false, false, false] rfl rfl (any_of HT_.out (by kernel_rfl)) (fun _ _ _ h => h) (Or.inl ⟨by rfl, ?_⟩) ?_ ?_
   rotate_left
   ·intro w'
    go_simp
    with_reducible rfl
   rotate_left
   ·simp only [Act.put, List.setIfInBounds_toArray, List.set_cons_zero, List.set_cons_succ, i64_w, i32_w]
    rfl
   refine pure_ (i := 8) (N := some 20) (v := ?_) (a' := ?_) #[true, true, true, true, false, true, true, true, true, false, false, false, false] rfl rfl (any_of HT_.out (by kernel_rfl)) (fun _ _ _ h => h) (Or.inl ⟨by rfl, ?_⟩) ?_ ?_
   rotate_left
   ·intro w'
    go_simp
    with_reducible rfl
   rotate_left
   ·simp only [Act.put, List.setIfInBounds_toArray, List.set_cons_zero, List.set_cons_succ, i64_w, i32_w]
    rfl
   refine one_ (i := 4) (N := some 16) #[true, true, true, true, true, true, true, true, true, false, false, false, false] rfl rfl (one_of HT_.out (by kernel_rfl)) (by decide) (fun K hK => ?_)
   refine goes_ Try.func15 (by kernel_rfl) rfl #[.int .u8 a0_1, .slice A0_2 l0_2.length c0_2] (by rfl) rfl rfl (by (try simp only [List.map_toArray, List.map_cons, List.map_nil]); first | done | rfl | (simp only [List.length_drop, List.length_take]; rfl)) ?_
   with_reducible refine (bolterlaw14_Target.calls k a0_1 _ _ l0_2 t504 _ ?side1 ?side2 A3.out).mono ?_
   (case side1 => repeat (first | exact (Kd.C_below HR0_2.out HB.out) | (with_reducible refine Kd.C_alloc ?_ _) | (with_reducible refine Kd.C_drewN ?_ _) | (with_reducible refine Kd.C_drew ?_)))
   (case side2 => exact HC0_2.out)
   rintro e w35 ⟨rfl, hb⟩
   refine ⟨_, rfl, ?_⟩
   have n0_ := Aside0.mk (blk_below (g := gb501) (o := .cells #[.int .u8 a0_0, .int .u8 a0_1, .slice A0_2 l0_2.length c0_2, .slice A0_3 l0_3.length c0_3] 64 (0, 0)) (by (with_reducible repeat (first | refine blk_drewN ?_ _ | refine blk_drew ?_ | refine blk_alloc ?_ _)); exact BK501.out) hb)
   have n1_ := Aside0.mk (blk_below (g := gb502) (o := .cells #[.int .i64 0, .string (⟨#[]⟩ : ByteArray), .bool false, .slice none 0 0] 28 (0, 0)) (by (with_reducible repeat (first | refine blk_drewN ?_ _ | refine blk_drew ?_ | refine blk_alloc ?_ _)); exact BK502.out) hb)
   have n2_ := Aside0.mk (blk_below (g := gb503) (o := .cells #[.int .i64 (wrap64 (Int.tmod a0_0 10)), .string (⟨#[]⟩ : ByteArray), .bool false, .slice none 0 0] 28 (0, 0)) (by (with_reducible repeat (first | refine blk_drewN ?_ _ | refine blk_drew ?_ | refine blk_alloc ?_ _)); exact BK503.out) hb)
   have n3_ := Aside0.mk (below_step (by repeat (first | (with_reducible first | exact HB.out | apply below_alloc | apply pw_below_drewN | apply below_drew1 | refine below_set ?_ GE501.out | refine below_set ?_ GE502.out | refine below_set ?_ GE503.out) | exact HB.out)) hb)
   clear BK501
   clear BK502
   clear BK503
   clear HB
   have BK501 := n0_
   have BK502 := n1_
   have BK503 := n2_
   have HB := n3_
   clear n0_ n1_ n2_ n3_
   (try clear hb)
   (try clear hb2)
   (try clear hk)
   (try clear hi)
   refine hK.out _ _ ⟨(blk_cell BK501.out 0).trans rfl, (blk_cell BK501.out 1).trans rfl, (blk_cell BK501.out 2).trans rfl, (blk_cell BK501.out 3).trans rfl⟩ (fun hHeld => ?_)
   clear hK K
   refine norm_ (a' := ?_) ?_ ?_
   rotate_left
   ·show Act.put _ (some 16) _ = _
    simp only [Act.put, List.setIfInBounds_toArray, List.set_cons_zero, List.set_cons_succ, i64_w, i32_w]
    rfl
   refine pure_ (i := 9) (N := some 21) (v := ?_) (a' := ?_) #[true, true, true, true, true, true, true, true, true, true, false, false, false] rfl rfl (any_of HT_.out (by kernel_rfl)) (fun _ _ _ h => h) (Or.inl ⟨by rfl, ?_⟩) ?_ ?_
   rotate_left
   ·intro w'
    go_simp
    with_reducible rfl
   rotate_left
   ·simp only [Act.put, List.setIfInBounds_toArray, List.set_cons_zero, List.set_cons_succ, i64_w, i32_w]
    rfl
   refine one_ (i := 10) (N := none) #[true, true, true, true, true, true, true, true, true, true, true, false, false] rfl rfl (one_of HT_.out (by kernel_rfl)) (by decide) (fun K hK => ?_)
   have hs36 : w35.cell? ⟨gb503, 1, none⟩ = some (.string (⟨#[]⟩ : ByteArray)) := (blk_cell BK503.out 1).trans rfl
   have hfs36 := blk_frozen BK503.out 1
   have hns36_0 := NB501_503.out
   have hns36_1 := NB502_503.out
   have hms36_0 := NB503_501.out
   have hms36_1 := NB503_502.out
   refine skip_ (w1 := ?_) (by rfl) rfl ?_ ?_
   rotate_left
   ·go_simp
    rfl
   refine hK.out _ _ ⟨((cell_far (p := ⟨gb503, _, none⟩) NB501_503.out _).trans (hHeld.1)), ((cell_far (p := ⟨gb503, _, none⟩) NB501_503.out _).trans (hHeld.2.1)), ((cell_far (p := ⟨gb503, _, none⟩) NB501_503.out _).trans (hHeld.2.2.1)), ((cell_far (p := ⟨gb503, _, none⟩) NB501_503.out _).trans (hHeld.2.2.2))⟩ (fun hHeld => ?_)
   clear hK K
   refine pure_ (i := 11) (N := some 22) (v := ?_) (a' := ?_) #[true, true, true, true, true, true, true, true, true, true, true, true, false] rfl rfl (any_of HT_.out (by kernel_rfl)) (fun _ _ _ h => h) (Or.inl ⟨by rfl, ?_⟩) ?_ ?_
   rotate_left
   ·intro w'
    go_simp
    with_reducible rfl
   rotate_left
   ·simp only [Act.put, List.setIfInBounds_toArray, List.set_cons_zero, List.set_cons_succ, i64_w, i32_w]
    rfl
   refine one_ (i := 12) (N := none) #[true, true, true, true, true, true, true, true, true, true, true, true, true] rfl rfl (one_of HT_.out (by kernel_rfl)) (by decide) (fun K hK => ?_)
   have hs37 : w35.cell? ⟨gb503, 2, none⟩ = some (.bool false) := (blk_cell BK503.out 2).trans rfl
   have hfs37 := blk_frozen BK503.out 2
   have hns37_0 := NB501_503.out
   have hns37_1 := NB502_503.out
   have hms37_0 := NB503_501.out
   have hms37_1 := NB503_502.out
   refine skip_ (w1 := ?_) (by rfl) rfl ?_ ?_
   rotate_left
   ·go_simp
    rfl
   refine hK.out _ _ ⟨((cell_far (p := ⟨gb503, _, none⟩) NB501_503.out _).trans (hHeld.1)), ((cell_far (p := ⟨gb503, _, none⟩) NB501_503.out _).trans (hHeld.2.1)), ((cell_far (p := ⟨gb503, _, none⟩) NB501_503.out _).trans (hHeld.2.2.1)), ((cell_far (p := ⟨gb503, _, none⟩) NB501_503.out _).trans (hHeld.2.2.2))⟩ (fun hHeld => ?_)
   clear hK K
   refine done_ (done_of HT_.out (by kernel_rfl)) ?_
   have hcz38_0 : w35.cell? ⟨gb503, 0, none⟩ = some (.int .i64 (wrap64 (Int.tmod a0_0 10))) := (blk_cell BK503.out 0).trans rfl
   have hcz38_1 : w35.cell? ⟨gb503, 1, none⟩ = some (.string (⟨#[]⟩ : ByteArray)) := (blk_cell BK503.out 1).trans rfl
   have hcz38_2 : w35.cell? ⟨gb503, 2, none⟩ = some (.bool false) := (blk_cell BK503.out 2).trans rfl
   have hcz38_3 : w35.cell? ⟨gb503, 3, none⟩ = some (.slice none 0 0) := (blk_cell BK503.out 3).trans rfl
   have hfz38_0 := blk_frozen BK503.out 0
   have hfz38_1 := blk_frozen BK503.out 1
   have hfz38_2 := blk_frozen BK503.out 2
   have hfz38_3 := blk_frozen BK503.out 3
   have hcz39_0 : w35.cell? ⟨gb502, 0, none⟩ = some (.int .i64 0) := (blk_cell BK502.out 0).trans rfl
   have hcz39_1 : w35.cell? ⟨gb502, 1, none⟩ = some (.string (⟨#[]⟩ : ByteArray)) := (blk_cell BK502.out 1).trans rfl
   have hcz39_2 : w35.cell? ⟨gb502, 2, none⟩ = some (.bool false) := (blk_cell BK502.out 2).trans rfl
   have hcz39_3 : w35.cell? ⟨gb502, 3, none⟩ = some (.slice none 0 0) := (blk_cell BK502.out 3).trans rfl
   have hfz39_0 := blk_frozen BK502.out 0
   have hfz39_1 := blk_frozen BK502.out 1
   have hfz39_2 := blk_frozen BK502.out 2
   have hfz39_3 := blk_frozen BK502.out 3
   try go_wp2
   refine bodyPost_ret (results_cell_row rfl _ _ gb502 28 #[.int .i64 (wrap64 (Int.tmod a0_0 10)), .string t504, .bool ((Int.tmod a0_1 3) == 0), .slice none 0 0] (0, 0) _ rfl (by (with_reducible repeat (first | refine blk_drewN ?_ _ | refine blk_drew ?_ | refine blk_alloc ?_ _)); refine blk_put (cs := #[.int .i64 (wrap64 (Int.tmod a0_0 10)), .string t504, .bool ((Int.tmod a0_1 3) == 0), .slice none 0 0]) ?_ 3 _ rfl; (with_reducible repeat (first | refine blk_drewN ?_ _ | refine blk_drew ?_ | refine blk_alloc ?_ _)); refine blk_put (cs := #[.int .i64 (wrap64 (Int.tmod a0_0 10)), .string t504, .bool false, .slice none 0 0]) ?_ 2 _ rfl; (with_reducible repeat (first | refine blk_drewN ?_ _ | refine blk_drew ?_ | refine blk_alloc ?_ _)); refine blk_put (cs := #[.int .i64 (wrap64 (Int.tmod a0_0 10)), .string (⟨#[]⟩ : ByteArray), .bool false, .slice none 0 0]) ?_ 1 _ rfl; (with_reducible repeat (first | refine blk_drewN ?_ _ | refine blk_drew ?_ | refine blk_alloc ?_ _)); refine blk_put (cs := #[.int .i64 0, .string (⟨#[]⟩ : ByteArray), .bool false, .slice none 0 0]) ?_ 0 _ rfl; (with_reducible repeat (first | refine blk_drewN ?_ _ | refine blk_drew ?_ | refine blk_alloc ?_ _)); refine blk_far ?_ NB502_503.out _; (with_reducible repeat (first | refine blk_drewN ?_ _ | refine blk_drew ?_ | refine blk_alloc ?_ _)); refine blk_far ?_ NB502_503.out _; (with_reducible repeat (first | refine blk_drewN ?_ _ | refine blk_drew ?_ | refine blk_alloc ?_ _)); exact BK502.out) Try.underlying28 rfl (by kernel_rfl)) rfl ?_
   exact ⟨_, by first | rfl | (simp [errW_none, errW_some] <;> rfl) | (simp [*, errW_none, errW_some] <;> rfl), by first | exact Kd.R_nil _ _ _ _ _ | exact Kd.N_nil _ _ _ _ _ | exact Kd.V_nil _ _ _ _ _ | exact Kd.Q_nil _ _ _ _ _ | exact Kd.S_nil _ _ _ _ _, by repeat (first | (with_reducible first | exact HB.out | apply below_alloc | apply pw_below_drewN | apply below_drew1 | refine below_set ?_ GE501.out | refine below_set ?_ GE502.out | refine below_set ?_ GE503.out) | exact HB.out)⟩
 ·rw [if_neg c2] at H
  have c2b0 : ((wrap64 (Int.tmod a0_0 10)) == 7) = false := beq_eq_false_iff_ne.mpr c2
  have c2b1 : ((wrap64 (Int.tmod a0_0 10)) != 7) = true := bne_iff_ne.mpr c2
  by_cases c40 : (wrap64 (Int.tmod a0_0 10)) = 8
  ·rw [if_pos c40] at H
   have c40b0 : ((wrap64 (Int.tmod a0_0 10)) == 8) = true := beq_iff_eq.mpr c40
   have c40b1 : ((wrap64 (Int.tmod a0_0 10)) != 8) = false := bne_eq_false_iff_eq.mpr c40
   clear c40
   replace H := Option.bind_eq_some_iff.mp H
   obtain ⟨t508, A410, H⟩ := H
   replace H : (some (wrap64 (Int.tmod a0_0 10), (⟨#[]⟩ : ByteArray), false, t508)) = some (r1, r2, r3, r4) := H
   have A41 := Aside0.mk A410
   clear A410
   simp only [Option.some.injEq, Prod.mk.injEq] at H
   obtain ⟨rfl, rfl, rfl, rfl⟩ := H
   go_enter Try.func30, Try.ntmps30
   go_wp2_with (first | ((with_reducible refine gate_dst (N := 1) rfl ?_); refine box_event ?hg (N := 1) ?hd (cs := #[.int .u8 a0_0, .int .u8 a0_1, .slice A0_2 l0_2.length c0_2, .slice A0_3 l0_3.length c0_3]) (t := 64) ?hr ?_; (case hd => rfl); (case hg => rfl); (case hr => first | (go_simp; done) | (go_simp; rfl)); intro gb501 hg w42 hbox hb; have n0_ := Aside0.mk (below_step (by repeat (first | (with_reducible first | exact HB.out | apply below_alloc | apply pw_below_drewN | apply below_drew1) | exact HB.out)) hb); have n1_ := Aside0.mk (hbox); have n2_ := Aside0.mk ((by rw [hg]; exact (below_size (by repeat (first | (with_reducible first | exact HB.out | apply below_alloc | apply pw_below_drewN | apply below_drew1) | exact HB.out))) : w.heap.size ≤ gb501)); have n3_ := Aside0.mk ((by rw [hg]; exact (below_size (by repeat (first | (with_reducible first | exact HB.out | apply below_alloc | apply pw_below_drewN | apply below_drew1) | exact HB.out))) : w.heap.size ≤ gb501)); clear HB; have HB := n0_; have BK501 := n1_; have GW501 := n2_; have GE501 := n3_; clear n0_ n1_ n2_ n3_; clear hb hbox hg) | ((with_reducible refine gate_dst (N := 2) rfl ?_); refine box_event ?hg (N := 2) ?hd (cs := #[.int .i64 0, .string (⟨#[]⟩ : ByteArray), .bool false, .slice none 0 0]) (t := 28) ?hr ?_; (case hd => rfl); (case hg => rfl); (case hr => first | (go_simp; done) | (go_simp; rfl)); intro gb502 hg w43 hbox hb; have n0_ := Aside0.mk (blk_below (g := gb501) (o := .cells #[.int .u8 a0_0, .int .u8 a0_1, .slice A0_2 l0_2.length c0_2, .slice A0_3 l0_3.length c0_3] 64 (0, 0)) (by (with_reducible repeat (first | refine blk_drewN ?_ _ | refine blk_drew ?_ | refine blk_alloc ?_ _)); exact BK501.out) hb); have n1_ := Aside0.mk (below_step (by repeat (first | (with_reducible first | exact HB.out | apply below_alloc | apply pw_below_drewN | apply below_drew1 | refine below_set ?_ GE501.out) | exact HB.out)) hb); have n2_ := Aside0.mk (hbox); have n3_ := Aside0.mk ((by rw [hg]; exact (below_size (by repeat (first | (with_reducible first | exact HB.out | apply below_alloc | apply pw_below_drewN | apply below_drew1 | refine below_set ?_ GE501.out) | exact HB.out))) : w.heap.size ≤ gb502)); have n4_ := Aside0.mk ((by rw [hg]; exact (below_size (by repeat (first | (with_reducible first | exact HB.out | apply below_alloc | apply pw_below_drewN | apply below_drew1 | refine below_set ?_ GE501.out) | exact HB.out))) : w.heap.size ≤ gb502)); have n5_ := Aside0.mk ((by rw [hg]; exact Nat.ne_of_lt (blk_lt (g := gb501) (o := .cells #[.int .u8 a0_0, .int .u8 a0_1, .slice A0_2 l0_2.length c0_2, .slice A0_3 l0_3.length c0_3] 64 (0, 0)) (by (with_reducible repeat (first | refine blk_drewN ?_ _ | refine blk_drew ?_ | refine blk_alloc ?_ _)); exact BK501.out)) : gb501 ≠ gb502)); have n6_ := Aside0.mk ((by rw [hg]; exact Nat.ne_of_gt (blk_lt (g := gb501) (o := .cells #[.int .u8 a0_0, .int .u8 a0_1, .slice A0_2 l0_2.length c0_2, .slice A0_3 l0_3.length c0_3] 64 (0, 0)) (by (with_reducible repeat (first | refine blk_drewN ?_ _ | refine blk_drew ?_ | refine blk_alloc ?_ _)); exact BK501.out)) : gb502 ≠ gb501)); clear BK501; clear HB; have BK501 := n0_; have HB := n1_; have BK502 := n2_; have GW502 := n3_; have GE502 := n4_; have NB501_502 := n5_; have NB502_501 := n6_; clear n0_ n1_ n2_ n3_ n4_ n5_ n6_; clear hb hbox hg; have hnb44 := NB501_502.out; have hnc44 := NB502_501.out; have hcz45_0 : w43.cell? ⟨gb501, 0, none⟩ = some (.int .u8 a0_0) := (blk_cell BK501.out 0).trans rfl; have hcz45_1 : w43.cell? ⟨gb501, 1, none⟩ = some (.int .u8 a0_1) := (blk_cell BK501.out 1).trans rfl; have hcz45_2 : w43.cell? ⟨gb501, 2, none⟩ = some (.slice A0_2 l0_2.length c0_2) := (blk_cell BK501.out 2).trans rfl; have hcz45_3 : w43.cell? ⟨gb501, 3, none⟩ = some (.slice A0_3 l0_3.length c0_3) := (blk_cell BK501.out 3).trans rfl; have hfz45_0 := blk_frozen BK501.out 0; have hfz45_1 := blk_frozen BK501.out 1; have hfz45_2 := blk_frozen BK501.out 2; have hfz45_3 := blk_frozen BK501.out 3) | ((with_reducible refine gate_dst (N := 3) rfl ?_); refine box_event ?hg (N := 3) ?hd (cs := #[.int .i64 0, .string (⟨#[]⟩ : ByteArray), .bool false, .slice none 0 0]) (t := 28) ?hr ?_; (case hd => rfl); (case hg => rfl); (case hr => first | (go_simp; done) | (go_simp; rfl)); intro gb503 hg w46 hbox hb; have n0_ := Aside0.mk (blk_below (g := gb501) (o := .cells #[.int .u8 a0_0, .int .u8 a0_1, .slice A0_2 l0_2.length c0_2, .slice A0_3 l0_3.length c0_3] 64 (0, 0)) (by (with_reducible repeat (first | refine blk_drewN ?_ _ | refine blk_drew ?_ | refine blk_alloc ?_ _)); exact BK501.out) hb); have n1_ := Aside0.mk (blk_below (g := gb502) (o := .cells #[.int .i64 0, .string (⟨#[]⟩ : ByteArray), .bool false, .slice none 0 0] 28 (0, 0)) (by (with_reducible repeat (first | refine blk_drewN ?_ _ | refine blk_drew ?_ | refine blk_alloc ?_ _)); exact BK502.out) hb); have n2_ := Aside0.mk (below_step (by repeat (first | (with_reducible first | exact HB.out | apply below_alloc | apply pw_below_drewN | apply below_drew1 | refine below_set ?_ GE501.out | refine below_set ?_ GE502.out) | exact HB.out)) hb); have n3_ := Aside0.mk (hbox); have n4_ := Aside0.mk ((by rw [hg]; exact (below_size (by repeat (first | (with_reducible first | exact HB.out | apply below_alloc | apply pw_below_drewN | apply below_drew1 | refine below_set ?_ GE501.out | refine below_set ?_ GE502.out) | exact HB.out))) : w.heap.size ≤ gb503)); have n5_ := Aside0.mk ((by rw [hg]; exact (below_size (by repeat (first | (with_reducible first | exact HB.out | apply below_alloc | apply pw_below_drewN | apply below_drew1 | refine below_set ?_ GE501.out | refine below_set ?_ GE502.out) | exact HB.out))) : w.heap.size ≤ gb503)); have n6_ := Aside0.mk ((by rw [hg]; exact Nat.ne_of_lt (blk_lt (g := gb501) (o := .cells #[.int .u8 a0_0, .int .u8 a0_1, .slice A0_2 l0_2.length c0_2, .slice A0_3 l0_3.length c0_3] 64 (0, 0)) (by (with_reducible repeat (first | refine blk_drewN ?_ _ | refine blk_drew ?_ | refine blk_alloc ?_ _)); exact BK501.out)) : gb501 ≠ gb503)); have n7_ := Aside0.mk ((by rw [hg]; exact Nat.ne_of_gt (blk_lt (g := gb501) (o := .cells #[.int .u8 a0_0, .int .u8 a0_1, .slice A0_2 l0_2.length c0_2, .slice A0_3 l0_3.length c0_3] 64 (0, 0)) (by (with_reducible repeat (first | refine blk_drewN ?_ _ | refine blk_drew ?_ | refine blk_alloc ?_ _)); exact BK501.out)) : gb503 ≠ gb501)); have n8_ := Aside0.mk ((by rw [hg]; exact Nat.ne_of_lt (blk_lt (g := gb502) (o := .cells #[.int .i64 0, .string (⟨#[]⟩ : ByteArray), .bool false, .slice none 0 0] 28 (0, 0)) (by (with_reducible repeat (first | refine blk_drewN ?_ _ | refine blk_drew ?_ | refine blk_alloc ?_ _)); exact BK502.out)) : gb502 ≠ gb503)); have n9_ := Aside0.mk ((by rw [hg]; exact Nat.ne_of_gt (blk_lt (g := gb502) (o := .cells #[.int .i64 0, .string (⟨#[]⟩ : ByteArray), .bool false, .slice none 0 0] 28 (0, 0)) (by (with_reducible repeat (first | refine blk_drewN ?_ _ | refine blk_drew ?_ | refine blk_alloc ?_ _)); exact BK502.out)) : gb503 ≠ gb502)); clear BK501; clear BK502; clear HB; have BK501 := n0_; have BK502 := n1_; have HB := n2_; have BK503 := n3_; have GW503 := n4_; have GE503 := n5_; have NB501_503 := n6_; have NB503_501 := n7_; have NB502_503 := n8_; have NB503_502 := n9_; clear n0_ n1_ n2_ n3_ n4_ n5_ n6_ n7_ n8_ n9_; clear hb hbox hg; have hnb47 := NB503_501.out; have hnc47 := NB501_503.out; have hnb48 := NB503_502.out; have hnc48 := NB502_503.out; have hcz49_0 : w46.cell? ⟨gb503, 0, none⟩ = some (.int .i64 0) := (blk_cell BK503.out 0).trans rfl; have hcz49_1 : w46.cell? ⟨gb503, 1, none⟩ = some (.string (⟨#[]⟩ : ByteArray)) := (blk_cell BK503.out 1).trans rfl; have hcz49_2 : w46.cell? ⟨gb503, 2, none⟩ = some (.bool false) := (blk_cell BK503.out 2).trans rfl; have hcz49_3 : w46.cell? ⟨gb503, 3, none⟩ = some (.slice none 0 0) := (blk_cell BK503.out 3).trans rfl; have hfz49_0 := blk_frozen BK503.out 0; have hfz49_1 := blk_frozen BK503.out 1; have hfz49_2 := blk_frozen BK503.out 2; have hfz49_3 := blk_frozen BK503.out 3; have hcz50_0 : w46.cell? ⟨gb501, 0, none⟩ = some (.int .u8 a0_0) := (blk_cell BK501.out 0).trans rfl; have hcz50_1 : w46.cell? ⟨gb501, 1, none⟩ = some (.int .u8 a0_1) := (blk_cell BK501.out 1).trans rfl; have hcz50_2 : w46.cell? ⟨gb501, 2, none⟩ = some (.slice A0_2 l0_2.length c0_2) := (blk_cell BK501.out 2).trans rfl; have hcz50_3 : w46.cell? ⟨gb501, 3, none⟩ = some (.slice A0_3 l0_3.length c0_3) := (blk_cell BK501.out 3).trans rfl; have hfz50_0 := blk_frozen BK501.out 0; have hfz50_1 := blk_frozen BK501.out 1; have hfz50_2 := blk_frozen BK501.out 2; have hfz50_3 := blk_frozen BK501.out 3) | ((with_reducible refine gate_callee (f := 21) rfl ?_); refine goesL_ (some 28) rfl rfl Try.func21 (by kernel_rfl) rfl #[.slice A0_3 l0_3.length c0_3, .int .i64 6] rfl (by (try simp only [List.map_toArray, List.map_cons, List.map_nil]); first | done | rfl | (simp only [List.length_drop, List.length_take]; rfl)) ?_; (with_reducible refine (bolterlaw05_Records.calls k _ _ l0_3 6 t508 _ ?side1 ?side2 A41.out).mono ?_); (case side1 => exact Kd.C_below HR0_3.out (by repeat (first | (with_reducible first | exact HB.out | apply below_alloc | apply pw_below_drewN | apply below_drew1 | refine below_set ?_ GE501.out | refine below_set ?_ GE502.out | refine below_set ?_ GE503.out) | exact HB.out))); (case side2 => exact HC0_3.out); rintro e w51 ⟨v509, rfl, ho0, hb⟩; refine ⟨_, rfl, ?_⟩; have n0_ := Aside0.mk (Kd.R_lower ho0 (below_size (by repeat (first | (with_reducible first | exact HB.out | apply below_alloc | apply pw_below_drewN | apply below_drew1 | refine below_set ?_ GE501.out | refine below_set ?_ GE502.out | refine below_set ?_ GE503.out) | exact HB.out)))); have n1_ := Aside0.mk (blk_below (g := gb501) (o := .cells #[.int .u8 a0_0, .int .u8 a0_1, .slice A0_2 l0_2.length c0_2, .slice A0_3 l0_3.length c0_3] 64 (0, 0)) (by (with_reducible repeat (first | refine blk_drewN ?_ _ | refine blk_drew ?_ | refine blk_alloc ?_ _)); refine blk_far ?_ NB501_503.out _; (with_reducible repeat (first | refine blk_drewN ?_ _ | refine blk_drew ?_ | refine blk_alloc ?_ _)); refine blk_far ?_ NB501_503.out _; (with_reducible repeat (first | refine blk_drewN ?_ _ | refine blk_drew ?_ | refine blk_alloc ?_ _)); refine blk_far ?_ NB501_503.out _; (with_reducible repeat (first | refine blk_drewN ?_ _ | refine blk_drew ?_ | refine blk_alloc ?_ _)); refine blk_far ?_ NB501_503.out _; (with_reducible repeat (first | refine blk_drewN ?_ _ | refine blk_drew ?_ | refine blk_alloc ?_ _)); exact BK501.out) hb); have n2_ := Aside0.mk (blk_below (g := gb502) (o := .cells #[.int .i64 0, .string (⟨#[]⟩ : ByteArray), .bool false, .slice none 0 0] 28 (0, 0)) (by (with_reducible repeat (first | refine blk_drewN ?_ _ | refine blk_drew ?_ | refine blk_alloc ?_ _)); refine blk_far ?_ NB502_503.out _; (with_reducible repeat (first | refine blk_drewN ?_ _ | refine blk_drew ?_ | refine blk_alloc ?_ _)); refine blk_far ?_ NB502_503.out _; (with_reducible repeat (first | refine blk_drewN ?_ _ | refine blk_drew ?_ | refine blk_alloc ?_ _)); refine blk_far ?_ NB502_503.out _; (with_reducible repeat (first | refine blk_drewN ?_ _ | refine blk_drew ?_ | refine blk_alloc ?_ _)); refine blk_far ?_ NB502_503.out _; (with_reducible repeat (first | refine blk_drewN ?_ _ | refine blk_drew ?_ | refine blk_alloc ?_ _)); exact BK502.out) hb); have n3_ := Aside0.mk (blk_below (g := gb503) (o := .cells #[.int .i64 (wrap64 (Int.tmod a0_0 10)), .string (⟨#[]⟩ : ByteArray), .bool false, .slice none 0 0] 28 (0, 0)) (by (with_reducible repeat (first | refine blk_drewN ?_ _ | refine blk_drew ?_ | refine blk_alloc ?_ _)); refine blk_put (cs := #[.int .i64 (wrap64 (Int.tmod a0_0 10)), .string (⟨#[]⟩ : ByteArray), .bool false, .slice none 0 0]) ?_ 3 _ rfl; (with_reducible repeat (first | refine blk_drewN ?_ _ | refine blk_drew ?_ | refine blk_alloc ?_ _)); refine blk_put (cs := #[.int .i64 (wrap64 (Int.tmod a0_0 10)), .string (⟨#[]⟩ : ByteArray), .bool false, .slice none 0 0]) ?_ 2 _ rfl; (with_reducible repeat (first | refine blk_drewN ?_ _ | refine blk_drew ?_ | refine blk_alloc ?_ _)); refine blk_put (cs := #[.int .i64 (wrap64 (Int.tmod a0_0 10)), .string (⟨#[]⟩ : ByteArray), .bool false, .slice none 0 0]) ?_ 1 _ rfl; (with_reducible repeat (first | refine blk_drewN ?_ _ | refine blk_drew ?_ | refine blk_alloc ?_ _)); refine blk_put (cs := #[.int .i64 0, .string (⟨#[]⟩ : ByteArray), .bool false, .slice none 0 0]) ?_ 0 _ rfl; (with_reducible repeat (first | refine blk_drewN ?_ _ | refine blk_drew ?_ | refine blk_alloc ?_ _)); exact BK503.out) hb); have n4_ := Aside0.mk (below_step (by repeat (first | (with_reducible first | exact HB.out | apply below_alloc | apply pw_below_drewN | apply below_drew1 | refine below_set ?_ GE501.out | refine below_set ?_ GE502.out | refine below_set ?_ GE503.out) | exact HB.out)) hb); clear BK501; clear BK502; clear BK503; clear HB; have HO510 := n0_; have BK501 := n1_; have BK502 := n2_; have BK503 := n3_; have HB := n4_; clear n0_ n1_ n2_ n3_ n4_; (try clear hb); (try clear hb2); (try clear hk); (try clear hi); (try clear ho0); obtain ⟨Ao52, co52, eo52⟩ := Kd.R_slice HO510.out; subst eo52; have hcz53_0 : w51.cell? ⟨gb503, 0, none⟩ = some (.int .i64 (wrap64 (Int.tmod a0_0 10))) := (blk_cell BK503.out 0).trans rfl; have hcz53_1 : w51.cell? ⟨gb503, 1, none⟩ = some (.string (⟨#[]⟩ : ByteArray)) := (blk_cell BK503.out 1).trans rfl; have hcz53_2 : w51.cell? ⟨gb503, 2, none⟩ = some (.bool false) := (blk_cell BK503.out 2).trans rfl; have hcz53_3 : w51.cell? ⟨gb503, 3, none⟩ = some (.slice none 0 0) := (blk_cell BK503.out 3).trans rfl; have hfz53_0 := blk_frozen BK503.out 0; have hfz53_1 := blk_frozen BK503.out 1; have hfz53_2 := blk_frozen BK503.out 2; have hfz53_3 := blk_frozen BK503.out 3; have hcz54_0 : w51.cell? ⟨gb502, 0, none⟩ = some (.int .i64 0) := (blk_cell BK502.out 0).trans rfl; have hcz54_1 : w51.cell? ⟨gb502, 1, none⟩ = some (.string (⟨#[]⟩ : ByteArray)) := (blk_cell BK502.out 1).trans rfl; have hcz54_2 : w51.cell? ⟨gb502, 2, none⟩ = some (.bool false) := (blk_cell BK502.out 2).trans rfl; have hcz54_3 : w51.cell? ⟨gb502, 3, none⟩ = some (.slice none 0 0) := (blk_cell BK502.out 3).trans rfl; have hfz54_0 := blk_frozen BK502.out 0; have hfz54_1 := blk_frozen BK502.out 1; have hfz54_2 := blk_frozen BK502.out 2; have hfz54_3 := blk_frozen BK502.out 3))
   refine bodyPost_ret (results_cell_row rfl _ _ gb502 28 #[.int .i64 (wrap64 (Int.tmod a0_0 10)), .string (⟨#[]⟩ : ByteArray), .bool false, .slice Ao52 t508.length co52] (0, 0) _ rfl (by (with_reducible repeat (first | refine blk_drewN ?_ _ | refine blk_drew ?_ | refine blk_alloc ?_ _)); refine blk_put (cs := #[.int .i64 (wrap64 (Int.tmod a0_0 10)), .string (⟨#[]⟩ : ByteArray), .bool false, .slice none 0 0]) ?_ 3 _ rfl; (with_reducible repeat (first | refine blk_drewN ?_ _ | refine blk_drew ?_ | refine blk_alloc ?_ _)); refine blk_put (cs := #[.int .i64 (wrap64 (Int.tmod a0_0 10)), .string (⟨#[]⟩ : ByteArray), .bool false, .slice none 0 0]) ?_ 2 _ rfl; (with_reducible repeat (first | refine blk_drewN ?_ _ | refine blk_drew ?_ | refine blk_alloc ?_ _)); refine blk_put (cs := #[.int .i64 (wrap64 (Int.tmod a0_0 10)), .string (⟨#[]⟩ : ByteArray), .bool false, .slice none 0 0]) ?_ 1 _ rfl; (with_reducible repeat (first | refine blk_drewN ?_ _ | refine blk_drew ?_ | refine blk_alloc ?_ _)); refine blk_put (cs := #[.int .i64 0, .string (⟨#[]⟩ : ByteArray), .bool false, .slice none 0 0]) ?_ 0 _ rfl; (with_reducible repeat (first | refine blk_drewN ?_ _ | refine blk_drew ?_ | refine blk_alloc ?_ _)); refine blk_far ?_ NB502_503.out _; (with_reducible repeat (first | refine blk_drewN ?_ _ | refine blk_drew ?_ | refine blk_alloc ?_ _)); exact BK502.out) Try.underlying28 rfl (by kernel_rfl)) rfl ?_
   exact ⟨_, by first | rfl | (simp [errW_none, errW_some] <;> rfl) | (simp [*, errW_none, errW_some] <;> rfl), by (with_reducible repeat (first | apply Kd.R_alloc | apply Kd.R_drewN | apply Kd.R_drew)); exact Kd.R_mono (Kd.R_far (p := ⟨gb502, 3, none⟩) (Kd.R_far (p := ⟨gb502, 2, none⟩) (Kd.R_far (p := ⟨gb502, 1, none⟩) (Kd.R_far (p := ⟨gb502, 0, none⟩) (Kd.R_far (p := ⟨gb503, 3, none⟩) (Kd.R_types (Kd.R_types HO510.out BK503.out (by decide)) BK502.out (by decide)) (fun _ hk => hk.1.2) (.slice Ao52 t508.length co52)) (fun _ hk => hk.2) (.int .i64 (wrap64 (Int.tmod a0_0 10)))) (fun _ hk => hk.2) (.string (⟨#[]⟩ : ByteArray))) (fun _ hk => hk.2) (.bool false)) (fun _ hk => hk.2) (.slice Ao52 t508.length co52)) (fun _ hk => trivial), by repeat (first | (with_reducible first | exact HB.out | apply below_alloc | apply pw_below_drewN | apply below_drew1 | refine below_set ?_ GE501.out | refine below_set ?_ GE502.out | refine below_set ?_ GE503.out) | exact HB.out)⟩
  ·rw [if_neg c40] at H
   have c40b0 : ((wrap64 (Int.tmod a0_0 10)) == 8) = false := beq_eq_false_iff_ne.mpr c40
   have c40b1 : ((wrap64 (Int.tmod a0_0 10)) != 8) = true := bne_iff_ne.mpr c40
   simp only [Option.some.injEq, Prod.mk.injEq] at H
   obtain ⟨rfl, rfl, rfl, rfl⟩ := H
   go_enter Try.func30, Try.ntmps30
   go_wp2_with (first | ((with_reducible refine gate_dst (N := 1) rfl ?_); refine box_event ?hg (N := 1) ?hd (cs := #[.int .u8 a0_0, .int .u8 a0_1, .slice A0_2 l0_2.length c0_2, .slice A0_3 l0_3.length c0_3]) (t := 64) ?hr ?_; (case hd => rfl); (case hg => rfl); (case hr => first | (go_simp; done) | (go_simp; rfl)); intro gb501 hg w55 hbox hb; have n0_ := Aside0.mk (below_step (by repeat (first | (with_reducible first | exact HB.out | apply below_alloc | apply pw_below_drewN | apply below_drew1) | exact HB.out)) hb); have n1_ := Aside0.mk (hbox); have n2_ := Aside0.mk ((by rw [hg]; exact (below_size (by repeat (first | (with_reducible first | exact HB.out | apply below_alloc | apply pw_below_drewN | apply below_drew1) | exact HB.out))) : w.heap.size ≤ gb501)); have n3_ := Aside0.mk ((by rw [hg]; exact (below_size (by repeat (first | (with_reducible first | exact HB.out | apply below_alloc | apply pw_below_drewN | apply below_drew1) | exact HB.out))) : w.heap.size ≤ gb501)); clear HB; have HB := n0_; have BK501 := n1_; have GW501 := n2_; have GE501 := n3_; clear n0_ n1_ n2_ n3_; clear hb hbox hg) | ((with_reducible refine gate_dst (N := 2) rfl ?_); refine box_event ?hg (N := 2) ?hd (cs := #[.int .i64 0, .string (⟨#[]⟩ : ByteArray), .bool false, .slice none 0 0]) (t := 28) ?hr ?_; (case hd => rfl); (case hg => rfl); (case hr => first | (go_simp; done) | (go_simp; rfl)); intro gb502 hg w56 hbox hb; have n0_ := Aside0.mk (blk_below (g := gb501) (o := .cells #[.int .u8 a0_0, .int .u8 a0_1, .slice A0_2 l0_2.length c0_2, .slice A0_3 l0_3.length c0_3] 64 (0, 0)) (by (with_reducible repeat (first | refine blk_drewN ?_ _ | refine blk_drew ?_ | refine blk_alloc ?_ _)); exact BK501.out) hb); have n1_ := Aside0.mk (below_step (by repeat (first | (with_reducible first | exact HB.out | apply below_alloc | apply pw_below_drewN | apply below_drew1 | refine below_set ?_ GE501.out) | exact HB.out)) hb); have n2_ := Aside0.mk (hbox); have n3_ := Aside0.mk ((by rw [hg]; exact (below_size (by repeat (first | (with_reducible first | exact HB.out | apply below_alloc | apply pw_below_drewN | apply below_drew1 | refine below_set ?_ GE501.out) | exact HB.out))) : w.heap.size ≤ gb502)); have n4_ := Aside0.mk ((by rw [hg]; exact (below_size (by repeat (first | (with_reducible first | exact HB.out | apply below_alloc | apply pw_below_drewN | apply below_drew1 | refine below_set ?_ GE501.out) | exact HB.out))) : w.heap.size ≤ gb502)); have n5_ := Aside0.mk ((by rw [hg]; exact Nat.ne_of_lt (blk_lt (g := gb501) (o := .cells #[.int .u8 a0_0, .int .u8 a0_1, .slice A0_2 l0_2.length c0_2, .slice A0_3 l0_3.length c0_3] 64 (0, 0)) (by (with_reducible repeat (first | refine blk_drewN ?_ _ | refine blk_drew ?_ | refine blk_alloc ?_ _)); exact BK501.out)) : gb501 ≠ gb502)); have n6_ := Aside0.mk ((by rw [hg]; exact Nat.ne_of_gt (blk_lt (g := gb501) (o := .cells #[.int .u8 a0_0, .int .u8 a0_1, .slice A0_2 l0_2.length c0_2, .slice A0_3 l0_3.length c0_3] 64 (0, 0)) (by (with_reducible repeat (first | refine blk_drewN ?_ _ | refine blk_drew ?_ | refine blk_alloc ?_ _)); exact BK501.out)) : gb502 ≠ gb501)); clear BK501; clear HB; have BK501 := n0_; have HB := n1_; have BK502 := n2_; have GW502 := n3_; have GE502 := n4_; have NB501_502 := n5_; have NB502_501 := n6_; clear n0_ n1_ n2_ n3_ n4_ n5_ n6_; clear hb hbox hg; have hnb57 := NB501_502.out; have hnc57 := NB502_501.out; have hcz58_0 : w56.cell? ⟨gb501, 0, none⟩ = some (.int .u8 a0_0) := (blk_cell BK501.out 0).trans rfl; have hcz58_1 : w56.cell? ⟨gb501, 1, none⟩ = some (.int .u8 a0_1) := (blk_cell BK501.out 1).trans rfl; have hcz58_2 : w56.cell? ⟨gb501, 2, none⟩ = some (.slice A0_2 l0_2.length c0_2) := (blk_cell BK501.out 2).trans rfl; have hcz58_3 : w56.cell? ⟨gb501, 3, none⟩ = some (.slice A0_3 l0_3.length c0_3) := (blk_cell BK501.out 3).trans rfl; have hfz58_0 := blk_frozen BK501.out 0; have hfz58_1 := blk_frozen BK501.out 1; have hfz58_2 := blk_frozen BK501.out 2; have hfz58_3 := blk_frozen BK501.out 3) | ((with_reducible refine gate_dst (N := 3) rfl ?_); refine box_event ?hg (N := 3) ?hd (cs := #[.int .i64 0, .string (⟨#[]⟩ : ByteArray), .bool false, .slice none 0 0]) (t := 28) ?hr ?_; (case hd => rfl); (case hg => rfl); (case hr => first | (go_simp; done) | (go_simp; rfl)); intro gb503 hg w59 hbox hb; have n0_ := Aside0.mk (blk_below (g := gb501) (o := .cells #[.int .u8 a0_0, .int .u8 a0_1, .slice A0_2 l0_2.length c0_2, .slice A0_3 l0_3.length c0_3] 64 (0, 0)) (by (with_reducible repeat (first | refine blk_drewN ?_ _ | refine blk_drew ?_ | refine blk_alloc ?_ _)); exact BK501.out) hb); have n1_ := Aside0.mk (blk_below (g := gb502) (o := .cells #[.int .i64 0, .string (⟨#[]⟩ : ByteArray), .bool false, .slice none 0 0] 28 (0, 0)) (by (with_reducible repeat (first | refine blk_drewN ?_ _ | refine blk_drew ?_ | refine blk_alloc ?_ _)); exact BK502.out) hb); have n2_ := Aside0.mk (below_step (by repeat (first | (with_reducible first | exact HB.out | apply below_alloc | apply pw_below_drewN | apply below_drew1 | refine below_set ?_ GE501.out | refine below_set ?_ GE502.out) | exact HB.out)) hb); have n3_ := Aside0.mk (hbox); have n4_ := Aside0.mk ((by rw [hg]; exact (below_size (by repeat (first | (with_reducible first | exact HB.out | apply below_alloc | apply pw_below_drewN | apply below_drew1 | refine below_set ?_ GE501.out | refine below_set ?_ GE502.out) | exact HB.out))) : w.heap.size ≤ gb503)); have n5_ := Aside0.mk ((by rw [hg]; exact (below_size (by repeat (first | (with_reducible first | exact HB.out | apply below_alloc | apply pw_below_drewN | apply below_drew1 | refine below_set ?_ GE501.out | refine below_set ?_ GE502.out) | exact HB.out))) : w.heap.size ≤ gb503)); have n6_ := Aside0.mk ((by rw [hg]; exact Nat.ne_of_lt (blk_lt (g := gb501) (o := .cells #[.int .u8 a0_0, .int .u8 a0_1, .slice A0_2 l0_2.length c0_2, .slice A0_3 l0_3.length c0_3] 64 (0, 0)) (by (with_reducible repeat (first | refine blk_drewN ?_ _ | refine blk_drew ?_ | refine blk_alloc ?_ _)); exact BK501.out)) : gb501 ≠ gb503)); have n7_ := Aside0.mk ((by rw [hg]; exact Nat.ne_of_gt (blk_lt (g := gb501) (o := .cells #[.int .u8 a0_0, .int .u8 a0_1, .slice A0_2 l0_2.length c0_2, .slice A0_3 l0_3.length c0_3] 64 (0, 0)) (by (with_reducible repeat (first | refine blk_drewN ?_ _ | refine blk_drew ?_ | refine blk_alloc ?_ _)); exact BK501.out)) : gb503 ≠ gb501)); have n8_ := Aside0.mk ((by rw [hg]; exact Nat.ne_of_lt (blk_lt (g := gb502) (o := .cells #[.int .i64 0, .string (⟨#[]⟩ : ByteArray), .bool false, .slice none 0 0] 28 (0, 0)) (by (with_reducible repeat (first | refine blk_drewN ?_ _ | refine blk_drew ?_ | refine blk_alloc ?_ _)); exact BK502.out)) : gb502 ≠ gb503)); have n9_ := Aside0.mk ((by rw [hg]; exact Nat.ne_of_gt (blk_lt (g := gb502) (o := .cells #[.int .i64 0, .string (⟨#[]⟩ : ByteArray), .bool false, .slice none 0 0] 28 (0, 0)) (by (with_reducible repeat (first | refine blk_drewN ?_ _ | refine blk_drew ?_ | refine blk_alloc ?_ _)); exact BK502.out)) : gb503 ≠ gb502)); clear BK501; clear BK502; clear HB; have BK501 := n0_; have BK502 := n1_; have HB := n2_; have BK503 := n3_; have GW503 := n4_; have GE503 := n5_; have NB501_503 := n6_; have NB503_501 := n7_; have NB502_503 := n8_; have NB503_502 := n9_; clear n0_ n1_ n2_ n3_ n4_ n5_ n6_ n7_ n8_ n9_; clear hb hbox hg; have hnb60 := NB503_501.out; have hnc60 := NB501_503.out; have hnb61 := NB503_502.out; have hnc61 := NB502_503.out; have hcz62_0 : w59.cell? ⟨gb503, 0, none⟩ = some (.int .i64 0) := (blk_cell BK503.out 0).trans rfl; have hcz62_1 : w59.cell? ⟨gb503, 1, none⟩ = some (.string (⟨#[]⟩ : ByteArray)) := (blk_cell BK503.out 1).trans rfl; have hcz62_2 : w59.cell? ⟨gb503, 2, none⟩ = some (.bool false) := (blk_cell BK503.out 2).trans rfl; have hcz62_3 : w59.cell? ⟨gb503, 3, none⟩ = some (.slice none 0 0) := (blk_cell BK503.out 3).trans rfl; have hfz62_0 := blk_frozen BK503.out 0; have hfz62_1 := blk_frozen BK503.out 1; have hfz62_2 := blk_frozen BK503.out 2; have hfz62_3 := blk_frozen BK503.out 3; have hcz63_0 : w59.cell? ⟨gb502, 0, none⟩ = some (.int .i64 0) := (blk_cell BK502.out 0).trans rfl; have hcz63_1 : w59.cell? ⟨gb502, 1, none⟩ = some (.string (⟨#[]⟩ : ByteArray)) := (blk_cell BK502.out 1).trans rfl; have hcz63_2 : w59.cell? ⟨gb502, 2, none⟩ = some (.bool false) := (blk_cell BK502.out 2).trans rfl; have hcz63_3 : w59.cell? ⟨gb502, 3, none⟩ = some (.slice none 0 0) := (blk_cell BK502.out 3).trans rfl; have hfz63_0 := blk_frozen BK502.out 0; have hfz63_1 := blk_frozen BK502.out 1; have hfz63_2 := blk_frozen BK502.out 2; have hfz63_3 := blk_frozen BK502.out 3))
   refine bodyPost_ret (results_cell_row rfl _ _ gb502 28 #[.int .i64 (wrap64 (Int.tmod a0_0 10)), .string (⟨#[]⟩ : ByteArray), .bool false, .slice none 0 0] (0, 0) _ rfl (by (with_reducible repeat (first | refine blk_drewN ?_ _ | refine blk_drew ?_ | refine blk_alloc ?_ _)); refine blk_put (cs := #[.int .i64 (wrap64 (Int.tmod a0_0 10)), .string (⟨#[]⟩ : ByteArray), .bool false, .slice none 0 0]) ?_ 3 _ rfl; (with_reducible repeat (first | refine blk_drewN ?_ _ | refine blk_drew ?_ | refine blk_alloc ?_ _)); refine blk_put (cs := #[.int .i64 (wrap64 (Int.tmod a0_0 10)), .string (⟨#[]⟩ : ByteArray), .bool false, .slice none 0 0]) ?_ 2 _ rfl; (with_reducible repeat (first | refine blk_drewN ?_ _ | refine blk_drew ?_ | refine blk_alloc ?_ _)); refine blk_put (cs := #[.int .i64 (wrap64 (Int.tmod a0_0 10)), .string (⟨#[]⟩ : ByteArray), .bool false, .slice none 0 0]) ?_ 1 _ rfl; (with_reducible repeat (first | refine blk_drewN ?_ _ | refine blk_drew ?_ | refine blk_alloc ?_ _)); refine blk_put (cs := #[.int .i64 0, .string (⟨#[]⟩ : ByteArray), .bool false, .slice none 0 0]) ?_ 0 _ rfl; (with_reducible repeat (first | refine blk_drewN ?_ _ | refine blk_drew ?_ | refine blk_alloc ?_ _)); refine blk_far ?_ NB502_503.out _; (with_reducible repeat (first | refine blk_drewN ?_ _ | refine blk_drew ?_ | refine blk_alloc ?_ _)); refine blk_far ?_ NB502_503.out _; (with_reducible repeat (first | refine blk_drewN ?_ _ | refine blk_drew ?_ | refine blk_alloc ?_ _)); refine blk_far ?_ NB502_503.out _; (with_reducible repeat (first | refine blk_drewN ?_ _ | refine blk_drew ?_ | refine blk_alloc ?_ _)); refine blk_far ?_ NB502_503.out _; (with_reducible repeat (first | refine blk_drewN ?_ _ | refine blk_drew ?_ | refine blk_alloc ?_ _)); exact BK502.out) Try.underlying28 rfl (by kernel_rfl)) rfl ?_
   exact ⟨_, by first | rfl | (simp [errW_none, errW_some] <;> rfl) | (simp [*, errW_none, errW_some] <;> rfl), by first | exact Kd.R_nil _ _ _ _ _ | exact Kd.N_nil _ _ _ _ _ | exact Kd.V_nil _ _ _ _ _ | exact Kd.Q_nil _ _ _ _ _ | exact Kd.S_nil _ _ _ _ _, by repeat (first | (with_reducible first | exact HB.out | apply below_alloc | apply pw_below_drewN | apply below_drew1 | refine below_set ?_ GE501.out | refine below_set ?_ GE502.out | refine below_set ?_ GE503.out) | exact HB.out)⟩

end Go.Proofs.Ytdkjlbbbdjkhbaa.PAll
