-- Written by a program of this session (wip/tools/drive.py over the kit's printer): functions, contracts and rows (All).
import Derived.Test.YtdkjlbbbdjkhbaaPAllx0
import Derived.Test.YtdkjlbbbdjkhbaaPAllx31
import Derived.Test.YtdkjlbbbdjkhbaaPAllx32
namespace Go.Proofs.Ytdkjlbbbdjkhbaa.PAll
open Go.RowKit Go.Proofs.YtdkjlbbbdjkhbaaW.PrintWords Go.Proofs.YtdkjlbbbdjkhbaaW.PrintLast Go.Proofs.YtdkjlbbbdjkhbaaW.PrintMore
attribute [local go_sem] max2_int min2_int max_two min_two max_three min_three max_four min_four   -- for this text's walks alone
open Go.Proofs.Ytdkjlbbbdjkhbaa.Hand
set_option linter.unusedVariables false
set_option linter.unusedSimpArgs false

/-! ### bolterlaw05_Record: function 41 -/
def bolterlaw05_Record.f (k : Nat) (l0_0 : List Int) (a0_1 : Int) (a0_2 : Int) (l0_3 : List Int) (a0_4 : ByteArray) : Option (ByteArray × Int × Int × ByteArray) := if 0 ≤ (mn (a0_4.size : Int) 30) then (if (mn (a0_4.size : Int) 30) ≤ (a0_4.size : Int) then ((bolterlaw04_Data.f k (IntKind.u16.wrap (a0_1)) l0_3 (a0_4.extract 0 ((mn (a0_4.size : Int) 30) : Int).toNat)).bind fun bt443 => ((bolterlaw02_Name.f k l0_0).bind fun t445 => (some (t445, bt443.1, a0_2, bt443.2)))) else (none)) else (none)
theorem bolterlaw05_Record.mono : ∀ a0 a1 a2 a3 a4 k, LeO (bolterlaw05_Record.f k a0 a1 a2 a3 a4) (bolterlaw05_Record.f (k + 1) a0 a1 a2 a3 a4) := by
  intro a0 a1 a2 a3 a4 k
  unfold bolterlaw05_Record.f
  repeat' first
      | (with_reducible exact bolterlaw02_Name.mono _ _)
      | (with_reducible exact bolterlaw04_Data.mono _ _ _ _)
      | (with_reducible exact LeO.refl _)
      | (with_reducible exact LeO.none _)
      | (with_reducible refine LeO.ite ?_ ?_)
      | (with_reducible refine LeO.bind ?_ (fun _ => ?_))
      | exact bolterlaw02_Name.mono _ _
      | exact bolterlaw04_Data.mono _ _ _ _
      | exact LeO.none _
      | refine LeO.ite ?_ ?_
      | refine LeO.bind ?_ (fun _ => ?_)
def bolterlaw05_Record.T1 : Bool × List (List Nat × List Nat) := (true, [([], []), ([0], [0]), ([1], [1]), ([], []), ([3], [3]), ([], []), ([5], [5]), ([], []), ([7], [7]), ([8], [8]), ([9], [9]), ([6, 10], [6, 10]), ([2, 4, 11], [2, 4, 11]), ([12], [12]), ([13], [13]), ([13], [13]), ([14, 12, 0, 1, 2, 3, 4, 5, 6, 7, 8, 9, 10, 11, 12, 13, 14], [14]), ([15, 16, 0, 1, 2, 3, 4, 5, 6, 7, 8, 9, 10, 11, 12, 13, 14, 15, 16], [15])])
def bolterlaw05_Record.B1 : List Nat := [0, 1, 3, 0, 8, 0, 32, 0, 128, 384, 896, 2016, 4095, 8191, 16383, 16383, 32767, 131071]
theorem bolterlaw05_Record.tab1 : rtab .any (opsOf Try.f41 1) = bolterlaw05_Record.T1 := by kernel_rfl
theorem bolterlaw05_Record.bits1 : waitsOk bolterlaw05_Record.T1.2 bolterlaw05_Record.B1 = true := by kernel_rfl
def bolterlaw05_Record.T2 : Bool × List (List Nat × List Nat) := (true, [([], []), ([0], [0]), ([1], [1]), ([], []), ([], []), ([4], [4]), ([], []), ([2, 3, 5, 6], [2, 3, 5, 6]), ([7, 2, 0, 1, 2, 3, 4, 5, 6, 7], [7])])
def bolterlaw05_Record.B2 : List Nat := [0, 1, 3, 0, 0, 16, 0, 127, 255]
theorem bolterlaw05_Record.tab2 : rtab .any (opsOf Try.f41 2) = bolterlaw05_Record.T2 := by kernel_rfl
theorem bolterlaw05_Record.bits2 : waitsOk bolterlaw05_Record.T2.2 bolterlaw05_Record.B2 = true := by kernel_rfl
set_option maxHeartbeats 8000000 in
set_option maxRecDepth 100000 in
theorem bolterlaw05_Record.calls (k : Nat) (A0_0 : Option Addr) (c0_0 : Nat) (l0_0 : List Int) (a0_1 : Int) (a0_2 : Int) (A0_3 : Option Addr) (c0_3 : Nat) (l0_3 : List Int) (a0_4 : ByteArray) (r1 : ByteArray) (r2 : Int) (r3 : Int) (r4 : ByteArray) (w : World) (hr0_0 : Kd.C (Kd.int .u8) w A0_0 l0_0.length l0_0) (hc0_0 : l0_0.length ≤ c0_0) (hr0_3 : Kd.C (Kd.int .u8) w A0_3 l0_3.length l0_3) (hc0_3 : l0_3.length ≤ c0_3) (h : bolterlaw05_Record.f k l0_0 a0_1 a0_2 l0_3 a0_4 = some (r1, r2, r3, r4)) :
    Calls Try.prog 41 #[.agg #[.slice A0_0 l0_0.length c0_0, .int .u8 a0_1, .int .u32 a0_2, .slice A0_3 l0_3.length c0_3, .string a0_4]] w fun e w' => e = .returned (.agg #[.string r1, .int .u16 r2, .int .u32 r3, .string r4]) ∧ Below w.heap.size w w' := by
  have hu86 := Try.underlying86
  have hu43 := Try.underlying43
  have HR0_0 := Aside0.mk hr0_0
  have HC0_0 := Aside0.mk hc0_0
  clear hr0_0 hc0_0
  have HR0_3 := Aside0.mk hr0_3
  have HC0_3 := Aside0.mk hc0_3
  clear hr0_3 hc0_3
  have HB := Aside0.mk (Below.refl w.heap.size w)
  have H : (if 0 ≤ (mn (a0_4.size : Int) 30) then (if (mn (a0_4.size : Int) 30) ≤ (a0_4.size : Int) then ((bolterlaw04_Data.f k (IntKind.u16.wrap (a0_1)) l0_3 (a0_4.extract 0 ((mn (a0_4.size : Int) 30) : Int).toNat)).bind fun bt443 => ((bolterlaw02_Name.f k l0_0).bind fun t445 => (some (t445, bt443.1, a0_2, bt443.2)))) else (none)) else (none)) = some (r1, r2, r3, r4) := h
  clear h
  obtain ⟨ji2, hji2⟩ : ∃ j_ : Int, (mn (a0_4.size : Int) 30) = j_ := ⟨_, rfl⟩
  replace H : (if 0 ≤ (ji2) then (if (ji2) ≤ (a0_4.size : Int) then ((bolterlaw04_Data.f k (IntKind.u16.wrap (a0_1)) l0_3 (a0_4.extract 0 ((ji2) : Int).toNat)).bind fun bt443 => ((bolterlaw02_Name.f k l0_0).bind fun t445 => (some (t445, bt443.1, a0_2, bt443.2)))) else (none)) else (none)) = some (r1, r2, r3, r4) := by first | (rw [hji2] at H; exact H) | (simp only [hji2] at H ⊢; exact H)
  (try (have hji2h : ji2 ≤ 30 := by (rw [← hji2]; unfold mn; (repeat' split) <;> omega)))
  (try (have hji2g : ji2 ≤ 64 := by omega))
  (try (have hji2l : 0 ≤ ji2 := by (rw [← hji2]; unfold mn; (repeat' split) <;> omega)))
  (try (have hji2m : 0 ≤ ji2 := by omega))
  have hji2_ : (if 30 < (a0_4.size : Int) then 30 else (a0_4.size : Int)) = ji2 := hji2
  by_cases c3 : 0 ≤ (ji2)
  · rw [if_pos c3] at H
    have c3b0 := eq_true c3
    have c3b1 : decide (0 ≤ (ji2)) = true := decide_eq_true c3
    clear c3
    by_cases c4 : (ji2) ≤ (a0_4.size : Int)
    · rw [if_pos c4] at H
      have c4b0 := eq_true c4
      have c4b1 : decide ((ji2) ≤ (a0_4.size : Int)) = true := decide_eq_true c4
      clear c4
      replace H := Option.bind_eq_some_iff.mp H
      obtain ⟨⟨t443, t444⟩, A50, H⟩ := H
      replace H : ((bolterlaw02_Name.f k l0_0).bind fun t445 => (some (t445, t443, a0_2, t444))) = some (r1, r2, r3, r4) := H
      have A5 := Aside0.mk A50
      clear A50
      replace H := Option.bind_eq_some_iff.mp H
      obtain ⟨t445, A60, H⟩ := H
      replace H : (some (t445, t443, a0_2, t444)) = some (r1, r2, r3, r4) := H
      have A6 := Aside0.mk A60
      clear A60
      simp only [Option.some.injEq, Prod.mk.injEq] at H
      obtain ⟨rfl, rfl, rfl, rfl⟩ := H
      go_enter Try.func41, Try.ntmps41
      try go_wp2_with (first | ((with_reducible refine gate_dst (N := 1) rfl ?_); refine box_event ?hg (N := 1) ?hd (cs := #[.slice A0_0 l0_0.length c0_0, .int .u8 a0_1, .int .u32 a0_2, .slice A0_3 l0_3.length c0_3, .string a0_4]) (t := 86) ?hr ?_; (case hd => rfl); (case hg => rfl); (case hr => first | (go_simp; done) | (go_simp; rfl)); intro gb441 hg w7 hbox hb; have n0_ := Aside0.mk (below_step (by repeat (first | (with_reducible first | exact HB.out | apply below_alloc | apply pw_below_drewN | apply below_drew1) | exact HB.out)) hb); have n1_ := Aside0.mk (hbox); have n2_ := Aside0.mk ((by rw [hg]; exact (below_size (by repeat (first | (with_reducible first | exact HB.out | apply below_alloc | apply pw_below_drewN | apply below_drew1) | exact HB.out))) : w.heap.size ≤ gb441)); have n3_ := Aside0.mk ((by rw [hg]; exact (below_size (by repeat (first | (with_reducible first | exact HB.out | apply below_alloc | apply pw_below_drewN | apply below_drew1) | exact HB.out))) : w.heap.size ≤ gb441)); clear HB; have HB := n0_; have BK441 := n1_; have GW441 := n2_; have GE441 := n3_; clear n0_ n1_ n2_ n3_; clear hb hbox hg) | ((with_reducible refine gate_dst (N := 2) rfl ?_); refine box_event ?hg (N := 2) ?hd (cs := #[.string (⟨#[]⟩ : ByteArray), .int .u16 0, .int .u32 0, .string (⟨#[]⟩ : ByteArray)]) (t := 43) ?hr ?_; (case hd => rfl); (case hg => rfl); (case hr => first | (go_simp; done) | (go_simp; rfl)); intro gb442 hg w8 hbox hb; have n0_ := Aside0.mk (blk_below (g := gb441) (o := .cells #[.slice A0_0 l0_0.length c0_0, .int .u8 a0_1, .int .u32 a0_2, .slice A0_3 l0_3.length c0_3, .string a0_4] 86 (0, 0)) (by (with_reducible repeat (first | refine blk_drewN ?_ _ | refine blk_drew ?_ | refine blk_alloc ?_ _)); exact BK441.out) hb); have n1_ := Aside0.mk (below_step (by repeat (first | (with_reducible first | exact HB.out | apply below_alloc | apply pw_below_drewN | apply below_drew1 | refine below_set ?_ GE441.out) | exact HB.out)) hb); have n2_ := Aside0.mk (hbox); have n3_ := Aside0.mk ((by rw [hg]; exact (below_size (by repeat (first | (with_reducible first | exact HB.out | apply below_alloc | apply pw_below_drewN | apply below_drew1 | refine below_set ?_ GE441.out) | exact HB.out))) : w.heap.size ≤ gb442)); have n4_ := Aside0.mk ((by rw [hg]; exact (below_size (by repeat (first | (with_reducible first | exact HB.out | apply below_alloc | apply pw_below_drewN | apply below_drew1 | refine below_set ?_ GE441.out) | exact HB.out))) : w.heap.size ≤ gb442)); have n5_ := Aside0.mk ((by rw [hg]; exact Nat.ne_of_lt (blk_lt (g := gb441) (o := .cells #[.slice A0_0 l0_0.length c0_0, .int .u8 a0_1, .int .u32 a0_2, .slice A0_3 l0_3.length c0_3, .string a0_4] 86 (0, 0)) (by (with_reducible repeat (first | refine blk_drewN ?_ _ | refine blk_drew ?_ | refine blk_alloc ?_ _)); exact BK441.out)) : gb441 ≠ gb442)); have n6_ := Aside0.mk ((by rw [hg]; exact Nat.ne_of_gt (blk_lt (g := gb441) (o := .cells #[.slice A0_0 l0_0.length c0_0, .int .u8 a0_1, .int .u32 a0_2, .slice A0_3 l0_3.length c0_3, .string a0_4] 86 (0, 0)) (by (with_reducible repeat (first | refine blk_drewN ?_ _ | refine blk_drew ?_ | refine blk_alloc ?_ _)); exact BK441.out)) : gb442 ≠ gb441)); clear BK441; clear HB; have BK441 := n0_; have HB := n1_; have BK442 := n2_; have GW442 := n3_; have GE442 := n4_; have NB441_442 := n5_; have NB442_441 := n6_; clear n0_ n1_ n2_ n3_ n4_ n5_ n6_; clear hb hbox hg))
      have n0_ := Aside0.mk (blk_drew BK441.out)
      have n1_ := Aside0.mk (blk_drew BK442.out)
      have n2_ := Aside0.mk (below_drew1 HB.out)
      clear BK441
      clear BK442
      clear HB
      have BK441 := n0_
      have BK442 := n1_
      have HB := n2_
      clear n0_ n1_ n2_
      refine start_ (n := 18) (S := fun w' => w'.cell? ⟨gb441, 0, none⟩ = some (.slice A0_0 l0_0.length c0_0) ∧ w'.cell? ⟨gb441, 1, none⟩ = some (.int .u8 a0_1) ∧ w'.cell? ⟨gb441, 2, none⟩ = some (.int .u32 a0_2) ∧ w'.cell? ⟨gb441, 3, none⟩ = some (.slice A0_3 l0_3.length c0_3) ∧ w'.cell? ⟨gb441, 4, none⟩ = some (.string a0_4)) (ds := []) #[false, false, false, false, false, false, false, false, false, false, false, false, false, false, false, false, false, false] (by kernel_rfl) rfl rfl ⟨(blk_cell BK441.out 0).trans rfl, (blk_cell BK441.out 1).trans rfl, (blk_cell BK441.out 2).trans rfl, (blk_cell BK441.out 3).trans rfl, (blk_cell BK441.out 4).trans rfl⟩ (fun hHeld => ?_); refine with_tabW bolterlaw05_Record.tab1 bolterlaw05_Record.bits1 (fun HT_ HW_ => ?_)
      generalize w8.drew = w9 at BK441 BK442 HB hHeld ⊢
      refine pure_ (i := 0) (N := some 6) (v := ?_) (a' := ?_) #[true, false, false, false, false, false, false, false, false, false, false, false, false, false, false, false, false, false] rfl rfl (any_of HT_.out (by kernel_rfl)) (fun _ _ _ h => h) (Or.inl ⟨by rfl, ?_⟩) ?_ ?_
      rotate_left
      · intro w'
        go_simp
        with_reducible rfl
      rotate_left
      · simp only [Act.put, List.setIfInBounds_toArray, List.set_cons_zero, List.set_cons_succ, i64_w, i32_w]
        rfl
      refine pure_ (i := 3) (N := some 9) (v := ?_) (a' := ?_) #[true, false, false, true, false, false, false, false, false, false, false, false, false, false, false, false, false, false] rfl rfl (any_of HT_.out (by kernel_rfl)) (fun _ _ _ h => h) (Or.inl ⟨by rfl, ?_⟩) ?_ ?_
      rotate_left
      · intro w'
        go_simp
        with_reducible rfl
      rotate_left
      · simp only [Act.put, List.setIfInBounds_toArray, List.set_cons_zero, List.set_cons_succ, i64_w, i32_w]
        rfl
      refine pure_ (i := 5) (N := some 11) (v := ?_) (a' := ?_) #[true, false, false, true, false, true, false, false, false, false, false, false, false, false, false, false, false, false] rfl rfl (any_of HT_.out (by kernel_rfl)) (fun _ _ _ h => h) (Or.inl ⟨by rfl, ?_⟩) ?_ ?_
      rotate_left
      · intro w'
        go_simp
        with_reducible rfl
      rotate_left
      · simp only [Act.put, List.setIfInBounds_toArray, List.set_cons_zero, List.set_cons_succ, i64_w, i32_w]
        rfl
      refine pure_ (i := 7) (N := some 13) (v := ?_) (a' := ?_) #[true, false, false, true, false, true, false, true, false, false, false, false, false, false, false, false, false, false] rfl rfl (any_of HT_.out (by kernel_rfl)) (fun _ _ _ h => h) (Or.inl ⟨by rfl, ?_⟩) ?_ ?_
      rotate_left
      · intro w'
        go_simp
        with_reducible rfl
      rotate_left
      · simp only [Act.put, List.setIfInBounds_toArray, List.set_cons_zero, List.set_cons_succ, i64_w, i32_w]
        rfl
      refine take_ (i := 1) (N := some 7) (v := ?_) (a' := ?_) #[true, true, false, true, false, true, false, true, false, false, false, false, false, false, false, false, false, false] rfl rfl (take_ofW HT_.out HW_.out (by kernel_rfl)) (fun _ _ _ h => h) (Or.inl ⟨by rfl, ?_⟩) hHeld ?_ ?_
      rotate_left
      · rintro w' ⟨s0, s1, s2, s3, s4⟩
        go_simp
        with_reducible rfl
      rotate_left
      · simp only [Act.put, List.setIfInBounds_toArray, List.set_cons_zero, List.set_cons_succ, i64_w, i32_w]
        rfl
      refine pure_ (i := 2) (N := some 8) (v := ?_) (a' := ?_) #[true, true, true, true, false, true, false, true, false, false, false, false, false, false, false, false, false, false] rfl rfl (any_of HT_.out (by kernel_rfl)) (fun _ _ _ h => h) (Or.inl ⟨by rfl, ?_⟩) ?_ ?_
      rotate_left
      · intro w'
        go_simp
        with_reducible rfl
      rotate_left
      · simp only [Act.put, List.setIfInBounds_toArray, List.set_cons_zero, List.set_cons_succ, i64_w, i32_w]
        rfl
      refine take_ (i := 4) (N := some 10) (v := ?_) (a' := ?_) #[true, true, true, true, true, true, false, true, false, false, false, false, false, false, false, false, false, false] rfl rfl (take_ofW HT_.out HW_.out (by kernel_rfl)) (fun _ _ _ h => h) (Or.inl ⟨by rfl, ?_⟩) hHeld ?_ ?_
      rotate_left
      · rintro w' ⟨s0, s1, s2, s3, s4⟩
        go_simp
        with_reducible rfl
      rotate_left
      · simp only [Act.put, List.setIfInBounds_toArray, List.set_cons_zero, List.set_cons_succ, i64_w, i32_w]
        rfl
      refine take_ (i := 6) (N := some 12) (v := ?_) (a' := ?_) #[true, true, true, true, true, true, true, true, false, false, false, false, false, false, false, false, false, false] rfl rfl (take_ofW HT_.out HW_.out (by kernel_rfl)) (fun _ _ _ h => h) (Or.inl ⟨by rfl, ?_⟩) hHeld ?_ ?_
      rotate_left
      · rintro w' ⟨s0, s1, s2, s3, s4⟩
        go_simp
        with_reducible rfl
      rotate_left
      · simp only [Act.put, List.setIfInBounds_toArray, List.set_cons_zero, List.set_cons_succ, i64_w, i32_w]
        rfl
      refine take_ (i := 8) (N := some 14) (v := ?_) (a' := ?_) #[true, true, true, true, true, true, true, true, true, false, false, false, false, false, false, false, false, false] rfl rfl (take_ofW HT_.out HW_.out (by kernel_rfl)) (fun _ _ _ h => h) (Or.inl ⟨by rfl, ?_⟩) hHeld ?_ ?_
      rotate_left
      · rintro w' ⟨s0, s1, s2, s3, s4⟩
        go_simp
        with_reducible rfl
      rotate_left
      · simp only [Act.put, List.setIfInBounds_toArray, List.set_cons_zero, List.set_cons_succ, i64_w, i32_w]
        rfl
      refine pure_ (i := 9) (N := some 15) (v := ?_) (a' := ?_) #[true, true, true, true, true, true, true, true, true, true, false, false, false, false, false, false, false, false] rfl rfl (any_of HT_.out (by kernel_rfl)) (fun _ _ _ h => h) (Or.inl ⟨by rfl, ?_⟩) ?_ ?_
      rotate_left
      · intro w'
        go_simp
        with_reducible rfl
      rotate_left
      · simp only [Act.put, List.setIfInBounds_toArray, List.set_cons_zero, List.set_cons_succ, i64_w, i32_w]
        rfl
      refine pure_ (i := 10) (N := some 16) (v := ?_) (a' := ?_) #[true, true, true, true, true, true, true, true, true, true, true, false, false, false, false, false, false, false] rfl rfl (any_of HT_.out (by kernel_rfl)) (fun _ _ _ h => h) (Or.inl ⟨by rfl, ?_⟩) ?_ ?_
      rotate_left
      · intro w'
        go_simp
        with_reducible rfl
      rotate_left
      · simp only [Act.put, List.setIfInBounds_toArray, List.set_cons_zero, List.set_cons_succ, i64_w, i32_w]
        rfl
      refine pure_ (i := 11) (N := some 17) (v := ?_) (a' := ?_) #[true, true, true, true, true, true, true, true, true, true, true, true, false, false, false, false, false, false] rfl rfl (any_of HT_.out (by kernel_rfl)) (fun _ _ _ h => h) (Or.inl ⟨by rfl, ?_⟩) ?_ ?_
      rotate_left
      · intro w'
        go_simp
        with_reducible rfl
      rotate_left
      · simp only [Act.put, List.setIfInBounds_toArray, List.set_cons_zero, List.set_cons_succ, i64_w, i32_w]
        rfl
      refine one_ (i := 12) (N := some 18) #[true, true, true, true, true, true, true, true, true, true, true, true, true, false, false, false, false, false] rfl rfl (one_of HT_.out (by kernel_rfl)) (by decide) (fun K hK => ?_)
      refine goes_ Try.func49 (by kernel_rfl) rfl #[.int .u16 (IntKind.u16.wrap (a0_1)), .slice A0_3 l0_3.length c0_3, .string (a0_4.extract 0 ((ji2) : Int).toNat)] (by rfl) rfl rfl (by (try simp only [List.map_toArray, List.map_cons, List.map_nil]); first | done | (simp only [hji2]; rfl) | rfl | (simp only [List.length_drop, List.length_take]; rfl)) ?_
      with_reducible refine (bolterlaw04_Data.calls k (IntKind.u16.wrap (a0_1)) _ _ l0_3 (a0_4.extract 0 ((ji2) : Int).toNat) t443 t444 _ ?side1 ?side2 A5.out).mono ?_
      (case side1 => repeat (first | exact (Kd.C_below HR0_3.out HB.out) | (with_reducible refine Kd.C_alloc ?_ _) | (with_reducible refine Kd.C_drewN ?_ _) | (with_reducible refine Kd.C_drew ?_)))
      (case side2 => exact HC0_3.out)
      rintro e w10 ⟨rfl, hb⟩
      refine ⟨_, rfl, ?_⟩
      have n0_ := Aside0.mk (blk_below (g := gb441) (o := .cells #[.slice A0_0 l0_0.length c0_0, .int .u8 a0_1, .int .u32 a0_2, .slice A0_3 l0_3.length c0_3, .string a0_4] 86 (0, 0)) (by (with_reducible repeat (first | refine blk_drewN ?_ _ | refine blk_drew ?_ | refine blk_alloc ?_ _)); exact BK441.out) hb)
      have n1_ := Aside0.mk (blk_below (g := gb442) (o := .cells #[.string (⟨#[]⟩ : ByteArray), .int .u16 0, .int .u32 0, .string (⟨#[]⟩ : ByteArray)] 43 (0, 0)) (by (with_reducible repeat (first | refine blk_drewN ?_ _ | refine blk_drew ?_ | refine blk_alloc ?_ _)); exact BK442.out) hb)
      have n2_ := Aside0.mk (below_step (by repeat (first | (with_reducible first | exact HB.out | apply below_alloc | apply pw_below_drewN | apply below_drew1 | refine below_set ?_ GE441.out | refine below_set ?_ GE442.out) | exact HB.out)) hb)
      clear BK441
      clear BK442
      clear HB
      have BK441 := n0_
      have BK442 := n1_
      have HB := n2_
      clear n0_ n1_ n2_
      (try clear hb)
      (try clear hb2)
      (try clear hk)
      (try clear hi)
      refine hK.out _ _ ⟨(blk_cell BK441.out 0).trans rfl, (blk_cell BK441.out 1).trans rfl, (blk_cell BK441.out 2).trans rfl, (blk_cell BK441.out 3).trans rfl, (blk_cell BK441.out 4).trans rfl⟩ (fun hHeld => ?_)
      clear hK K
      refine norm_ (a' := ?_) ?_ ?_
      rotate_left
      · show Act.put _ (some 18) _ = _
        simp only [Act.put, List.setIfInBounds_toArray, List.set_cons_zero, List.set_cons_succ, i64_w, i32_w]
        rfl
      refine pure_ (i := 13) (N := some 5) (v := ?_) (a' := ?_) #[true, true, true, true, true, true, true, true, true, true, true, true, true, true, false, false, false, false] rfl rfl (any_of HT_.out (by kernel_rfl)) (fun _ _ _ h => h) (Or.inl ⟨by rfl, ?_⟩) ?_ ?_
      rotate_left
      · intro w'
        go_simp
        with_reducible rfl
      rotate_left
      · simp only [Act.put, List.setIfInBounds_toArray, List.set_cons_zero, List.set_cons_succ, i64_w, i32_w]
        rfl
      refine pure_ (i := 14) (N := some 19) (v := ?_) (a' := ?_) #[true, true, true, true, true, true, true, true, true, true, true, true, true, true, true, false, false, false] rfl rfl (any_of HT_.out (by kernel_rfl)) (fun _ _ _ h => h) (Or.inl ⟨by rfl, ?_⟩) ?_ ?_
      rotate_left
      · intro w'
        go_simp
        with_reducible rfl
      rotate_left
      · simp only [Act.put, List.setIfInBounds_toArray, List.set_cons_zero, List.set_cons_succ, i64_w, i32_w]
        rfl
      refine pure_ (i := 15) (N := some 20) (v := ?_) (a' := ?_) #[true, true, true, true, true, true, true, true, true, true, true, true, true, true, true, true, false, false] rfl rfl (any_of HT_.out (by kernel_rfl)) (fun _ _ _ h => h) (Or.inl ⟨by rfl, ?_⟩) ?_ ?_
      rotate_left
      · intro w'
        go_simp
        with_reducible rfl
      rotate_left
      · simp only [Act.put, List.setIfInBounds_toArray, List.set_cons_zero, List.set_cons_succ, i64_w, i32_w]
        rfl
      refine pure_ (i := 16) (N := some 3) (v := ?_) (a' := ?_) #[true, true, true, true, true, true, true, true, true, true, true, true, true, true, true, true, true, false] rfl rfl (any_of HT_.out (by kernel_rfl)) (fun _ _ _ h => h) (Or.inl ⟨by rfl, ?_⟩) ?_ ?_
      rotate_left
      · intro w'
        go_simp
        with_reducible rfl
      rotate_left
      · simp only [Act.put, List.setIfInBounds_toArray, List.set_cons_zero, List.set_cons_succ, i64_w, i32_w]
        rfl
      refine pure_ (i := 17) (N := some 4) (v := ?_) (a' := ?_) #[true, true, true, true, true, true, true, true, true, true, true, true, true, true, true, true, true, true] rfl rfl (any_of HT_.out (by kernel_rfl)) (fun _ _ _ h => h) (Or.inl ⟨by rfl, ?_⟩) ?_ ?_
      rotate_left
      · intro w'
        go_simp
        with_reducible rfl
      rotate_left
      · simp only [Act.put, List.setIfInBounds_toArray, List.set_cons_zero, List.set_cons_succ, i64_w, i32_w]
        rfl
      refine done_ (done_of HT_.out (by kernel_rfl)) ?_
      try go_wp2
      have n0_ := Aside0.mk (blk_drew BK441.out)
      have n1_ := Aside0.mk (blk_drew BK442.out)
      have n2_ := Aside0.mk (below_drew1 HB.out)
      clear BK441
      clear BK442
      clear HB
      have BK441 := n0_
      have BK442 := n1_
      have HB := n2_
      clear n0_ n1_ n2_
      refine start_ (n := 9) (S := fun w' => w'.cell? ⟨gb441, 0, none⟩ = some (.slice A0_0 l0_0.length c0_0) ∧ w'.cell? ⟨gb441, 1, none⟩ = some (.int .u8 a0_1) ∧ w'.cell? ⟨gb441, 2, none⟩ = some (.int .u32 a0_2) ∧ w'.cell? ⟨gb441, 3, none⟩ = some (.slice A0_3 l0_3.length c0_3) ∧ w'.cell? ⟨gb441, 4, none⟩ = some (.string a0_4)) (ds := []) #[false, false, false, false, false, false, false, false, false] (by kernel_rfl) rfl rfl ⟨(blk_cell BK441.out 0).trans rfl, (blk_cell BK441.out 1).trans rfl, (blk_cell BK441.out 2).trans rfl, (blk_cell BK441.out 3).trans rfl, (blk_cell BK441.out 4).trans rfl⟩ (fun hHeld => ?_); refine with_tabW bolterlaw05_Record.tab2 bolterlaw05_Record.bits2 (fun HT_ HW_ => ?_)
      generalize w10.drew = w11 at BK441 BK442 HB hHeld ⊢
      refine pure_ (i := 0) (N := some 21) (v := ?_) (a' := ?_) #[true, false, false, false, false, false, false, false, false] rfl rfl (any_of HT_.out (by kernel_rfl)) (fun _ _ _ h => h) (Or.inl ⟨by rfl, ?_⟩) ?_ ?_
      rotate_left
      · intro w'
        go_simp
        with_reducible rfl
      rotate_left
      · simp only [Act.put, List.setIfInBounds_toArray, List.set_cons_zero, List.set_cons_succ, i64_w, i32_w]
        rfl
      refine pure_ (i := 3) (N := some 24) (v := ?_) (a' := ?_) #[true, false, false, true, false, false, false, false, false] rfl rfl (any_of HT_.out (by kernel_rfl)) (fun _ _ _ h => h) (Or.inl ⟨by rfl, ?_⟩) ?_ ?_
      rotate_left
      · intro w'
        go_simp
        with_reducible rfl
      rotate_left
      · simp only [Act.put, List.setIfInBounds_toArray, List.set_cons_zero, List.set_cons_succ, i64_w, i32_w]
        rfl
      refine pure_ (i := 4) (N := some 25) (v := ?_) (a' := ?_) #[true, false, false, true, true, false, false, false, false] rfl rfl (any_of HT_.out (by kernel_rfl)) (fun _ _ _ h => h) (Or.inl ⟨by rfl, ?_⟩) ?_ ?_
      rotate_left
      · intro w'
        go_simp
        with_reducible rfl
      rotate_left
      · simp only [Act.put, List.setIfInBounds_toArray, List.set_cons_zero, List.set_cons_succ, i64_w, i32_w]
        rfl
      refine pure_ (i := 6) (N := some 27) (v := ?_) (a' := ?_) #[true, false, false, true, true, false, true, false, false] rfl rfl (any_of HT_.out (by kernel_rfl)) (fun _ _ _ h => h) (Or.inl ⟨by rfl, ?_⟩) ?_ ?_
      rotate_left
      · intro w'
        go_simp
        with_reducible rfl
      rotate_left
      · simp only [Act.put, List.setIfInBounds_toArray, List.set_cons_zero, List.set_cons_succ, i64_w, i32_w]
        rfl
      refine take_ (i := 1) (N := some 22) (v := ?_) (a' := ?_) #[true, true, false, true, true, false, true, false, false] rfl rfl (take_ofW HT_.out HW_.out (by kernel_rfl)) (fun _ _ _ h => h) (Or.inl ⟨by rfl, ?_⟩) hHeld ?_ ?_
      rotate_left
      · rintro w' ⟨s0, s1, s2, s3, s4⟩
        go_simp
        with_reducible rfl
      rotate_left
      · simp only [Act.put, List.setIfInBounds_toArray, List.set_cons_zero, List.set_cons_succ, i64_w, i32_w]
        rfl
      refine take_ (i := 5) (N := some 26) (v := ?_) (a' := ?_) #[true, true, false, true, true, true, true, false, false] rfl rfl (take_ofW HT_.out HW_.out (by kernel_rfl)) (fun _ _ _ h => h) (Or.inl ⟨by rfl, ?_⟩) hHeld ?_ ?_
      rotate_left
      · rintro w' ⟨s0, s1, s2, s3, s4⟩
        go_simp
        with_reducible rfl
      rotate_left
      · simp only [Act.put, List.setIfInBounds_toArray, List.set_cons_zero, List.set_cons_succ, i64_w, i32_w]
        rfl
      refine one_ (i := 2) (N := some 23) #[true, true, true, true, true, true, true, false, false] rfl rfl (one_of HT_.out (by kernel_rfl)) (by decide) (fun K hK => ?_)
      refine goes_ Try.func16 (by kernel_rfl) rfl #[.slice A0_0 l0_0.length c0_0] (by rfl) rfl rfl (by (try simp only [List.map_toArray, List.map_cons, List.map_nil]); first | done | rfl | (simp only [List.length_drop, List.length_take]; rfl)) ?_
      with_reducible refine (bolterlaw02_Name.calls k _ _ l0_0 t445 _ ?side1 ?side2 A6.out).mono ?_
      (case side1 => repeat (first | exact (Kd.C_below HR0_0.out HB.out) | (with_reducible refine Kd.C_alloc ?_ _) | (with_reducible refine Kd.C_drewN ?_ _) | (with_reducible refine Kd.C_drew ?_)))
      (case side2 => exact HC0_0.out)
      rintro e w12 ⟨rfl, hb⟩
      refine ⟨_, rfl, ?_⟩
      have n0_ := Aside0.mk (blk_below (g := gb441) (o := .cells #[.slice A0_0 l0_0.length c0_0, .int .u8 a0_1, .int .u32 a0_2, .slice A0_3 l0_3.length c0_3, .string a0_4] 86 (0, 0)) (by (with_reducible repeat (first | refine blk_drewN ?_ _ | refine blk_drew ?_ | refine blk_alloc ?_ _)); exact BK441.out) hb)
      have n1_ := Aside0.mk (blk_below (g := gb442) (o := .cells #[.string (⟨#[]⟩ : ByteArray), .int .u16 0, .int .u32 0, .string (⟨#[]⟩ : ByteArray)] 43 (0, 0)) (by (with_reducible repeat (first | refine blk_drewN ?_ _ | refine blk_drew ?_ | refine blk_alloc ?_ _)); exact BK442.out) hb)
      have n2_ := Aside0.mk (below_step (by repeat (first | (with_reducible first | exact HB.out | apply below_alloc | apply pw_below_drewN | apply below_drew1 | refine below_set ?_ GE441.out | refine below_set ?_ GE442.out) | exact HB.out)) hb)
      clear BK441
      clear BK442
      clear HB
      have BK441 := n0_
      have BK442 := n1_
      have HB := n2_
      clear n0_ n1_ n2_
      (try clear hb)
      (try clear hb2)
      (try clear hk)
      (try clear hi)
      refine hK.out _ _ ⟨(blk_cell BK441.out 0).trans rfl, (blk_cell BK441.out 1).trans rfl, (blk_cell BK441.out 2).trans rfl, (blk_cell BK441.out 3).trans rfl, (blk_cell BK441.out 4).trans rfl⟩ (fun hHeld => ?_)
      clear hK K
      refine norm_ (a' := ?_) ?_ ?_
      rotate_left
      · show Act.put _ (some 23) _ = _
        simp only [Act.put, List.setIfInBounds_toArray, List.set_cons_zero, List.set_cons_succ, i64_w, i32_w]
        rfl
      refine pure_ (i := 7) (N := some 28) (v := ?_) (a' := ?_) #[true, true, true, true, true, true, true, true, false] rfl rfl (any_of HT_.out (by kernel_rfl)) (fun _ _ _ h => h) (Or.inl ⟨by rfl, ?_⟩) ?_ ?_
      rotate_left
      · intro w'
        go_simp
        with_reducible rfl
      rotate_left
      · simp only [Act.put, List.setIfInBounds_toArray, List.set_cons_zero, List.set_cons_succ, i64_w, i32_w]
        rfl
      refine one_ (i := 8) (N := none) #[true, true, true, true, true, true, true, true, true] rfl rfl (one_of HT_.out (by kernel_rfl)) (by decide) (fun K hK => ?_)
      have hs13 : w12.cell? ⟨gb442, 0, none⟩ = some (.string (⟨#[]⟩ : ByteArray)) := (blk_cell BK442.out 0).trans rfl
      have hfs13 := blk_frozen BK442.out 0
      have hns13_0 := NB441_442.out
      have hms13_0 := NB442_441.out
      have hs14 : w12.cell? ⟨gb442, 1, none⟩ = some (.int .u16 0) := (blk_cell BK442.out 1).trans rfl
      have hfs14 := blk_frozen BK442.out 1
      have hns14_0 := NB441_442.out
      have hms14_0 := NB442_441.out
      have hs15 : w12.cell? ⟨gb442, 2, none⟩ = some (.int .u32 0) := (blk_cell BK442.out 2).trans rfl
      have hfs15 := blk_frozen BK442.out 2
      have hns15_0 := NB441_442.out
      have hms15_0 := NB442_441.out
      have hs16 : w12.cell? ⟨gb442, 3, none⟩ = some (.string (⟨#[]⟩ : ByteArray)) := (blk_cell BK442.out 3).trans rfl
      have hfs16 := blk_frozen BK442.out 3
      have hns16_0 := NB441_442.out
      have hms16_0 := NB442_441.out
      refine skip_ (w1 := ?_) (by rfl) rfl ?_ ?_
      rotate_left
      · go_simp
        rfl
      refine hK.out _ _ ⟨((cell_far (p := ⟨gb442, _, none⟩) NB441_442.out _).trans (((cell_far (p := ⟨gb442, _, none⟩) NB441_442.out _).trans (((cell_far (p := ⟨gb442, _, none⟩) NB441_442.out _).trans (((cell_far (p := ⟨gb442, _, none⟩) NB441_442.out _).trans (hHeld.1)))))))), ((cell_far (p := ⟨gb442, _, none⟩) NB441_442.out _).trans (((cell_far (p := ⟨gb442, _, none⟩) NB441_442.out _).trans (((cell_far (p := ⟨gb442, _, none⟩) NB441_442.out _).trans (((cell_far (p := ⟨gb442, _, none⟩) NB441_442.out _).trans (hHeld.2.1)))))))), ((cell_far (p := ⟨gb442, _, none⟩) NB441_442.out _).trans (((cell_far (p := ⟨gb442, _, none⟩) NB441_442.out _).trans (((cell_far (p := ⟨gb442, _, none⟩) NB441_442.out _).trans (((cell_far (p := ⟨gb442, _, none⟩) NB441_442.out _).trans (hHeld.2.2.1)))))))), ((cell_far (p := ⟨gb442, _, none⟩) NB441_442.out _).trans (((cell_far (p := ⟨gb442, _, none⟩) NB441_442.out _).trans (((cell_far (p := ⟨gb442, _, none⟩) NB441_442.out _).trans (((cell_far (p := ⟨gb442, _, none⟩) NB441_442.out _).trans (hHeld.2.2.2.1)))))))), ((cell_far (p := ⟨gb442, _, none⟩) NB441_442.out _).trans (((cell_far (p := ⟨gb442, _, none⟩) NB441_442.out _).trans (((cell_far (p := ⟨gb442, _, none⟩) NB441_442.out _).trans (((cell_far (p := ⟨gb442, _, none⟩) NB441_442.out _).trans (hHeld.2.2.2.2))))))))⟩ (fun hHeld => ?_)
      clear hK K
      refine done_ (done_of HT_.out (by kernel_rfl)) ?_
      try go_wp2
      refine bodyPost_ret (results_cell_row rfl _ _ gb442 43 #[.string t445, .int .u16 t443, .int .u32 a0_2, .string t444] (0, 0) _ rfl (by (with_reducible repeat (first | refine blk_drewN ?_ _ | refine blk_drew ?_ | refine blk_alloc ?_ _)); refine blk_put (cs := #[.string t445, .int .u16 t443, .int .u32 a0_2, .string (⟨#[]⟩ : ByteArray)]) ?_ 3 _ rfl; (with_reducible repeat (first | refine blk_drewN ?_ _ | refine blk_drew ?_ | refine blk_alloc ?_ _)); refine blk_put (cs := #[.string t445, .int .u16 t443, .int .u32 0, .string (⟨#[]⟩ : ByteArray)]) ?_ 2 _ rfl; (with_reducible repeat (first | refine blk_drewN ?_ _ | refine blk_drew ?_ | refine blk_alloc ?_ _)); refine blk_put (cs := #[.string t445, .int .u16 0, .int .u32 0, .string (⟨#[]⟩ : ByteArray)]) ?_ 1 _ rfl; (with_reducible repeat (first | refine blk_drewN ?_ _ | refine blk_drew ?_ | refine blk_alloc ?_ _)); refine blk_put (cs := #[.string (⟨#[]⟩ : ByteArray), .int .u16 0, .int .u32 0, .string (⟨#[]⟩ : ByteArray)]) ?_ 0 _ rfl; (with_reducible repeat (first | refine blk_drewN ?_ _ | refine blk_drew ?_ | refine blk_alloc ?_ _)); exact BK442.out) Try.underlying43 rfl (by kernel_rfl)) rfl ?_
      exact ⟨by first | rfl | (simp [errW_none, errW_some] <;> rfl) | (simp only [← hji2]; first | rfl | (simp [errW_none, errW_some] <;> rfl)) | (simp [*, errW_none, errW_some] <;> rfl), by repeat (first | (with_reducible first | exact HB.out | apply below_alloc | apply pw_below_drewN | apply below_drew1 | refine below_set ?_ GE441.out | refine below_set ?_ GE442.out) | exact HB.out)⟩
    · rw [if_neg c4] at H
      exact absurd H (by simp)
  · rw [if_neg c3] at H
    exact absurd H (by simp)

end Go.Proofs.Ytdkjlbbbdjkhbaa.PAll
