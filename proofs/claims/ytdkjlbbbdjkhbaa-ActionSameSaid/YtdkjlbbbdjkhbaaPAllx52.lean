-- Written by a program of this session (wip/tools/drive.py over the kit's printer): functions, contracts and rows (All).
import Derived.Test.YtdkjlbbbdjkhbaaPAllx0
import Derived.Test.YtdkjlbbbdjkhbaaPAllx25
import Derived.Test.YtdkjlbbbdjkhbaaPAllx34
import Derived.Test.YtdkjlbbbdjkhbaaPAllx38
import Derived.Test.YtdkjlbbbdjkhbaaPAllx45
import Derived.Test.YtdkjlbbbdjkhbaaPAllx48
import Derived.Test.YtdkjlbbbdjkhbaaHandS2
namespace Go.Proofs.Ytdkjlbbbdjkhbaa.PAll
open Go.RowKit Go.Proofs.YtdkjlbbbdjkhbaaW.PrintWords Go.Proofs.YtdkjlbbbdjkhbaaW.PrintLast Go.Proofs.YtdkjlbbbdjkhbaaW.PrintMore
attribute [local go_sem] max2_int min2_int max_two min_two max_three min_three max_four min_four   -- for this text's walks alone
open Go.Proofs.Ytdkjlbbbdjkhbaa.Hand
set_option linter.unusedVariables false
set_option linter.unusedSimpArgs false

abbrev nb (v : Value) (k_ : Nat) : Prop := some k_ ≠ v.ownBlock
/-! ### bolterlaw14_ActionSame: function 5 -/
def bolterlaw14_ActionSame.f (k : Nat) (l0 : List (S86)) (l1 : List (S86)) (a2 : Int) (l3 : List Int) (a4 : Int) : Option (Bool) := (bolterlaw14_awake.f k).bind fun t856 => (if t856 = true then ((bolterlaw14_Target.f k a2 l3).bind fun t857 => ((bolterlaw05_Records.f k l0 4).bind fun t858 => (if ([] : List (S43)).length + t858.length < 3518437208883 then ((bolterlaw05_Records.f k l1 4).bind fun t867 => (if t857.size + 2 ≤ 9223372036854775807 then ((action_Same.f k (wrap64 (Int.tmod a4 9)) t857 ((Int.tmod a2 2) == 1) t858 (wrap64 (Int.tmod a4 9)) t857 ((Int.tmod a2 2) == 1) (([] : List (S43)) ++ t858)).bind fun t873 => (if t873 = true then ((action_Same.f k (wrap64 (Int.tmod a4 9)) t857 ((Int.tmod a2 2) == 1) t858 (wrap64 (Int.tmod a4 9)) t857 ((Int.tmod a2 2) == 1) t867).bind fun t874 => ((bolterlaw05_SameRecords.f k t858 t867).bind fun t875 => (if (t874 == t875) = true then ((action_Same.f k (wrap64 (Int.tmod a4 9)) t857 ((Int.tmod a2 2) == 1) t858 (wrap64 ((wrap64 (Int.tmod a4 9)) + 1)) t857 ((Int.tmod a2 2) == 1) t858).bind fun t876 => (if t876 = true then (some false) else ((action_Same.f k (wrap64 (Int.tmod a4 9)) t857 ((Int.tmod a2 2) == 1) t858 (wrap64 (Int.tmod a4 9)) t857 (!((Int.tmod a2 2) == 1)) t858).bind fun t877 => (if t877 = true then (some false) else ((action_Same.f k (wrap64 (Int.tmod a4 9)) (t857 ++ (⟨#[1, 113]⟩ : ByteArray)) ((Int.tmod a2 2) == 1) t858 (wrap64 (Int.tmod a4 9)) t857 ((Int.tmod a2 2) == 1) t858).bind fun t878 => (some (!t878))))))) else (some false)))) else (some false))) else (none))) else (none)))) else (some false))
theorem bolterlaw14_ActionSame.mono : ∀ a0 a1 a2 a3 a4 k, LeO (bolterlaw14_ActionSame.f k a0 a1 a2 a3 a4) (bolterlaw14_ActionSame.f (k + 1) a0 a1 a2 a3 a4) := by
 intro a0 a1 a2 a3 a4 k
 unfold bolterlaw14_ActionSame.f
 repeat' first
   | (with_reducible exact action_Same.mono _ _ _ _ _ _ _ _ _)
   | (with_reducible exact bolterlaw05_Records.mono _ _ _)
   | (with_reducible exact bolterlaw05_SameRecords.mono _ _ _)
   | (with_reducible exact bolterlaw14_Target.mono _ _ _)
   | (with_reducible exact bolterlaw14_awake.mono _)
   | (with_reducible exact LeO.refl _)
   | (with_reducible exact LeO.none _)
   | (with_reducible refine LeO.ite ?_ ?_)
   | (with_reducible refine LeO.bind ?_ (fun _ => ?_))
   | exact action_Same.mono _ _ _ _ _ _ _ _ _
   | exact bolterlaw05_Records.mono _ _ _
   | exact bolterlaw05_SameRecords.mono _ _ _
   | exact bolterlaw14_Target.mono _ _ _
   | exact bolterlaw14_awake.mono _
   | exact LeO.none _
   | refine LeO.ite ?_ ?_
   | refine LeO.bind ?_ (fun _ => ?_)
def bolterlaw14_ActionSame.T8 : Bool × List (List Nat × List Nat) := (true, [([], []), ([], []), ([], []), ([], []), ([], []), ([], []), ([3, 0, 0, 3, 4, 5], [0, 3]), ([4, 1, 6, 0, 1, 3, 4, 5, 6], [1, 4]), ([5, 2, 7, 0, 1, 2, 3, 4, 5, 6, 7], [2, 5])])
def bolterlaw14_ActionSame.B8 : List Nat := [0, 0, 0, 0, 0, 0, 57, 123, 255]
theorem bolterlaw14_ActionSame.tab8 : rtab .any (opsOf Try.f5 8) = bolterlaw14_ActionSame.T8 := by kernel_rfl
theorem bolterlaw14_ActionSame.bits8 : waitsOk bolterlaw14_ActionSame.T8.2 bolterlaw14_ActionSame.B8 = true := by kernel_rfl
def bolterlaw14_ActionSame.T12 : Bool × List (List Nat × List Nat) := (true, [([], []), ([], []), ([0, 1], [0, 1]), ([2, 2], [2]), ([3], [3]), ([3], [3]), ([4, 5, 3, 3], [3, 4, 5]), ([3], [3]), ([7, 3], [3, 7]), ([3], [3]), ([9, 3], [3, 9]), ([8, 10, 6, 3], [3, 8, 10]), ([6, 11, 3], [3, 6, 11]), ([3, 12], [3, 12]), ([13, 11], [13]), ([14], [14]), ([14], [14]), ([15, 16, 14, 14], [14, 15, 16]), ([17, 14], [14, 17]), ([14, 18], [14, 18]), ([19, 17], [19]), ([20], [20]), ([20], [20]), ([21, 22, 20, 20], [20, 21, 22]), ([23, 20], [20, 23]), ([20, 24], [20, 24]), ([25, 23], [25]), ([26], [26]), ([26], [26]), ([27, 28, 26, 26], [26, 27, 28]), ([29, 26], [26, 29]), ([26, 30], [26, 30]), ([31, 29, 0, 1, 2, 3, 4, 5, 6, 7, 8, 9, 10, 11, 12, 13, 14, 15, 16, 17, 18, 19, 20, 21, 22, 23, 24, 25, 26, 27, 28, 29, 30, 31], [31])])
def bolterlaw14_ActionSame.B12 : List Nat := [0, 0, 3, 7, 15, 15, 63, 15, 143, 15, 527, 2047, 4095, 8191, 16383, 32767, 32767, 131071, 262143, 524287, 1048575, 2097151, 2097151, 8388607, 16777215, 33554431, 67108863, 134217727, 134217727, 536870911, 1073741823, 2147483647, 4294967295]
theorem bolterlaw14_ActionSame.tab12 : rtab .any (opsOf Try.f5 12) = bolterlaw14_ActionSame.T12 := by kernel_rfl
theorem bolterlaw14_ActionSame.bits12 : waitsOk bolterlaw14_ActionSame.T12.2 bolterlaw14_ActionSame.B12 = true := by kernel_rfl
set_option maxHeartbeats 8000000 in
set_option maxRecDepth 100000 in
theorem bolterlaw14_ActionSame.calls (k : Nat) (A0 : Option Addr) (c0 : Nat) (l0 : List (S86)) (A1 : Option Addr) (c1 : Nat) (l1 : List (S86)) (a2 : Int) (A3 : Option Addr) (c3 : Nat) (l3 : List Int) (a4 : Int) (r : Bool) (w : World) (hr0 : Kd.C k86 w A0 l0.length l0) (hc0 : l0.length ≤ c0) (hr1 : Kd.C k86 w A1 l1.length l1) (hc1 : l1.length ≤ c1) (hr3 : Kd.C (Kd.int .u8) w A3 l3.length l3) (hc3 : l3.length ≤ c3) (h : bolterlaw14_ActionSame.f k l0 l1 a2 l3 a4 = some r) (hT : r = true) :
  Calls Try.prog 5 #[.slice A0 l0.length c0, .slice A1 l1.length c1, .int .u8 a2, .slice A3 l3.length c3, .int .u8 a4] w fun e w' => e = .returned (.bool r) ∧ Below w.heap.size w w' := by
 have hu28 := Try.underlying28
 have HR0 := Aside0.mk hr0
 have HC0 := Aside0.mk hc0
 clear hr0 hc0
 have HR1 := Aside0.mk hr1
 have HC1 := Aside0.mk hc1
 clear hr1 hc1
 have HR3 := Aside0.mk hr3
 have HC3 := Aside0.mk hc3
 clear hr3 hc3
 have HB := Aside0.mk (Below.refl w.heap.size w)
 have H : ((bolterlaw14_awake.f k).bind fun t856 => (if t856 = true then ((bolterlaw14_Target.f k a2 l3).bind fun t857 => ((bolterlaw05_Records.f k l0 4).bind fun t858 => (if ([] : List (S43)).length + t858.length < 3518437208883 then ((bolterlaw05_Records.f k l1 4).bind fun t867 => (if t857.size + 2 ≤ 9223372036854775807 then ((action_Same.f k (wrap64 (Int.tmod a4 9)) t857 ((Int.tmod a2 2) == 1) t858 (wrap64 (Int.tmod a4 9)) t857 ((Int.tmod a2 2) == 1) (([] : List (S43)) ++ t858)).bind fun t873 => (if t873 = true then ((action_Same.f k (wrap64 (Int.tmod a4 9)) t857 ((Int.tmod a2 2) == 1) t858 (wrap64 (Int.tmod a4 9)) t857 ((Int.tmod a2 2) == 1) t867).bind fun t874 => ((bolterlaw05_SameRecords.f k t858 t867).bind fun t875 => (if (t874 == t875) = true then ((action_Same.f k (wrap64 (Int.tmod a4 9)) t857 ((Int.tmod a2 2) == 1) t858 (wrap64 ((wrap64 (Int.tmod a4 9)) + 1)) t857 ((Int.tmod a2 2) == 1) t858).bind fun t876 => (if t876 = true then (some false) else ((action_Same.f k (wrap64 (Int.tmod a4 9)) t857 ((Int.tmod a2 2) == 1) t858 (wrap64 (Int.tmod a4 9)) t857 (!((Int.tmod a2 2) == 1)) t858).bind fun t877 => (if t877 = true then (some false) else ((action_Same.f k (wrap64 (Int.tmod a4 9)) (t857 ++ (⟨#[1, 113]⟩ : ByteArray)) ((Int.tmod a2 2) == 1) t858 (wrap64 (Int.tmod a4 9)) t857 ((Int.tmod a2 2) == 1) t858).bind fun t878 => (some (!t878))))))) else (some false)))) else (some false))) else (none))) else (none)))) else (some false))) = some r := h
 clear h
 replace H := Option.bind_eq_some_iff.mp H
 obtain ⟨t856, A60, H⟩ := H
 replace H : (if t856 = true then ((bolterlaw14_Target.f k a2 l3).bind fun t857 => ((bolterlaw05_Records.f k l0 4).bind fun t858 => (if ([] : List (S43)).length + t858.length < 3518437208883 then ((bolterlaw05_Records.f k l1 4).bind fun t867 => (if t857.size + 2 ≤ 9223372036854775807 then ((action_Same.f k (wrap64 (Int.tmod a4 9)) t857 ((Int.tmod a2 2) == 1) t858 (wrap64 (Int.tmod a4 9)) t857 ((Int.tmod a2 2) == 1) (([] : List (S43)) ++ t858)).bind fun t873 => (if t873 = true then ((action_Same.f k (wrap64 (Int.tmod a4 9)) t857 ((Int.tmod a2 2) == 1) t858 (wrap64 (Int.tmod a4 9)) t857 ((Int.tmod a2 2) == 1) t867).bind fun t874 => ((bolterlaw05_SameRecords.f k t858 t867).bind fun t875 => (if (t874 == t875) = true then ((action_Same.f k (wrap64 (Int.tmod a4 9)) t857 ((Int.tmod a2 2) == 1) t858 (wrap64 ((wrap64 (Int.tmod a4 9)) + 1)) t857 ((Int.tmod a2 2) == 1) t858).bind fun t876 => (if t876 = true then (some false) else ((action_Same.f k (wrap64 (Int.tmod a4 9)) t857 ((Int.tmod a2 2) == 1) t858 (wrap64 (Int.tmod a4 9)) t857 (!((Int.tmod a2 2) == 1)) t858).bind fun t877 => (if t877 = true then (some false) else ((action_Same.f k (wrap64 (Int.tmod a4 9)) (t857 ++ (⟨#[1, 113]⟩ : ByteArray)) ((Int.tmod a2 2) == 1) t858 (wrap64 (Int.tmod a4 9)) t857 ((Int.tmod a2 2) == 1) t858).bind fun t878 => (some (!t878))))))) else (some false)))) else (some false))) else (none))) else (none)))) else (some false)) = some r := H
 have A6 := Aside0.mk A60
 clear A60
 by_cases c7 : t856 = true
 rotate_left
 ·replace c7 := Bool.eq_false_iff.mpr c7
  subst c7
  have H1 : (some false) = some r := by rw [if_neg (show ¬ (false = true) by decide)] at H; exact H
  clear H
  have H := H1
  clear H1
  obtain rfl := Option.some.inj H
  exact absurd hT Bool.false_ne_true
 subst c7
 have H1 : ((bolterlaw14_Target.f k a2 l3).bind fun t857 => ((bolterlaw05_Records.f k l0 4).bind fun t858 => (if ([] : List (S43)).length + t858.length < 3518437208883 then ((bolterlaw05_Records.f k l1 4).bind fun t867 => (if t857.size + 2 ≤ 9223372036854775807 then ((action_Same.f k (wrap64 (Int.tmod a4 9)) t857 ((Int.tmod a2 2) == 1) t858 (wrap64 (Int.tmod a4 9)) t857 ((Int.tmod a2 2) == 1) (([] : List (S43)) ++ t858)).bind fun t873 => (if t873 = true then ((action_Same.f k (wrap64 (Int.tmod a4 9)) t857 ((Int.tmod a2 2) == 1) t858 (wrap64 (Int.tmod a4 9)) t857 ((Int.tmod a2 2) == 1) t867).bind fun t874 => ((bolterlaw05_SameRecords.f k t858 t867).bind fun t875 => (if (t874 == t875) = true then ((action_Same.f k (wrap64 (Int.tmod a4 9)) t857 ((Int.tmod a2 2) == 1) t858 (wrap64 ((wrap64 (Int.tmod a4 9)) + 1)) t857 ((Int.tmod a2 2) == 1) t858).bind fun t876 => (if t876 = true then (some false) else ((action_Same.f k (wrap64 (Int.tmod a4 9)) t857 ((Int.tmod a2 2) == 1) t858 (wrap64 (Int.tmod a4 9)) t857 (!((Int.tmod a2 2) == 1)) t858).bind fun t877 => (if t877 = true then (some false) else ((action_Same.f k (wrap64 (Int.tmod a4 9)) (t857 ++ (⟨#[1, 113]⟩ : ByteArray)) ((Int.tmod a2 2) == 1) t858 (wrap64 (Int.tmod a4 9)) t857 ((Int.tmod a2 2) == 1) t858).bind fun t878 => (some (!t878))))))) else (some false)))) else (some false))) else (none))) else (none)))) = some r := by rw [if_pos rfl] at H; exact H
 clear H
 have H := H1
 clear H1
 replace H := Option.bind_eq_some_iff.mp H
 obtain ⟨t857, A80, H⟩ := H
 replace H : ((bolterlaw05_Records.f k l0 4).bind fun t858 => (if ([] : List (S43)).length + t858.length < 3518437208883 then ((bolterlaw05_Records.f k l1 4).bind fun t867 => (if t857.size + 2 ≤ 9223372036854775807 then ((action_Same.f k (wrap64 (Int.tmod a4 9)) t857 ((Int.tmod a2 2) == 1) t858 (wrap64 (Int.tmod a4 9)) t857 ((Int.tmod a2 2) == 1) (([] : List (S43)) ++ t858)).bind fun t873 => (if t873 = true then ((action_Same.f k (wrap64 (Int.tmod a4 9)) t857 ((Int.tmod a2 2) == 1) t858 (wrap64 (Int.tmod a4 9)) t857 ((Int.tmod a2 2) == 1) t867).bind fun t874 => ((bolterlaw05_SameRecords.f k t858 t867).bind fun t875 => (if (t874 == t875) = true then ((action_Same.f k (wrap64 (Int.tmod a4 9)) t857 ((Int.tmod a2 2) == 1) t858 (wrap64 ((wrap64 (Int.tmod a4 9)) + 1)) t857 ((Int.tmod a2 2) == 1) t858).bind fun t876 => (if t876 = true then (some false) else ((action_Same.f k (wrap64 (Int.tmod a4 9)) t857 ((Int.tmod a2 2) == 1) t858 (wrap64 (Int.tmod a4 9)) t857 (!((Int.tmod a2 2) == 1)) t858).bind fun t877 => (if t877 = true then (some false) else ((action_Same.f k (wrap64 (Int.tmod a4 9)) (t857 ++ (⟨#[1, 113]⟩ : ByteArray)) ((Int.tmod a2 2) == 1) t858 (wrap64 (Int.tmod a4 9)) t857 ((Int.tmod a2 2) == 1) t858).bind fun t878 => (some (!t878))))))) else (some false)))) else (some false))) else (none))) else (none))) = some r := H
 have A8 := Aside0.mk A80
 clear A80
 replace H := Option.bind_eq_some_iff.mp H
 obtain ⟨t858, A90, H⟩ := H
 replace H : (if ([] : List (S43)).length + t858.length < 3518437208883 then ((bolterlaw05_Records.f k l1 4).bind fun t867 => (if t857.size + 2 ≤ 9223372036854775807 then ((action_Same.f k (wrap64 (Int.tmod a4 9)) t857 ((Int.tmod a2 2) == 1) t858 (wrap64 (Int.tmod a4 9)) t857 ((Int.tmod a2 2) == 1) (([] : List (S43)) ++ t858)).bind fun t873 => (if t873 = true then ((action_Same.f k (wrap64 (Int.tmod a4 9)) t857 ((Int.tmod a2 2) == 1) t858 (wrap64 (Int.tmod a4 9)) t857 ((Int.tmod a2 2) == 1) t867).bind fun t874 => ((bolterlaw05_SameRecords.f k t858 t867).bind fun t875 => (if (t874 == t875) = true then ((action_Same.f k (wrap64 (Int.tmod a4 9)) t857 ((Int.tmod a2 2) == 1) t858 (wrap64 ((wrap64 (Int.tmod a4 9)) + 1)) t857 ((Int.tmod a2 2) == 1) t858).bind fun t876 => (if t876 = true then (some false) else ((action_Same.f k (wrap64 (Int.tmod a4 9)) t857 ((Int.tmod a2 2) == 1) t858 (wrap64 (Int.tmod a4 9)) t857 (!((Int.tmod a2 2) == 1)) t858).bind fun t877 => (if t877 = true then (some false) else ((action_Same.f k (wrap64 (Int.tmod a4 9)) (t857 ++ (⟨#[1, 113]⟩ : ByteArray)) ((Int.tmod a2 2) == 1) t858 (wrap64 (Int.tmod a4 9)) t857 ((Int.tmod a2 2) == 1) t858).bind fun t878 => (some (!t878))))))) else (some false)))) else (some false))) else (none))) else (none)) = some r := H
 have A9 := Aside0.mk A90
 clear A90
 by_cases c10 : ([] : List (S43)).length + t858.length < 3518437208883
 rotate_left
 ·rw [if_neg c10] at H
  exact absurd H (by simp)
 rw [if_pos c10] at H
 have LMc10 := Aside0.mk c10
 clear c10
 obtain ⟨y863, hy863⟩ : ∃ y_ : List (S43), y_ = (([] : List (S43)) ++ t858) := ⟨_, rfl⟩
 replace H : ((bolterlaw05_Records.f k l1 4).bind fun t867 => (if t857.size + 2 ≤ 9223372036854775807 then ((action_Same.f k (wrap64 (Int.tmod a4 9)) t857 ((Int.tmod a2 2) == 1) t858 (wrap64 (Int.tmod a4 9)) t857 ((Int.tmod a2 2) == 1) y863).bind fun t873 => (if t873 = true then ((action_Same.f k (wrap64 (Int.tmod a4 9)) t857 ((Int.tmod a2 2) == 1) t858 (wrap64 (Int.tmod a4 9)) t857 ((Int.tmod a2 2) == 1) t867).bind fun t874 => ((bolterlaw05_SameRecords.f k t858 t867).bind fun t875 => (if (t874 == t875) = true then ((action_Same.f k (wrap64 (Int.tmod a4 9)) t857 ((Int.tmod a2 2) == 1) t858 (wrap64 ((wrap64 (Int.tmod a4 9)) + 1)) t857 ((Int.tmod a2 2) == 1) t858).bind fun t876 => (if t876 = true then (some false) else ((action_Same.f k (wrap64 (Int.tmod a4 9)) t857 ((Int.tmod a2 2) == 1) t858 (wrap64 (Int.tmod a4 9)) t857 (!((Int.tmod a2 2) == 1)) t858).bind fun t877 => (if t877 = true then (some false) else ((action_Same.f k (wrap64 (Int.tmod a4 9)) (t857 ++ (⟨#[1, 113]⟩ : ByteArray)) ((Int.tmod a2 2) == 1) t858 (wrap64 (Int.tmod a4 9)) t857 ((Int.tmod a2 2) == 1) t858).bind fun t878 => (some (!t878))))))) else (some false)))) else (some false))) else (none))) = some r := by first | (rw [hy863]; with_reducible exact H) | (have H2_ := (Option.bind_some _ _).symm.trans H; rw [hy863]; with_reducible exact H2_) | (have H2_ := (Option.bind_some _ _).symm.trans H; with_reducible exact H2_) | with_reducible exact H | (rw [hy863]; exact H) | exact H
 have Ny863 := Aside0.mk hy863
 clear hy863
 replace H := Option.bind_eq_some_iff.mp H
 obtain ⟨t867, A110, H⟩ := H
 replace H : (if t857.size + 2 ≤ 9223372036854775807 then ((action_Same.f k (wrap64 (Int.tmod a4 9)) t857 ((Int.tmod a2 2) == 1) t858 (wrap64 (Int.tmod a4 9)) t857 ((Int.tmod a2 2) == 1) y863).bind fun t873 => (if t873 = true then ((action_Same.f k (wrap64 (Int.tmod a4 9)) t857 ((Int.tmod a2 2) == 1) t858 (wrap64 (Int.tmod a4 9)) t857 ((Int.tmod a2 2) == 1) t867).bind fun t874 => ((bolterlaw05_SameRecords.f k t858 t867).bind fun t875 => (if (t874 == t875) = true then ((action_Same.f k (wrap64 (Int.tmod a4 9)) t857 ((Int.tmod a2 2) == 1) t858 (wrap64 ((wrap64 (Int.tmod a4 9)) + 1)) t857 ((Int.tmod a2 2) == 1) t858).bind fun t876 => (if t876 = true then (some false) else ((action_Same.f k (wrap64 (Int.tmod a4 9)) t857 ((Int.tmod a2 2) == 1) t858 (wrap64 (Int.tmod a4 9)) t857 (!((Int.tmod a2 2) == 1)) t858).bind fun t877 => (if t877 = true then (some false) else ((action_Same.f k (wrap64 (Int.tmod a4 9)) (t857 ++ (⟨#[1, 113]⟩ : ByteArray)) ((Int.tmod a2 2) == 1) t858 (wrap64 (Int.tmod a4 9)) t857 ((Int.tmod a2 2) == 1) t858).bind fun t878 => (some (!t878))))))) else (some false)))) else (some false))) else (none)) = some r := H
 have A11 := Aside0.mk A110
 clear A110
 by_cases c12 : t857.size + 2 ≤ 9223372036854775807
 rotate_left
 ·rw [if_neg c12] at H
  exact absurd H (by simp)
 rw [if_pos c12] at H
 have c12b0 := eq_true c12
 have c12b1 : decide (t857.size + 2 ≤ 9223372036854775807) = true := decide_eq_true c12
 try have c12b2 : (9223372036854775807 < t857.size + 2) = False := eq_false (Nat.not_lt.2 c12)
 replace H := Option.bind_eq_some_iff.mp H
 obtain ⟨t873, A130, H⟩ := H
 replace H : (if t873 = true then ((action_Same.f k (wrap64 (Int.tmod a4 9)) t857 ((Int.tmod a2 2) == 1) t858 (wrap64 (Int.tmod a4 9)) t857 ((Int.tmod a2 2) == 1) t867).bind fun t874 => ((bolterlaw05_SameRecords.f k t858 t867).bind fun t875 => (if (t874 == t875) = true then ((action_Same.f k (wrap64 (Int.tmod a4 9)) t857 ((Int.tmod a2 2) == 1) t858 (wrap64 ((wrap64 (Int.tmod a4 9)) + 1)) t857 ((Int.tmod a2 2) == 1) t858).bind fun t876 => (if t876 = true then (some false) else ((action_Same.f k (wrap64 (Int.tmod a4 9)) t857 ((Int.tmod a2 2) == 1) t858 (wrap64 (Int.tmod a4 9)) t857 (!((Int.tmod a2 2) == 1)) t858).bind fun t877 => (if t877 = true then (some false) else ((action_Same.f k (wrap64 (Int.tmod a4 9)) (t857 ++ (⟨#[1, 113]⟩ : ByteArray)) ((Int.tmod a2 2) == 1) t858 (wrap64 (Int.tmod a4 9)) t857 ((Int.tmod a2 2) == 1) t858).bind fun t878 => (some (!t878))))))) else (some false)))) else (some false)) = some r := H
 have A13 := Aside0.mk A130
 clear A130
 by_cases c14 : t873 = true
 rotate_left
 ·replace c14 := Bool.eq_false_iff.mpr c14
  subst c14
  have H1 : (some false) = some r := by rw [if_neg (show ¬ (false = true) by decide)] at H; exact H
  clear H
  have H := H1
  clear H1
  obtain rfl := Option.some.inj H
  exact absurd hT Bool.false_ne_true
 subst c14
 have H1 : ((action_Same.f k (wrap64 (Int.tmod a4 9)) t857 ((Int.tmod a2 2) == 1) t858 (wrap64 (Int.tmod a4 9)) t857 ((Int.tmod a2 2) == 1) t867).bind fun t874 => ((bolterlaw05_SameRecords.f k t858 t867).bind fun t875 => (if (t874 == t875) = true then ((action_Same.f k (wrap64 (Int.tmod a4 9)) t857 ((Int.tmod a2 2) == 1) t858 (wrap64 ((wrap64 (Int.tmod a4 9)) + 1)) t857 ((Int.tmod a2 2) == 1) t858).bind fun t876 => (if t876 = true then (some false) else ((action_Same.f k (wrap64 (Int.tmod a4 9)) t857 ((Int.tmod a2 2) == 1) t858 (wrap64 (Int.tmod a4 9)) t857 (!((Int.tmod a2 2) == 1)) t858).bind fun t877 => (if t877 = true then (some false) else ((action_Same.f k (wrap64 (Int.tmod a4 9)) (t857 ++ (⟨#[1, 113]⟩ : ByteArray)) ((Int.tmod a2 2) == 1) t858 (wrap64 (Int.tmod a4 9)) t857 ((Int.tmod a2 2) == 1) t858).bind fun t878 => (some (!t878))))))) else (some false)))) = some r := by rw [if_pos rfl] at H; exact H
 clear H
 have H := H1
 clear H1
 replace H := Option.bind_eq_some_iff.mp H
 obtain ⟨t874, A150, H⟩ := H
 replace H : ((bolterlaw05_SameRecords.f k t858 t867).bind fun t875 => (if (t874 == t875) = true then ((action_Same.f k (wrap64 (Int.tmod a4 9)) t857 ((Int.tmod a2 2) == 1) t858 (wrap64 ((wrap64 (Int.tmod a4 9)) + 1)) t857 ((Int.tmod a2 2) == 1) t858).bind fun t876 => (if t876 = true then (some false) else ((action_Same.f k (wrap64 (Int.tmod a4 9)) t857 ((Int.tmod a2 2) == 1) t858 (wrap64 (Int.tmod a4 9)) t857 (!((Int.tmod a2 2) == 1)) t858).bind fun t877 => (if t877 = true then (some false) else ((action_Same.f k (wrap64 (Int.tmod a4 9)) (t857 ++ (⟨#[1, 113]⟩ : ByteArray)) ((Int.tmod a2 2) == 1) t858 (wrap64 (Int.tmod a4 9)) t857 ((Int.tmod a2 2) == 1) t858).bind fun t878 => (some (!t878))))))) else (some false))) = some r := H
 have A15 := Aside0.mk A150
 clear A150
 replace H := Option.bind_eq_some_iff.mp H
 obtain ⟨t875, A160, H⟩ := H
 replace H : (if (t874 == t875) = true then ((action_Same.f k (wrap64 (Int.tmod a4 9)) t857 ((Int.tmod a2 2) == 1) t858 (wrap64 ((wrap64 (Int.tmod a4 9)) + 1)) t857 ((Int.tmod a2 2) == 1) t858).bind fun t876 => (if t876 = true then (some false) else ((action_Same.f k (wrap64 (Int.tmod a4 9)) t857 ((Int.tmod a2 2) == 1) t858 (wrap64 (Int.tmod a4 9)) t857 (!((Int.tmod a2 2) == 1)) t858).bind fun t877 => (if t877 = true then (some false) else ((action_Same.f k (wrap64 (Int.tmod a4 9)) (t857 ++ (⟨#[1, 113]⟩ : ByteArray)) ((Int.tmod a2 2) == 1) t858 (wrap64 (Int.tmod a4 9)) t857 ((Int.tmod a2 2) == 1) t858).bind fun t878 => (some (!t878))))))) else (some false)) = some r := H
 have A16 := Aside0.mk A160
 clear A160
 by_cases c17 : (t874 == t875) = true
 rotate_left
 ·rw [if_neg c17] at H
  have c17b0 : (t874 == t875) = false := by simpa using c17
  (try (have c17b1 : decide (t874 = t875) = false := by simpa using c17))
  (try (have c17b2 : (t874 == t875) = false := by simpa using c17))
  (try (have c17b3 : ¬ (t874 = t875) := by simpa using c17))
  clear c17
  obtain rfl := Option.some.inj H
  exact absurd hT Bool.false_ne_true
 rw [if_pos c17] at H
 have c17b0 : (t874 == t875) = true := c17
 (try (have c17b1 : decide (t874 = t875) = true := by simpa using c17))
 (try (have c17b2 : (t874 == t875) = true := by simpa using c17))
 clear c17
 replace H := Option.bind_eq_some_iff.mp H
 obtain ⟨t876, A180, H⟩ := H
 replace H : (if t876 = true then (some false) else ((action_Same.f k (wrap64 (Int.tmod a4 9)) t857 ((Int.tmod a2 2) == 1) t858 (wrap64 (Int.tmod a4 9)) t857 (!((Int.tmod a2 2) == 1)) t858).bind fun t877 => (if t877 = true then (some false) else ((action_Same.f k (wrap64 (Int.tmod a4 9)) (t857 ++ (⟨#[1, 113]⟩ : ByteArray)) ((Int.tmod a2 2) == 1) t858 (wrap64 (Int.tmod a4 9)) t857 ((Int.tmod a2 2) == 1) t858).bind fun t878 => (some (!t878)))))) = some r := H
 have A18 := Aside0.mk A180
 clear A180
 by_cases c19 : t876 = true
 ·subst c19
  have H1 : (some false) = some r := by rw [if_pos rfl] at H; exact H
  clear H
  have H := H1
  clear H1
  obtain rfl := Option.some.inj H
  exact absurd hT Bool.false_ne_true
 replace c19 := Bool.eq_false_iff.mpr c19
 subst c19
 have H1 : ((action_Same.f k (wrap64 (Int.tmod a4 9)) t857 ((Int.tmod a2 2) == 1) t858 (wrap64 (Int.tmod a4 9)) t857 (!((Int.tmod a2 2) == 1)) t858).bind fun t877 => (if t877 = true then (some false) else ((action_Same.f k (wrap64 (Int.tmod a4 9)) (t857 ++ (⟨#[1, 113]⟩ : ByteArray)) ((Int.tmod a2 2) == 1) t858 (wrap64 (Int.tmod a4 9)) t857 ((Int.tmod a2 2) == 1) t858).bind fun t878 => (some (!t878))))) = some r := by rw [if_neg (show ¬ (false = true) by decide)] at H; exact H
 clear H
 have H := H1
 clear H1
 replace H := Option.bind_eq_some_iff.mp H
 obtain ⟨t877, A200, H⟩ := H
 replace H : (if t877 = true then (some false) else ((action_Same.f k (wrap64 (Int.tmod a4 9)) (t857 ++ (⟨#[1, 113]⟩ : ByteArray)) ((Int.tmod a2 2) == 1) t858 (wrap64 (Int.tmod a4 9)) t857 ((Int.tmod a2 2) == 1) t858).bind fun t878 => (some (!t878)))) = some r := H
 have A20 := Aside0.mk A200
 clear A200
 by_cases c21 : t877 = true
 ·subst c21
  have H1 : (some false) = some r := by rw [if_pos rfl] at H; exact H
  clear H
  have H := H1
  clear H1
  obtain rfl := Option.some.inj H
  exact absurd hT Bool.false_ne_true
 replace c21 := Bool.eq_false_iff.mpr c21
 subst c21
 have H1 : ((action_Same.f k (wrap64 (Int.tmod a4 9)) (t857 ++ (⟨#[1, 113]⟩ : ByteArray)) ((Int.tmod a2 2) == 1) t858 (wrap64 (Int.tmod a4 9)) t857 ((Int.tmod a2 2) == 1) t858).bind fun t878 => (some (!t878))) = some r := by rw [if_neg (show ¬ (false = true) by decide)] at H; exact H
 clear H
 have H := H1
 clear H1
 replace H := Option.bind_eq_some_iff.mp H
 obtain ⟨t878, A220, H⟩ := H
 replace H : (some (!t878)) = some r := H
 have A22 := Aside0.mk A220
 clear A220
 obtain rfl := Option.some.inj H
 go_enter Try.func5, Try.ntmps5
 try go_wp2_with (first | ((with_reducible refine gate_callee (f := 13) rfl ?_); refine goesL_ (some 17) rfl rfl Try.func13 (by kernel_rfl) rfl #[] rfl (by (try simp only [List.map_toArray, List.map_cons, List.map_nil]); first | done | rfl | (simp only [List.length_drop, List.length_take]; rfl)) ?_; (with_reducible refine (bolterlaw14_awake.calls k  true _ A6.out rfl).mono ?_); rintro e w23 ⟨rfl, hb⟩; refine ⟨_, rfl, ?_⟩; have n0_ := Aside0.mk (below_step (by repeat (first | (with_reducible first | exact HB.out | apply below_alloc | apply pw_below_drewN | apply below_drew1) | exact HB.out)) hb); clear HB; have HB := n0_; clear n0_; (try clear hb); (try clear hb2); (try clear hk); (try clear hi)) | ((with_reducible refine gate_callee (f := 15) rfl ?_); refine goesL_ (some 24) rfl rfl Try.func15 (by kernel_rfl) rfl #[.int .u8 a2, .slice A3 l3.length c3] rfl (by (try simp only [List.map_toArray, List.map_cons, List.map_nil]); first | done | rfl | (simp only [List.length_drop, List.length_take]; rfl)) ?_; (with_reducible refine (bolterlaw14_Target.calls k a2 _ _ l3 t857 _ ?side1 ?side2 A8.out).mono ?_); (case side1 => repeat (first | exact (Kd.C_below HR3.out HB.out) | (with_reducible refine Kd.C_alloc ?_ _) | (with_reducible refine Kd.C_drewN ?_ _) | (with_reducible refine Kd.C_drew ?_))); (case side2 => exact HC3.out); rintro e w24 ⟨rfl, hb⟩; refine ⟨_, rfl, ?_⟩; have n0_ := Aside0.mk (below_step (by repeat (first | (with_reducible first | exact HB.out | apply below_alloc | apply pw_below_drewN | apply below_drew1) | exact HB.out)) hb); clear HB; have HB := n0_; clear n0_; (try clear hb); (try clear hb2); (try clear hk); (try clear hi)) | ((with_reducible refine gate_callee (f := 21) rfl ?_); refine goesL_ (some 29) rfl rfl Try.func21 (by kernel_rfl) rfl #[.slice A0 l0.length c0, .int .i64 4] rfl (by (try simp only [List.map_toArray, List.map_cons, List.map_nil]); first | done | rfl | (simp only [List.length_drop, List.length_take]; rfl)) ?_; (with_reducible refine (bolterlaw05_Records.calls k _ _ l0 4 t858 _ ?side1 ?side2 A9.out).mono ?_); (case side1 => repeat (first | exact (Kd.C_below HR0.out HB.out) | (with_reducible refine Kd.C_alloc ?_ _) | (with_reducible refine Kd.C_drewN ?_ _) | (with_reducible refine Kd.C_drew ?_))); (case side2 => exact HC0.out); rintro e w25 ⟨v859, rfl, ho0, hb⟩; refine ⟨_, rfl, ?_⟩; have n0_ := Aside0.mk (Kd.R_lower ho0 (below_size (by repeat (first | (with_reducible first | exact HB.out | apply below_alloc | apply pw_below_drewN | apply below_drew1) | exact HB.out)))); have n1_ := Aside0.mk (below_step (by repeat (first | (with_reducible first | exact HB.out | apply below_alloc | apply pw_below_drewN | apply below_drew1) | exact HB.out)) hb); clear HB; have HO860 := n0_; have HB := n1_; clear n0_ n1_; (try clear hb); (try clear hb2); (try clear hk); (try clear hi); (try clear ho0); obtain ⟨Ao26, co26, eo26⟩ := Kd.R_slice HO860.out; subst eo26) | ((with_reducible refine gate_dst (N := 11) rfl ?_); refine box_event ?hg (N := 11) ?hd (cs := #[.int .i64 0, .string (⟨#[]⟩ : ByteArray), .bool false, .slice none 0 0]) (t := 28) ?hr ?_; (case hd => rfl); (case hg => rfl); (case hr => first | (go_simp; done) | (go_simp; rfl)); intro gb861 hg w27 hbox hb; have n0_ := Aside0.mk (Kd.R_below (by (with_reducible repeat (first | apply Kd.R_alloc | apply Kd.R_drewN | apply Kd.R_drew)); exact HO860.out) hb); have n1_ := Aside0.mk (below_step (by repeat (first | (with_reducible first | exact HB.out | apply below_alloc | apply pw_below_drewN | apply below_drew1) | exact HB.out)) hb); have n2_ := Aside0.mk (hbox); have n3_ := Aside0.mk ((by rw [hg]; exact (below_size (by repeat (first | (with_reducible first | exact HB.out | apply below_alloc | apply pw_below_drewN | apply below_drew1) | exact HB.out))) : w.heap.size ≤ gb861)); have n4_ := Aside0.mk ((by rw [hg]; exact (below_size (by repeat (first | (with_reducible first | exact HB.out | apply below_alloc | apply pw_below_drewN | apply below_drew1) | exact HB.out))) : w.heap.size ≤ gb861)); clear HO860; clear HB; have HO860 := n0_; have HB := n1_; have BK861 := n2_; have GW861 := n3_; have GE861 := n4_; clear n0_ n1_ n2_ n3_ n4_; clear hb hbox hg; have hcz28_0 : w27.cell? ⟨gb861, 0, none⟩ = some (.int .i64 0) := (blk_cell BK861.out 0).trans rfl; have hcz28_1 : w27.cell? ⟨gb861, 1, none⟩ = some (.string (⟨#[]⟩ : ByteArray)) := (blk_cell BK861.out 1).trans rfl; have hcz28_2 : w27.cell? ⟨gb861, 2, none⟩ = some (.bool false) := (blk_cell BK861.out 2).trans rfl; have hcz28_3 : w27.cell? ⟨gb861, 3, none⟩ = some (.slice none 0 0) := (blk_cell BK861.out 3).trans rfl; have hfz28_0 := blk_frozen BK861.out 0; have hfz28_1 := blk_frozen BK861.out 1; have hfz28_2 := blk_frozen BK861.out 2; have hfz28_3 := blk_frozen BK861.out 3) | ((with_reducible refine gate_dst (N := 12) rfl ?_); refine box_event ?hg (N := 12) ?hd (cs := #[.int .i64 0, .string (⟨#[]⟩ : ByteArray), .bool false, .slice none 0 0]) (t := 28) ?hr ?_; (case hd => rfl); (case hg => rfl); (case hr => first | (go_simp; done) | (go_simp; rfl)); intro gb862 hg w29 hbox hb; have n0_ := Aside0.mk (Kd.R_below (by (with_reducible repeat (first | apply Kd.R_alloc | apply Kd.R_drewN | apply Kd.R_drew)); exact (Kd.R_mono (Kd.R_far (p := ⟨gb861, 3, none⟩) (Kd.R_far (p := ⟨gb861, 2, none⟩) (Kd.R_far (p := ⟨gb861, 1, none⟩) (Kd.R_far (p := ⟨gb861, 0, none⟩) (Kd.R_types HO860.out BK861.out (by decide)) (fun _ hk => hk.2) (.int .i64 (wrap64 (Int.tmod a4 9)))) (fun _ hk => hk.2) (.string t857)) (fun _ hk => hk.2) (.bool ((Int.tmod a2 2) == 1))) (fun _ hk => hk.2) (.slice Ao26 t858.length co26)) (fun _ h_ => h_.1))) hb); have n1_ := Aside0.mk (blk_below (g := gb861) (o := .cells #[.int .i64 (wrap64 (Int.tmod a4 9)), .string t857, .bool ((Int.tmod a2 2) == 1), .slice Ao26 t858.length co26] 28 (0, 0)) (by (with_reducible repeat (first | refine blk_drewN ?_ _ | refine blk_drew ?_ | refine blk_alloc ?_ _)); refine blk_put (cs := #[.int .i64 (wrap64 (Int.tmod a4 9)), .string t857, .bool ((Int.tmod a2 2) == 1), .slice none 0 0]) ?_ 3 _ rfl; (with_reducible repeat (first | refine blk_drewN ?_ _ | refine blk_drew ?_ | refine blk_alloc ?_ _)); refine blk_put (cs := #[.int .i64 (wrap64 (Int.tmod a4 9)), .string t857, .bool false, .slice none 0 0]) ?_ 2 _ rfl; (with_reducible repeat (first | refine blk_drewN ?_ _ | refine blk_drew ?_ | refine blk_alloc ?_ _)); refine blk_put (cs := #[.int .i64 (wrap64 (Int.tmod a4 9)), .string (⟨#[]⟩ : ByteArray), .bool false, .slice none 0 0]) ?_ 1 _ rfl; (with_reducible repeat (first | refine blk_drewN ?_ _ | refine blk_drew ?_ | refine blk_alloc ?_ _)); refine blk_put (cs := #[.int .i64 0, .string (⟨#[]⟩ : ByteArray), .bool false, .slice none 0 0]) ?_ 0 _ rfl; (with_reducible repeat (first | refine blk_drewN ?_ _ | refine blk_drew ?_ | refine blk_alloc ?_ _)); exact BK861.out) hb); have n2_ := Aside0.mk (below_step (by repeat (first | (with_reducible first | exact HB.out | apply below_alloc | apply pw_below_drewN | apply below_drew1 | refine below_set ?_ GE861.out) | exact HB.out)) hb); have n3_ := Aside0.mk (hbox); have n4_ := Aside0.mk ((by rw [hg]; exact (below_size (by repeat (first | (with_reducible first | exact HB.out | apply below_alloc | apply pw_below_drewN | apply below_drew1 | refine below_set ?_ GE861.out) | exact HB.out))) : w.heap.size ≤ gb862)); have n5_ := Aside0.mk ((by rw [hg]; exact (below_size (by repeat (first | (with_reducible first | exact HB.out | apply below_alloc | apply pw_below_drewN | apply below_drew1 | refine below_set ?_ GE861.out) | exact HB.out))) : w.heap.size ≤ gb862)); have n6_ := Aside0.mk ((by rw [hg]; exact Nat.ne_of_lt (blk_lt (g := gb861) (o := .cells #[.int .i64 (wrap64 (Int.tmod a4 9)), .string t857, .bool ((Int.tmod a2 2) == 1), .slice Ao26 t858.length co26] 28 (0, 0)) (by (with_reducible repeat (first | refine blk_drewN ?_ _ | refine blk_drew ?_ | refine blk_alloc ?_ _)); refine blk_put (cs := #[.int .i64 (wrap64 (Int.tmod a4 9)), .string t857, .bool ((Int.tmod a2 2) == 1), .slice none 0 0]) ?_ 3 _ rfl; (with_reducible repeat (first | refine blk_drewN ?_ _ | refine blk_drew ?_ | refine blk_alloc ?_ _)); refine blk_put (cs := #[.int .i64 (wrap64 (Int.tmod a4 9)), .string t857, .bool false, .slice none 0 0]) ?_ 2 _ rfl; (with_reducible repeat (first | refine blk_drewN ?_ _ | refine blk_drew ?_ | refine blk_alloc ?_ _)); refine blk_put (cs := #[.int .i64 (wrap64 (Int.tmod a4 9)), .string (⟨#[]⟩ : ByteArray), .bool false, .slice none 0 0]) ?_ 1 _ rfl; (with_reducible repeat (first | refine blk_drewN ?_ _ | refine blk_drew ?_ | refine blk_alloc ?_ _)); refine blk_put (cs := #[.int .i64 0, .string (⟨#[]⟩ : ByteArray), .bool false, .slice none 0 0]) ?_ 0 _ rfl; (with_reducible repeat (first | refine blk_drewN ?_ _ | refine blk_drew ?_ | refine blk_alloc ?_ _)); exact BK861.out)) : gb861 ≠ gb862)); have n7_ := Aside0.mk ((by rw [hg]; exact Nat.ne_of_gt (blk_lt (g := gb861) (o := .cells #[.int .i64 (wrap64 (Int.tmod a4 9)), .string t857, .bool ((Int.tmod a2 2) == 1), .slice Ao26 t858.length co26] 28 (0, 0)) (by (with_reducible repeat (first | refine blk_drewN ?_ _ | refine blk_drew ?_ | refine blk_alloc ?_ _)); refine blk_put (cs := #[.int .i64 (wrap64 (Int.tmod a4 9)), .string t857, .bool ((Int.tmod a2 2) == 1), .slice none 0 0]) ?_ 3 _ rfl; (with_reducible repeat (first | refine blk_drewN ?_ _ | refine blk_drew ?_ | refine blk_alloc ?_ _)); refine blk_put (cs := #[.int .i64 (wrap64 (Int.tmod a4 9)), .string t857, .bool false, .slice none 0 0]) ?_ 2 _ rfl; (with_reducible repeat (first | refine blk_drewN ?_ _ | refine blk_drew ?_ | refine blk_alloc ?_ _)); refine blk_put (cs := #[.int .i64 (wrap64 (Int.tmod a4 9)), .string (⟨#[]⟩ : ByteArray), .bool false, .slice none 0 0]) ?_ 1 _ rfl; (with_reducible repeat (first | refine blk_drewN ?_ _ | refine blk_drew ?_ | refine blk_alloc ?_ _)); refine blk_put (cs := #[.int .i64 0, .string (⟨#[]⟩ : ByteArray), .bool false, .slice none 0 0]) ?_ 0 _ rfl; (with_reducible repeat (first | refine blk_drewN ?_ _ | refine blk_drew ?_ | refine blk_alloc ?_ _)); exact BK861.out)) : gb862 ≠ gb861)); clear HO860; clear BK861; clear HB; have HO860 := n0_; have BK861 := n1_; have HB := n2_; have BK862 := n3_; have GW862 := n4_; have GE862 := n5_; have NB861_862 := n6_; have NB862_861 := n7_; clear n0_ n1_ n2_ n3_ n4_ n5_ n6_ n7_; clear hb hbox hg; have hnb30 := NB862_861.out; have hnc30 := NB861_862.out; have hcz31_0 : w29.cell? ⟨gb862, 0, none⟩ = some (.int .i64 0) := (blk_cell BK862.out 0).trans rfl; have hcz31_1 : w29.cell? ⟨gb862, 1, none⟩ = some (.string (⟨#[]⟩ : ByteArray)) := (blk_cell BK862.out 1).trans rfl; have hcz31_2 : w29.cell? ⟨gb862, 2, none⟩ = some (.bool false) := (blk_cell BK862.out 2).trans rfl; have hcz31_3 : w29.cell? ⟨gb862, 3, none⟩ = some (.slice none 0 0) := (blk_cell BK862.out 3).trans rfl; have hfz31_0 := blk_frozen BK862.out 0; have hfz31_1 := blk_frozen BK862.out 1; have hfz31_2 := blk_frozen BK862.out 2; have hfz31_3 := blk_frozen BK862.out 3; have hcz32_0 : w29.cell? ⟨gb861, 0, none⟩ = some (.int .i64 (wrap64 (Int.tmod a4 9))) := (blk_cell BK861.out 0).trans rfl; have hcz32_1 : w29.cell? ⟨gb861, 1, none⟩ = some (.string t857) := (blk_cell BK861.out 1).trans rfl; have hcz32_2 : w29.cell? ⟨gb861, 2, none⟩ = some (.bool ((Int.tmod a2 2) == 1)) := (blk_cell BK861.out 2).trans rfl; have hcz32_3 : w29.cell? ⟨gb861, 3, none⟩ = some (.slice Ao26 t858.length co26) := (blk_cell BK861.out 3).trans rfl; have hfz32_0 := blk_frozen BK861.out 0; have hfz32_1 := blk_frozen BK861.out 1; have hfz32_2 := blk_frozen BK861.out 2; have hfz32_3 := blk_frozen BK861.out 3) | ((with_reducible refine gate_builtin (b := .append) (xs := #[.const (.slice none 0 0), .tmp 33]) rfl ?_); at_builtin; refine Kd.R_append_rows k43 (w0 := w) w.heap.size rfl (.const (.slice none 0 0)) (.tmp 33) 26 43 (.agg #[(.string ⟨#[]⟩), (.int .u16 0), (.int .u32 0), (.string ⟨#[]⟩)]) 40 rfl Try.underlying26 info43 rfl (by decide) (by omega) (.slice none 0 0) ([] : List (S43)) t858 _ _ _ (fun k_ => nb (.slice Ao26 t858.length co26) k_) (fun _ => False) rfl rfl ?aO ?aR (fun _ _ h => h) (fun _ h => h.elim) ?aF ?aB ?aS ?aL ?_; (case aR => refine (Kd.R_reads' (e := 43) (base := w.heap.size) (ok := fun k_ => True) (n := t858.length) (c := co26) ?_).2.2; exact (by (with_reducible repeat (first | apply Kd.R_alloc | apply Kd.R_drewN | apply Kd.R_drew)); exact (Kd.R_mono (Kd.R_far (p := ⟨gb862, 3, none⟩) (Kd.R_far (p := ⟨gb862, 2, none⟩) (Kd.R_far (p := ⟨gb862, 1, none⟩) (Kd.R_far (p := ⟨gb862, 0, none⟩) (Kd.R_types HO860.out BK862.out (by decide)) (fun _ hk => hk.2) (.int .i64 (wrap64 (Int.tmod a4 9)))) (fun _ hk => hk.2) (.string t857)) (fun _ hk => hk.2) (.bool ((Int.tmod a2 2) == 1))) (fun _ hk => hk.2) (.slice Ao26 t858.length co26)) (fun _ h_ => h_.1)))); (case aB => exact (by repeat (first | (with_reducible first | exact HB.out | apply below_alloc | apply pw_below_drewN | apply below_drew1 | refine below_set ?_ GE861.out | refine below_set ?_ GE862.out) | exact HB.out))); (case aF => exact (fun k_ hk => Kd.fresh' (Kd.R_lt (by (with_reducible repeat (first | apply Kd.R_alloc | apply Kd.R_drewN | apply Kd.R_drew)); exact (Kd.R_mono (Kd.R_far (p := ⟨gb862, 3, none⟩) (Kd.R_far (p := ⟨gb862, 2, none⟩) (Kd.R_far (p := ⟨gb862, 1, none⟩) (Kd.R_far (p := ⟨gb862, 0, none⟩) (Kd.R_types HO860.out BK862.out (by decide)) (fun _ hk => hk.2) (.int .i64 (wrap64 (Int.tmod a4 9)))) (fun _ hk => hk.2) (.string t857)) (fun _ hk => hk.2) (.bool ((Int.tmod a2 2) == 1))) (fun _ hk => hk.2) (.slice Ao26 t858.length co26)) (fun _ h_ => h_.1)))) k_ hk)); (case aO => exact ((Kd.R_nil _ _ _ _ (fun k_ => nb (.slice Ao26 t858.length co26) k_)))); (case aS => exact (below_size (by repeat (first | (with_reducible first | exact HB.out | apply below_alloc | apply pw_below_drewN | apply below_drew1 | refine below_set ?_ GE861.out | refine below_set ?_ GE862.out) | exact HB.out)))); (case aL => have := LMc10.out; omega); intro v864 w33 ho hb hg hat; rw [← Ny863.out] at ho; have n0_ := Aside0.mk (Kd.R_after (Kd.R_apart_nil (by (with_reducible repeat (first | apply Kd.R_alloc | apply Kd.R_drewN | apply Kd.R_drew)); exact (Kd.R_mono (Kd.R_far (p := ⟨gb862, 3, none⟩) (Kd.R_far (p := ⟨gb862, 2, none⟩) (Kd.R_far (p := ⟨gb862, 1, none⟩) (Kd.R_far (p := ⟨gb862, 0, none⟩) (Kd.R_types HO860.out BK862.out (by decide)) (fun _ hk => hk.2) (.int .i64 (wrap64 (Int.tmod a4 9)))) (fun _ hk => hk.2) (.string t857)) (fun _ hk => hk.2) (.bool ((Int.tmod a2 2) == 1))) (fun _ hk => hk.2) (.slice Ao26 t858.length co26)) (fun _ h_ => h_.1)))) hg hat); have n1_ := Aside0.mk (blk_grown (g := gb861) (o := .cells #[.int .i64 (wrap64 (Int.tmod a4 9)), .string t857, .bool ((Int.tmod a2 2) == 1), .slice Ao26 t858.length co26] 28 (0, 0)) (by (with_reducible repeat (first | refine blk_drewN ?_ _ | refine blk_drew ?_ | refine blk_alloc ?_ _)); refine blk_far ?_ NB861_862.out _; (with_reducible repeat (first | refine blk_drewN ?_ _ | refine blk_drew ?_ | refine blk_alloc ?_ _)); refine blk_far ?_ NB861_862.out _; (with_reducible repeat (first | refine blk_drewN ?_ _ | refine blk_drew ?_ | refine blk_alloc ?_ _)); refine blk_far ?_ NB861_862.out _; (with_reducible repeat (first | refine blk_drewN ?_ _ | refine blk_drew ?_ | refine blk_alloc ?_ _)); refine blk_far ?_ NB861_862.out _; (with_reducible repeat (first | refine blk_drewN ?_ _ | refine blk_drew ?_ | refine blk_alloc ?_ _)); exact BK861.out) hg (by simp [Value.ownBlock])); have n2_ := Aside0.mk (blk_grown (g := gb862) (o := .cells #[.int .i64 (wrap64 (Int.tmod a4 9)), .string t857, .bool ((Int.tmod a2 2) == 1), .slice Ao26 t858.length co26] 28 (0, 0)) (by (with_reducible repeat (first | refine blk_drewN ?_ _ | refine blk_drew ?_ | refine blk_alloc ?_ _)); refine blk_put (cs := #[.int .i64 (wrap64 (Int.tmod a4 9)), .string t857, .bool ((Int.tmod a2 2) == 1), .slice none 0 0]) ?_ 3 _ rfl; (with_reducible repeat (first | refine blk_drewN ?_ _ | refine blk_drew ?_ | refine blk_alloc ?_ _)); refine blk_put (cs := #[.int .i64 (wrap64 (Int.tmod a4 9)), .string t857, .bool false, .slice none 0 0]) ?_ 2 _ rfl; (with_reducible repeat (first | refine blk_drewN ?_ _ | refine blk_drew ?_ | refine blk_alloc ?_ _)); refine blk_put (cs := #[.int .i64 (wrap64 (Int.tmod a4 9)), .string (⟨#[]⟩ : ByteArray), .bool false, .slice none 0 0]) ?_ 1 _ rfl; (with_reducible repeat (first | refine blk_drewN ?_ _ | refine blk_drew ?_ | refine blk_alloc ?_ _)); refine blk_put (cs := #[.int .i64 0, .string (⟨#[]⟩ : ByteArray), .bool false, .slice none 0 0]) ?_ 0 _ rfl; (with_reducible repeat (first | refine blk_drewN ?_ _ | refine blk_drew ?_ | refine blk_alloc ?_ _)); exact BK862.out) hg (by simp [Value.ownBlock])); have n3_ := Aside0.mk (hb); have n4_ := Aside0.mk (ho); clear HO860; clear BK861; clear BK862; clear HB; have HO860 := n0_; have BK861 := n1_; have BK862 := n2_; have HB := n3_; have HO865 := n4_; clear n0_ n1_ n2_ n3_ n4_; clear ho hb hg hat; obtain ⟨Ao34, co34, eo34⟩ := Kd.R_slice HO865.out; subst eo34; have hcz35_0 : w33.cell? ⟨gb862, 0, none⟩ = some (.int .i64 (wrap64 (Int.tmod a4 9))) := (blk_cell BK862.out 0).trans rfl; have hcz35_1 : w33.cell? ⟨gb862, 1, none⟩ = some (.string t857) := (blk_cell BK862.out 1).trans rfl; have hcz35_2 : w33.cell? ⟨gb862, 2, none⟩ = some (.bool ((Int.tmod a2 2) == 1)) := (blk_cell BK862.out 2).trans rfl; have hcz35_3 : w33.cell? ⟨gb862, 3, none⟩ = some (.slice Ao26 t858.length co26) := (blk_cell BK862.out 3).trans rfl; have hfz35_0 := blk_frozen BK862.out 0; have hfz35_1 := blk_frozen BK862.out 1; have hfz35_2 := blk_frozen BK862.out 2; have hfz35_3 := blk_frozen BK862.out 3; have hcz36_0 : w33.cell? ⟨gb861, 0, none⟩ = some (.int .i64 (wrap64 (Int.tmod a4 9))) := (blk_cell BK861.out 0).trans rfl; have hcz36_1 : w33.cell? ⟨gb861, 1, none⟩ = some (.string t857) := (blk_cell BK861.out 1).trans rfl; have hcz36_2 : w33.cell? ⟨gb861, 2, none⟩ = some (.bool ((Int.tmod a2 2) == 1)) := (blk_cell BK861.out 2).trans rfl; have hcz36_3 : w33.cell? ⟨gb861, 3, none⟩ = some (.slice Ao26 t858.length co26) := (blk_cell BK861.out 3).trans rfl; have hfz36_0 := blk_frozen BK861.out 0; have hfz36_1 := blk_frozen BK861.out 1; have hfz36_2 := blk_frozen BK861.out 2; have hfz36_3 := blk_frozen BK861.out 3) | ((with_reducible refine gate_dst (N := 13) rfl ?_); refine box_event ?hg (N := 13) ?hd (cs := #[.int .i64 0, .string (⟨#[]⟩ : ByteArray), .bool false, .slice none 0 0]) (t := 28) ?hr ?_; (case hd => rfl); (case hg => rfl); (case hr => first | (go_simp; done) | (go_simp; rfl)); intro gb866 hg w37 hbox hb; have n0_ := Aside0.mk (Kd.R_below (by (with_reducible repeat (first | apply Kd.R_alloc | apply Kd.R_drewN | apply Kd.R_drew)); exact (Kd.R_mono (Kd.R_far (p := ⟨gb862, 3, none⟩) (Kd.R_types HO860.out BK862.out (by decide)) (fun _ hk => hk.2) (.slice Ao34 y863.length co34)) (fun _ h_ => h_.1))) hb); have n1_ := Aside0.mk (Kd.R_below (by (with_reducible repeat (first | apply Kd.R_alloc | apply Kd.R_drewN | apply Kd.R_drew)); exact (Kd.R_mono (Kd.R_far (p := ⟨gb862, 3, none⟩) (Kd.R_types HO865.out BK862.out (by decide)) (fun _ hk => hk.2) (.slice Ao34 y863.length co34)) (fun _ h_ => h_.1))) hb); have n2_ := Aside0.mk (blk_below (g := gb861) (o := .cells #[.int .i64 (wrap64 (Int.tmod a4 9)), .string t857, .bool ((Int.tmod a2 2) == 1), .slice Ao26 t858.length co26] 28 (0, 0)) (by (with_reducible repeat (first | refine blk_drewN ?_ _ | refine blk_drew ?_ | refine blk_alloc ?_ _)); refine blk_far ?_ NB861_862.out _; (with_reducible repeat (first | refine blk_drewN ?_ _ | refine blk_drew ?_ | refine blk_alloc ?_ _)); exact BK861.out) hb); have n3_ := Aside0.mk (blk_below (g := gb862) (o := .cells #[.int .i64 (wrap64 (Int.tmod a4 9)), .string t857, .bool ((Int.tmod a2 2) == 1), .slice Ao34 y863.length co34] 28 (0, 0)) (by (with_reducible repeat (first | refine blk_drewN ?_ _ | refine blk_drew ?_ | refine blk_alloc ?_ _)); refine blk_put (cs := #[.int .i64 (wrap64 (Int.tmod a4 9)), .string t857, .bool ((Int.tmod a2 2) == 1), .slice Ao26 t858.length co26]) ?_ 3 _ rfl; (with_reducible repeat (first | refine blk_drewN ?_ _ | refine blk_drew ?_ | refine blk_alloc ?_ _)); exact BK862.out) hb); have n4_ := Aside0.mk (below_step (by repeat (first | (with_reducible first | exact HB.out | apply below_alloc | apply pw_below_drewN | apply below_drew1 | refine below_set ?_ GE861.out | refine below_set ?_ GE862.out) | exact HB.out)) hb); have n5_ := Aside0.mk (hbox); have n6_ := Aside0.mk ((by rw [hg]; exact (below_size (by repeat (first | (with_reducible first | exact HB.out | apply below_alloc | apply pw_below_drewN | apply below_drew1 | refine below_set ?_ GE861.out | refine below_set ?_ GE862.out) | exact HB.out))) : w.heap.size ≤ gb866)); have n7_ := Aside0.mk ((by rw [hg]; exact (below_size (by repeat (first | (with_reducible first | exact HB.out | apply below_alloc | apply pw_below_drewN | apply below_drew1 | refine below_set ?_ GE861.out | refine below_set ?_ GE862.out) | exact HB.out))) : w.heap.size ≤ gb866)); have n8_ := Aside0.mk ((by rw [hg]; exact Nat.ne_of_lt (blk_lt (g := gb861) (o := .cells #[.int .i64 (wrap64 (Int.tmod a4 9)), .string t857, .bool ((Int.tmod a2 2) == 1), .slice Ao26 t858.length co26] 28 (0, 0)) (by (with_reducible repeat (first | refine blk_drewN ?_ _ | refine blk_drew ?_ | refine blk_alloc ?_ _)); refine blk_far ?_ NB861_862.out _; (with_reducible repeat (first | refine blk_drewN ?_ _ | refine blk_drew ?_ | refine blk_alloc ?_ _)); exact BK861.out)) : gb861 ≠ gb866)); have n9_ := Aside0.mk ((by rw [hg]; exact Nat.ne_of_gt (blk_lt (g := gb861) (o := .cells #[.int .i64 (wrap64 (Int.tmod a4 9)), .string t857, .bool ((Int.tmod a2 2) == 1), .slice Ao26 t858.length co26] 28 (0, 0)) (by (with_reducible repeat (first | refine blk_drewN ?_ _ | refine blk_drew ?_ | refine blk_alloc ?_ _)); refine blk_far ?_ NB861_862.out _; (with_reducible repeat (first | refine blk_drewN ?_ _ | refine blk_drew ?_ | refine blk_alloc ?_ _)); exact BK861.out)) : gb866 ≠ gb861)); have n10_ := Aside0.mk ((by rw [hg]; exact Nat.ne_of_lt (blk_lt (g := gb862) (o := .cells #[.int .i64 (wrap64 (Int.tmod a4 9)), .string t857, .bool ((Int.tmod a2 2) == 1), .slice Ao34 y863.length co34] 28 (0, 0)) (by (with_reducible repeat (first | refine blk_drewN ?_ _ | refine blk_drew ?_ | refine blk_alloc ?_ _)); refine blk_put (cs := #[.int .i64 (wrap64 (Int.tmod a4 9)), .string t857, .bool ((Int.tmod a2 2) == 1), .slice Ao26 t858.length co26]) ?_ 3 _ rfl; (with_reducible repeat (first | refine blk_drewN ?_ _ | refine blk_drew ?_ | refine blk_alloc ?_ _)); exact BK862.out)) : gb862 ≠ gb866)); have n11_ := Aside0.mk ((by rw [hg]; exact Nat.ne_of_gt (blk_lt (g := gb862) (o := .cells #[.int .i64 (wrap64 (Int.tmod a4 9)), .string t857, .bool ((Int.tmod a2 2) == 1), .slice Ao34 y863.length co34] 28 (0, 0)) (by (with_reducible repeat (first | refine blk_drewN ?_ _ | refine blk_drew ?_ | refine blk_alloc ?_ _)); refine blk_put (cs := #[.int .i64 (wrap64 (Int.tmod a4 9)), .string t857, .bool ((Int.tmod a2 2) == 1), .slice Ao26 t858.length co26]) ?_ 3 _ rfl; (with_reducible repeat (first | refine blk_drewN ?_ _ | refine blk_drew ?_ | refine blk_alloc ?_ _)); exact BK862.out)) : gb866 ≠ gb862)); clear HO860; clear HO865; clear BK861; clear BK862; clear HB; have HO860 := n0_; have HO865 := n1_; have BK861 := n2_; have BK862 := n3_; have HB := n4_; have BK866 := n5_; have GW866 := n6_; have GE866 := n7_; have NB861_866 := n8_; have NB866_861 := n9_; have NB862_866 := n10_; have NB866_862 := n11_; clear n0_ n1_ n2_ n3_ n4_ n5_ n6_ n7_ n8_ n9_ n10_ n11_; clear hb hbox hg; have hnb38 := NB866_861.out; have hnc38 := NB861_866.out; have hnb39 := NB866_862.out; have hnc39 := NB862_866.out; have hcz40_0 : w37.cell? ⟨gb866, 0, none⟩ = some (.int .i64 0) := (blk_cell BK866.out 0).trans rfl; have hcz40_1 : w37.cell? ⟨gb866, 1, none⟩ = some (.string (⟨#[]⟩ : ByteArray)) := (blk_cell BK866.out 1).trans rfl; have hcz40_2 : w37.cell? ⟨gb866, 2, none⟩ = some (.bool false) := (blk_cell BK866.out 2).trans rfl; have hcz40_3 : w37.cell? ⟨gb866, 3, none⟩ = some (.slice none 0 0) := (blk_cell BK866.out 3).trans rfl; have hfz40_0 := blk_frozen BK866.out 0; have hfz40_1 := blk_frozen BK866.out 1; have hfz40_2 := blk_frozen BK866.out 2; have hfz40_3 := blk_frozen BK866.out 3) | ((with_reducible refine gate_callee (f := 21) rfl ?_); refine goesL_ (some 38) rfl rfl Try.func21 (by kernel_rfl) rfl #[.slice A1 l1.length c1, .int .i64 4] rfl (by (try simp only [List.map_toArray, List.map_cons, List.map_nil]); first | done | rfl | (simp only [List.length_drop, List.length_take]; rfl)) ?_; (with_reducible refine (bolterlaw05_Records.calls k _ _ l1 4 t867 _ ?side1 ?side2 A11.out).mono ?_); (case side1 => exact Kd.C_below HR1.out (by repeat (first | (with_reducible first | exact HB.out | apply below_alloc | apply pw_below_drewN | apply below_drew1 | refine below_set ?_ GE861.out | refine below_set ?_ GE862.out | refine below_set ?_ GE866.out) | exact HB.out))); (case side2 => exact HC1.out); rintro e w41 ⟨v868, rfl, ho0, hb⟩; refine ⟨_, rfl, ?_⟩; have n0_ := Aside0.mk (Kd.R_elder' (by (with_reducible repeat (first | apply Kd.R_alloc | apply Kd.R_drewN | apply Kd.R_drew)); exact (Kd.R_mono (Kd.R_far (p := ⟨gb866, 3, none⟩) (Kd.R_far (p := ⟨gb866, 2, none⟩) (Kd.R_far (p := ⟨gb866, 1, none⟩) (Kd.R_far (p := ⟨gb866, 0, none⟩) (Kd.R_types HO860.out BK866.out (by decide)) (fun _ hk => hk.2) (.int .i64 (wrap64 (Int.tmod a4 9)))) (fun _ hk => hk.2) (.string t857)) (fun _ hk => hk.2) (.bool ((Int.tmod a2 2) == 1))) (fun _ hk => hk.2) (.slice Ao26 t858.length co26)) (fun _ h_ => h_.1))) (Kd.R_base ho0) hb); have n1_ := Aside0.mk (Kd.R_elder' (by (with_reducible repeat (first | apply Kd.R_alloc | apply Kd.R_drewN | apply Kd.R_drew)); exact (Kd.R_mono (Kd.R_far (p := ⟨gb866, 3, none⟩) (Kd.R_far (p := ⟨gb866, 2, none⟩) (Kd.R_far (p := ⟨gb866, 1, none⟩) (Kd.R_far (p := ⟨gb866, 0, none⟩) (Kd.R_types HO865.out BK866.out (by decide)) (fun _ hk => hk.2) (.int .i64 (wrap64 (Int.tmod a4 9)))) (fun _ hk => hk.2) (.string t857)) (fun _ hk => hk.2) (.bool ((Int.tmod a2 2) == 1))) (fun _ hk => hk.2) (.slice Ao26 t858.length co26)) (fun _ h_ => h_.1))) (Kd.R_base ho0) hb); have n2_ := Aside0.mk (Kd.R_lower (Kd.R_new' (Kd.R_new' ho0 (Kd.R_lt (by (with_reducible repeat (first | apply Kd.R_alloc | apply Kd.R_drewN | apply Kd.R_drew)); exact (Kd.R_mono (Kd.R_far (p := ⟨gb866, 3, none⟩) (Kd.R_far (p := ⟨gb866, 2, none⟩) (Kd.R_far (p := ⟨gb866, 1, none⟩) (Kd.R_far (p := ⟨gb866, 0, none⟩) (Kd.R_types HO860.out BK866.out (by decide)) (fun _ hk => hk.2) (.int .i64 (wrap64 (Int.tmod a4 9)))) (fun _ hk => hk.2) (.string t857)) (fun _ hk => hk.2) (.bool ((Int.tmod a2 2) == 1))) (fun _ hk => hk.2) (.slice Ao26 t858.length co26)) (fun _ h_ => h_.1))))) (Kd.R_lt (by (with_reducible repeat (first | apply Kd.R_alloc | apply Kd.R_drewN | apply Kd.R_drew)); exact (Kd.R_mono (Kd.R_far (p := ⟨gb866, 3, none⟩) (Kd.R_far (p := ⟨gb866, 2, none⟩) (Kd.R_far (p := ⟨gb866, 1, none⟩) (Kd.R_far (p := ⟨gb866, 0, none⟩) (Kd.R_types HO865.out BK866.out (by decide)) (fun _ hk => hk.2) (.int .i64 (wrap64 (Int.tmod a4 9)))) (fun _ hk => hk.2) (.string t857)) (fun _ hk => hk.2) (.bool ((Int.tmod a2 2) == 1))) (fun _ hk => hk.2) (.slice Ao26 t858.length co26)) (fun _ h_ => h_.1))))) (below_size (by repeat (first | (with_reducible first | exact HB.out | apply below_alloc | apply pw_below_drewN | apply below_drew1 | refine below_set ?_ GE861.out | refine below_set ?_ GE862.out | refine below_set ?_ GE866.out) | exact HB.out)))); have n3_ := Aside0.mk (blk_below (g := gb861) (o := .cells #[.int .i64 (wrap64 (Int.tmod a4 9)), .string t857, .bool ((Int.tmod a2 2) == 1), .slice Ao26 t858.length co26] 28 (0, 0)) (by (with_reducible repeat (first | refine blk_drewN ?_ _ | refine blk_drew ?_ | refine blk_alloc ?_ _)); refine blk_far ?_ NB861_866.out _; (with_reducible repeat (first | refine blk_drewN ?_ _ | refine blk_drew ?_ | refine blk_alloc ?_ _)); refine blk_far ?_ NB861_866.out _; (with_reducible repeat (first | refine blk_drewN ?_ _ | refine blk_drew ?_ | refine blk_alloc ?_ _)); refine blk_far ?_ NB861_866.out _; (with_reducible repeat (first | refine blk_drewN ?_ _ | refine blk_drew ?_ | refine blk_alloc ?_ _)); refine blk_far ?_ NB861_866.out _; (with_reducible repeat (first | refine blk_drewN ?_ _ | refine blk_drew ?_ | refine blk_alloc ?_ _)); exact BK861.out) hb); have n4_ := Aside0.mk (blk_below (g := gb862) (o := .cells #[.int .i64 (wrap64 (Int.tmod a4 9)), .string t857, .bool ((Int.tmod a2 2) == 1), .slice Ao34 y863.length co34] 28 (0, 0)) (by (with_reducible repeat (first | refine blk_drewN ?_ _ | refine blk_drew ?_ | refine blk_alloc ?_ _)); refine blk_far ?_ NB862_866.out _; (with_reducible repeat (first | refine blk_drewN ?_ _ | refine blk_drew ?_ | refine blk_alloc ?_ _)); refine blk_far ?_ NB862_866.out _; (with_reducible repeat (first | refine blk_drewN ?_ _ | refine blk_drew ?_ | refine blk_alloc ?_ _)); refine blk_far ?_ NB862_866.out _; (with_reducible repeat (first | refine blk_drewN ?_ _ | refine blk_drew ?_ | refine blk_alloc ?_ _)); refine blk_far ?_ NB862_866.out _; (with_reducible repeat (first | refine blk_drewN ?_ _ | refine blk_drew ?_ | refine blk_alloc ?_ _)); exact BK862.out) hb); have n5_ := Aside0.mk (blk_below (g := gb866) (o := .cells #[.int .i64 (wrap64 (Int.tmod a4 9)), .string t857, .bool ((Int.tmod a2 2) == 1), .slice Ao26 t858.length co26] 28 (0, 0)) (by (with_reducible repeat (first | refine blk_drewN ?_ _ | refine blk_drew ?_ | refine blk_alloc ?_ _)); refine blk_put (cs := #[.int .i64 (wrap64 (Int.tmod a4 9)), .string t857, .bool ((Int.tmod a2 2) == 1), .slice none 0 0]) ?_ 3 _ rfl; (with_reducible repeat (first | refine blk_drewN ?_ _ | refine blk_drew ?_ | refine blk_alloc ?_ _)); refine blk_put (cs := #[.int .i64 (wrap64 (Int.tmod a4 9)), .string t857, .bool false, .slice none 0 0]) ?_ 2 _ rfl; (with_reducible repeat (first | refine blk_drewN ?_ _ | refine blk_drew ?_ | refine blk_alloc ?_ _)); refine blk_put (cs := #[.int .i64 (wrap64 (Int.tmod a4 9)), .string (⟨#[]⟩ : ByteArray), .bool false, .slice none 0 0]) ?_ 1 _ rfl; (with_reducible repeat (first | refine blk_drewN ?_ _ | refine blk_drew ?_ | refine blk_alloc ?_ _)); refine blk_put (cs := #[.int .i64 0, .string (⟨#[]⟩ : ByteArray), .bool false, .slice none 0 0]) ?_ 0 _ rfl; (with_reducible repeat (first | refine blk_drewN ?_ _ | refine blk_drew ?_ | refine blk_alloc ?_ _)); exact BK866.out) hb); have n6_ := Aside0.mk (below_step (by repeat (first | (with_reducible first | exact HB.out | apply below_alloc | apply pw_below_drewN | apply below_drew1 | refine below_set ?_ GE861.out | refine below_set ?_ GE862.out | refine below_set ?_ GE866.out) | exact HB.out)) hb); clear HO860; clear HO865; clear BK861; clear BK862; clear BK866; clear HB; have HO860 := n0_; have HO865 := n1_; have HO869 := n2_; have BK861 := n3_; have BK862 := n4_; have BK866 := n5_; have HB := n6_; clear n0_ n1_ n2_ n3_ n4_ n5_ n6_; (try clear hb); (try clear hb2); (try clear hk); (try clear hi); (try clear ho0); obtain ⟨Ao42, co42, eo42⟩ := Kd.R_slice HO869.out; subst eo42; have hcz43_0 : w41.cell? ⟨gb866, 0, none⟩ = some (.int .i64 (wrap64 (Int.tmod a4 9))) := (blk_cell BK866.out 0).trans rfl; have hcz43_1 : w41.cell? ⟨gb866, 1, none⟩ = some (.string t857) := (blk_cell BK866.out 1).trans rfl; have hcz43_2 : w41.cell? ⟨gb866, 2, none⟩ = some (.bool ((Int.tmod a2 2) == 1)) := (blk_cell BK866.out 2).trans rfl; have hcz43_3 : w41.cell? ⟨gb866, 3, none⟩ = some (.slice Ao26 t858.length co26) := (blk_cell BK866.out 3).trans rfl; have hfz43_0 := blk_frozen BK866.out 0; have hfz43_1 := blk_frozen BK866.out 1; have hfz43_2 := blk_frozen BK866.out 2; have hfz43_3 := blk_frozen BK866.out 3))
 have n0_ : Aside0 (Kd.R k43 43 (w41.setCell ⟨gb866, 3, none⟩ (.slice Ao42 t867.length co42)) w.heap.size (fun k_ => nb (.slice Ao34 y863.length co34) k_ ∧ nb (.slice Ao42 t867.length co42) k_) (.slice Ao26 t858.length co26) t858) := ⟨by (with_reducible repeat (first | apply Kd.R_alloc | apply Kd.R_drewN | apply Kd.R_drew)); exact Kd.R_mono (Kd.R_far (p := ⟨gb866, 3, none⟩) (Kd.R_types HO860.out BK866.out (by decide)) (fun _ hk => hk.2) (.slice Ao42 t867.length co42)) (fun _ hk => ⟨hk.1.1.2, hk.1.2⟩)⟩
 have n1_ : Aside0 (Kd.R k43 43 (w41.setCell ⟨gb866, 3, none⟩ (.slice Ao42 t867.length co42)) w.heap.size (fun k_ => nb (.slice Ao26 t858.length co26) k_ ∧ nb (.slice Ao42 t867.length co42) k_) (.slice Ao34 y863.length co34) y863) := ⟨by (with_reducible repeat (first | apply Kd.R_alloc | apply Kd.R_drewN | apply Kd.R_drew)); exact Kd.R_mono (Kd.R_far (p := ⟨gb866, 3, none⟩) (Kd.R_types HO865.out BK866.out (by decide)) (fun _ hk => hk.2) (.slice Ao42 t867.length co42)) (fun _ hk => ⟨hk.1.1, hk.1.2⟩)⟩
 have n2_ : Aside0 (Kd.R k43 43 (w41.setCell ⟨gb866, 3, none⟩ (.slice Ao42 t867.length co42)) w.heap.size (fun k_ => nb (.slice Ao26 t858.length co26) k_ ∧ nb (.slice Ao34 y863.length co34) k_) (.slice Ao42 t867.length co42) t867) := ⟨by (with_reducible repeat (first | apply Kd.R_alloc | apply Kd.R_drewN | apply Kd.R_drew)); exact Kd.R_mono (Kd.R_far (p := ⟨gb866, 3, none⟩) (Kd.R_types HO869.out BK866.out (by decide)) (fun _ hk => hk.2) (.slice Ao42 t867.length co42)) (fun _ hk => ⟨hk.1.1.2, hk.1.2⟩)⟩
 have n3_ : Aside0 ((w41.setCell ⟨gb866, 3, none⟩ (.slice Ao42 t867.length co42)).heap[gb861]? = some (.cells #[.int .i64 (wrap64 (Int.tmod a4 9)), .string t857, .bool ((Int.tmod a2 2) == 1), .slice Ao26 t858.length co26] 28 (0, 0))) := ⟨by (with_reducible repeat (first | refine blk_drewN ?_ _ | refine blk_drew ?_ | refine blk_alloc ?_ _)); refine blk_far ?_ NB861_866.out _; (with_reducible repeat (first | refine blk_drewN ?_ _ | refine blk_drew ?_ | refine blk_alloc ?_ _)); exact BK861.out⟩
 have n4_ : Aside0 ((w41.setCell ⟨gb866, 3, none⟩ (.slice Ao42 t867.length co42)).heap[gb862]? = some (.cells #[.int .i64 (wrap64 (Int.tmod a4 9)), .string t857, .bool ((Int.tmod a2 2) == 1), .slice Ao34 y863.length co34] 28 (0, 0))) := ⟨by (with_reducible repeat (first | refine blk_drewN ?_ _ | refine blk_drew ?_ | refine blk_alloc ?_ _)); refine blk_far ?_ NB862_866.out _; (with_reducible repeat (first | refine blk_drewN ?_ _ | refine blk_drew ?_ | refine blk_alloc ?_ _)); exact BK862.out⟩
 have n5_ : Aside0 ((w41.setCell ⟨gb866, 3, none⟩ (.slice Ao42 t867.length co42)).heap[gb866]? = some (.cells #[.int .i64 (wrap64 (Int.tmod a4 9)), .string t857, .bool ((Int.tmod a2 2) == 1), .slice Ao42 t867.length co42] 28 (0, 0))) := ⟨by (with_reducible repeat (first | refine blk_drewN ?_ _ | refine blk_drew ?_ | refine blk_alloc ?_ _)); refine blk_put (cs := #[.int .i64 (wrap64 (Int.tmod a4 9)), .string t857, .bool ((Int.tmod a2 2) == 1), .slice Ao26 t858.length co26]) ?_ 3 _ rfl; (with_reducible repeat (first | refine blk_drewN ?_ _ | refine blk_drew ?_ | refine blk_alloc ?_ _)); exact BK866.out⟩
 have n6_ : Aside0 (Below w.heap.size w (w41.setCell ⟨gb866, 3, none⟩ (.slice Ao42 t867.length co42))) := ⟨by repeat (first | (with_reducible first | exact HB.out | apply below_alloc | apply pw_below_drewN | apply below_drew1 | refine below_set ?_ GE861.out | refine below_set ?_ GE862.out | refine below_set ?_ GE866.out) | exact HB.out)⟩
 (try clear HO860)
 (try clear HO865)
 (try clear HO869)
 (try clear BK861)
 (try clear BK862)
 (try clear BK866)
 (try clear HB)
 generalize (w41.setCell ⟨gb866, 3, none⟩ (.slice Ao42 t867.length co42)) = w44 at n0_ n1_ n2_ n3_ n4_ n5_ n6_ ⊢
 have HO860 := n0_
 have HO865 := n1_
 have HO869 := n2_
 have BK861 := n3_
 have BK862 := n4_
 have BK866 := n5_
 have HB := n6_
 clear n0_ n1_ n2_ n3_ n4_ n5_ n6_
 have n0_ := Aside0.mk (Kd.R_drew HO860.out)
 have n1_ := Aside0.mk (Kd.R_drew HO865.out)
 have n2_ := Aside0.mk (Kd.R_drew HO869.out)
 have n3_ := Aside0.mk (blk_drew BK861.out)
 have n4_ := Aside0.mk (blk_drew BK862.out)
 have n5_ := Aside0.mk (blk_drew BK866.out)
 have n6_ := Aside0.mk (below_drew1 HB.out)
 clear HO860
 clear HO865
 clear HO869
 clear BK861
 clear BK862
 clear BK866
 clear HB
 have HO860 := n0_
 have HO865 := n1_
 have HO869 := n2_
 have BK861 := n3_
 have BK862 := n4_
 have BK866 := n5_
 have HB := n6_
 clear n0_ n1_ n2_ n3_ n4_ n5_ n6_
 refine start_ (n := 9) (S := fun w' => w'.cell? ⟨gb861, 0, none⟩ = some (.int .i64 (wrap64 (Int.tmod a4 9))) ∧ w'.cell? ⟨gb861, 1, none⟩ = some (.string t857) ∧ w'.cell? ⟨gb861, 2, none⟩ = some (.bool ((Int.tmod a2 2) == 1)) ∧ w'.cell? ⟨gb861, 3, none⟩ = some (.slice Ao26 t858.length co26)) (ds := []) #[false, false, false, false, false, false, false, false, false] (by kernel_rfl) rfl rfl ⟨(blk_cell BK861.out 0).trans rfl, (blk_cell BK861.out 1).trans rfl, (blk_cell BK861.out 2).trans rfl, (blk_cell BK861.out 3).trans rfl⟩ (fun hHeld => ?_); refine with_tabW bolterlaw14_ActionSame.tab8 bolterlaw14_ActionSame.bits8 (fun HT_ HW_ => ?_)
 generalize w44.drew = w45 at HO860 HO865 HO869 BK861 BK862 BK866 HB hHeld ⊢
 refine take_ (i := 0) (N := some 40) (v := ?_) (a' := ?_) #[true, false, false, false, false, false, false, false, false] rfl rfl (take_ofW HT_.out HW_.out (by kernel_rfl)) (fun _ _ _ h => h) (Or.inl ⟨by rfl, ?_⟩) hHeld ?_ ?_
 rotate_left
 ·rintro w' ⟨s0, s1, s2, s3⟩
  go_simp
  with_reducible rfl
 rotate_left
 ·simp only [Act.put, List.setIfInBounds_toArray, List.set_cons_zero, List.set_cons_succ, i64_w, i32_w]
  rfl
 refine take_ (i := 1) (N := some 41) (v := ?_) (a' := ?_) #[true, true, false, false, false, false, false, false, false] rfl rfl (take_ofW HT_.out HW_.out (by kernel_rfl)) (fun _ _ _ h => h) (Or.inl ⟨by rfl, ?_⟩) hHeld ?_ ?_
 rotate_left
 ·rintro w' ⟨s0, s1, s2, s3⟩
  go_simp
  with_reducible rfl
 rotate_left
 ·simp only [Act.put, List.setIfInBounds_toArray, List.set_cons_zero, List.set_cons_succ, i64_w, i32_w]
  rfl
 refine take_ (i := 2) (N := some 42) (v := ?_) (a' := ?_) #[true, true, true, false, false, false, false, false, false] rfl rfl (take_ofW HT_.out HW_.out (by kernel_rfl)) (fun _ _ _ h => h) (Or.inl ⟨by rfl, ?_⟩) hHeld ?_ ?_
 rotate_left
 ·rintro w' ⟨s0, s1, s2, s3⟩
  go_simp
  with_reducible rfl
 rotate_left
 ·simp only [Act.put, List.setIfInBounds_toArray, List.set_cons_zero, List.set_cons_succ, i64_w, i32_w]
  rfl
 refine join_ (σ := Nat × Nat × Nat) 3 #[true, true, true, true, true, true, false, false, false] (fun s_ => [(14, .pointer (some ⟨s_.1, 0, none⟩)), (15, .pointer (some ⟨s_.2.1, 0, none⟩)), (16, .pointer (some ⟨s_.2.2, 0, none⟩))]) (fun s_ w' => (w'.cell? ⟨gb861, 0, none⟩ = some (.int .i64 (wrap64 (Int.tmod a4 9))) ∧ w'.cell? ⟨gb861, 1, none⟩ = some (.string t857) ∧ w'.cell? ⟨gb861, 2, none⟩ = some (.bool ((Int.tmod a2 2) == 1)) ∧ w'.cell? ⟨gb861, 3, none⟩ = some (.slice Ao26 t858.length co26)) ∧ (Kd.R k43 43 w' w.heap.size (fun k_ => nb (.slice Ao34 y863.length co34) k_ ∧ nb (.slice Ao42 t867.length co42) k_) (.slice Ao26 t858.length co26) t858) ∧ (Kd.R k43 43 w' w.heap.size (fun k_ => nb (.slice Ao26 t858.length co26) k_ ∧ nb (.slice Ao42 t867.length co42) k_) (.slice Ao34 y863.length co34) y863) ∧ (Kd.R k43 43 w' w.heap.size (fun k_ => nb (.slice Ao26 t858.length co26) k_ ∧ nb (.slice Ao34 y863.length co34) k_) (.slice Ao42 t867.length co42) t867) ∧ (w'.heap[gb861]? = some (.cells #[.int .i64 (wrap64 (Int.tmod a4 9)), .string t857, .bool ((Int.tmod a2 2) == 1), .slice Ao26 t858.length co26] 28 (0, 0))) ∧ (w'.heap[gb862]? = some (.cells #[.int .i64 (wrap64 (Int.tmod a4 9)), .string t857, .bool ((Int.tmod a2 2) == 1), .slice Ao34 y863.length co34] 28 (0, 0))) ∧ (w'.heap[gb866]? = some (.cells #[.int .i64 (wrap64 (Int.tmod a4 9)), .string t857, .bool ((Int.tmod a2 2) == 1), .slice Ao42 t867.length co42] 28 (0, 0))) ∧ (w'.heap[s_.1]? = some (.cells #[.int .i64 0, .string (⟨#[]⟩ : ByteArray), .bool false, .slice none 0 0] 28 (0, 0))) ∧ (w'.heap[s_.2.1]? = some (.cells #[.int .i64 0, .string (⟨#[]⟩ : ByteArray), .bool false, .slice none 0 0] 28 (0, 0))) ∧ (w'.heap[s_.2.2]? = some (.cells #[.int .i64 0, .string (⟨#[]⟩ : ByteArray), .bool false, .slice none 0 0] 28 (0, 0))) ∧ (w.heap.size ≤ s_.1) ∧ (w.heap.size ≤ s_.1) ∧ (gb861 ≠ s_.1) ∧ (s_.1 ≠ gb861) ∧ (gb862 ≠ s_.1) ∧ (s_.1 ≠ gb862) ∧ (gb866 ≠ s_.1) ∧ (s_.1 ≠ gb866) ∧ (s_.2.1 ≠ s_.1) ∧ (s_.1 ≠ s_.2.1) ∧ (s_.2.2 ≠ s_.1) ∧ (s_.1 ≠ s_.2.2) ∧ (w.heap.size ≤ s_.2.1) ∧ (w.heap.size ≤ s_.2.1) ∧ (gb861 ≠ s_.2.1) ∧ (s_.2.1 ≠ gb861) ∧ (gb862 ≠ s_.2.1) ∧ (s_.2.1 ≠ gb862) ∧ (gb866 ≠ s_.2.1) ∧ (s_.2.1 ≠ gb866) ∧ (s_.2.2 ≠ s_.2.1) ∧ (s_.2.1 ≠ s_.2.2) ∧ (w.heap.size ≤ s_.2.2) ∧ (w.heap.size ≤ s_.2.2) ∧ (gb861 ≠ s_.2.2) ∧ (s_.2.2 ≠ gb861) ∧ (gb862 ≠ s_.2.2) ∧ (s_.2.2 ≠ gb862) ∧ (gb866 ≠ s_.2.2) ∧ (s_.2.2 ≠ gb866) ∧ (Below w.heap.size w w')) ?_ ?_
 rotate_left
 ·intro hJ3_4_5
  refine join_ (σ := Nat × Nat) 4 #[true, true, true, true, true, false, false, false, false] (fun s_ => [(14, .pointer (some ⟨s_.1, 0, none⟩)), (15, .pointer (some ⟨s_.2, 0, none⟩))]) (fun s_ w' => (w'.cell? ⟨gb861, 0, none⟩ = some (.int .i64 (wrap64 (Int.tmod a4 9))) ∧ w'.cell? ⟨gb861, 1, none⟩ = some (.string t857) ∧ w'.cell? ⟨gb861, 2, none⟩ = some (.bool ((Int.tmod a2 2) == 1)) ∧ w'.cell? ⟨gb861, 3, none⟩ = some (.slice Ao26 t858.length co26)) ∧ (Kd.R k43 43 w' w.heap.size (fun k_ => nb (.slice Ao34 y863.length co34) k_ ∧ nb (.slice Ao42 t867.length co42) k_) (.slice Ao26 t858.length co26) t858) ∧ (Kd.R k43 43 w' w.heap.size (fun k_ => nb (.slice Ao26 t858.length co26) k_ ∧ nb (.slice Ao42 t867.length co42) k_) (.slice Ao34 y863.length co34) y863) ∧ (Kd.R k43 43 w' w.heap.size (fun k_ => nb (.slice Ao26 t858.length co26) k_ ∧ nb (.slice Ao34 y863.length co34) k_) (.slice Ao42 t867.length co42) t867) ∧ (w'.heap[gb861]? = some (.cells #[.int .i64 (wrap64 (Int.tmod a4 9)), .string t857, .bool ((Int.tmod a2 2) == 1), .slice Ao26 t858.length co26] 28 (0, 0))) ∧ (w'.heap[gb862]? = some (.cells #[.int .i64 (wrap64 (Int.tmod a4 9)), .string t857, .bool ((Int.tmod a2 2) == 1), .slice Ao34 y863.length co34] 28 (0, 0))) ∧ (w'.heap[gb866]? = some (.cells #[.int .i64 (wrap64 (Int.tmod a4 9)), .string t857, .bool ((Int.tmod a2 2) == 1), .slice Ao42 t867.length co42] 28 (0, 0))) ∧ (w'.heap[s_.1]? = some (.cells #[.int .i64 0, .string (⟨#[]⟩ : ByteArray), .bool false, .slice none 0 0] 28 (0, 0))) ∧ (w'.heap[s_.2]? = some (.cells #[.int .i64 0, .string (⟨#[]⟩ : ByteArray), .bool false, .slice none 0 0] 28 (0, 0))) ∧ (w.heap.size ≤ s_.1) ∧ (w.heap.size ≤ s_.1) ∧ (gb861 ≠ s_.1) ∧ (s_.1 ≠ gb861) ∧ (gb862 ≠ s_.1) ∧ (s_.1 ≠ gb862) ∧ (gb866 ≠ s_.1) ∧ (s_.1 ≠ gb866) ∧ (s_.2 ≠ s_.1) ∧ (s_.1 ≠ s_.2) ∧ (w.heap.size ≤ s_.2) ∧ (w.heap.size ≤ s_.2) ∧ (gb861 ≠ s_.2) ∧ (s_.2 ≠ gb861) ∧ (gb862 ≠ s_.2) ∧ (s_.2 ≠ gb862) ∧ (gb866 ≠ s_.2) ∧ (s_.2 ≠ gb866) ∧ (Below w.heap.size w w')) ?_ ?_
  rotate_left
  ·intro hJ3_4
   refine join_ (σ := Nat × Nat) 4 #[true, true, true, true, false, true, false, false, false] (fun s_ => [(14, .pointer (some ⟨s_.1, 0, none⟩)), (16, .pointer (some ⟨s_.2, 0, none⟩))]) (fun s_ w' => (w'.cell? ⟨gb861, 0, none⟩ = some (.int .i64 (wrap64 (Int.tmod a4 9))) ∧ w'.cell? ⟨gb861, 1, none⟩ = some (.string t857) ∧ w'.cell? ⟨gb861, 2, none⟩ = some (.bool ((Int.tmod a2 2) == 1)) ∧ w'.cell? ⟨gb861, 3, none⟩ = some (.slice Ao26 t858.length co26)) ∧ (Kd.R k43 43 w' w.heap.size (fun k_ => nb (.slice Ao34 y863.length co34) k_ ∧ nb (.slice Ao42 t867.length co42) k_) (.slice Ao26 t858.length co26) t858) ∧ (Kd.R k43 43 w' w.heap.size (fun k_ => nb (.slice Ao26 t858.length co26) k_ ∧ nb (.slice Ao42 t867.length co42) k_) (.slice Ao34 y863.length co34) y863) ∧ (Kd.R k43 43 w' w.heap.size (fun k_ => nb (.slice Ao26 t858.length co26) k_ ∧ nb (.slice Ao34 y863.length co34) k_) (.slice Ao42 t867.length co42) t867) ∧ (w'.heap[gb861]? = some (.cells #[.int .i64 (wrap64 (Int.tmod a4 9)), .string t857, .bool ((Int.tmod a2 2) == 1), .slice Ao26 t858.length co26] 28 (0, 0))) ∧ (w'.heap[gb862]? = some (.cells #[.int .i64 (wrap64 (Int.tmod a4 9)), .string t857, .bool ((Int.tmod a2 2) == 1), .slice Ao34 y863.length co34] 28 (0, 0))) ∧ (w'.heap[gb866]? = some (.cells #[.int .i64 (wrap64 (Int.tmod a4 9)), .string t857, .bool ((Int.tmod a2 2) == 1), .slice Ao42 t867.length co42] 28 (0, 0))) ∧ (w'.heap[s_.1]? = some (.cells #[.int .i64 0, .string (⟨#[]⟩ : ByteArray), .bool false, .slice none 0 0] 28 (0, 0))) ∧ (w'.heap[s_.2]? = some (.cells #[.int .i64 0, .string (⟨#[]⟩ : ByteArray), .bool false, .slice none 0 0] 28 (0, 0))) ∧ (w.heap.size ≤ s_.1) ∧ (w.heap.size ≤ s_.1) ∧ (gb861 ≠ s_.1) ∧ (s_.1 ≠ gb861) ∧ (gb862 ≠ s_.1) ∧ (s_.1 ≠ gb862) ∧ (gb866 ≠ s_.1) ∧ (s_.1 ≠ gb866) ∧ (s_.2 ≠ s_.1) ∧ (s_.1 ≠ s_.2) ∧ (w.heap.size ≤ s_.2) ∧ (w.heap.size ≤ s_.2) ∧ (gb861 ≠ s_.2) ∧ (s_.2 ≠ gb861) ∧ (gb862 ≠ s_.2) ∧ (s_.2 ≠ gb862) ∧ (gb866 ≠ s_.2) ∧ (s_.2 ≠ gb866) ∧ (Below w.heap.size w w')) ?_ ?_
   rotate_left
   ·intro hJ3_5
    refine join_ (σ := Nat × Nat) 4 #[true, true, true, false, true, true, false, false, false] (fun s_ => [(15, .pointer (some ⟨s_.1, 0, none⟩)), (16, .pointer (some ⟨s_.2, 0, none⟩))]) (fun s_ w' => (w'.cell? ⟨gb861, 0, none⟩ = some (.int .i64 (wrap64 (Int.tmod a4 9))) ∧ w'.cell? ⟨gb861, 1, none⟩ = some (.string t857) ∧ w'.cell? ⟨gb861, 2, none⟩ = some (.bool ((Int.tmod a2 2) == 1)) ∧ w'.cell? ⟨gb861, 3, none⟩ = some (.slice Ao26 t858.length co26)) ∧ (Kd.R k43 43 w' w.heap.size (fun k_ => nb (.slice Ao34 y863.length co34) k_ ∧ nb (.slice Ao42 t867.length co42) k_) (.slice Ao26 t858.length co26) t858) ∧ (Kd.R k43 43 w' w.heap.size (fun k_ => nb (.slice Ao26 t858.length co26) k_ ∧ nb (.slice Ao42 t867.length co42) k_) (.slice Ao34 y863.length co34) y863) ∧ (Kd.R k43 43 w' w.heap.size (fun k_ => nb (.slice Ao26 t858.length co26) k_ ∧ nb (.slice Ao34 y863.length co34) k_) (.slice Ao42 t867.length co42) t867) ∧ (w'.heap[gb861]? = some (.cells #[.int .i64 (wrap64 (Int.tmod a4 9)), .string t857, .bool ((Int.tmod a2 2) == 1), .slice Ao26 t858.length co26] 28 (0, 0))) ∧ (w'.heap[gb862]? = some (.cells #[.int .i64 (wrap64 (Int.tmod a4 9)), .string t857, .bool ((Int.tmod a2 2) == 1), .slice Ao34 y863.length co34] 28 (0, 0))) ∧ (w'.heap[gb866]? = some (.cells #[.int .i64 (wrap64 (Int.tmod a4 9)), .string t857, .bool ((Int.tmod a2 2) == 1), .slice Ao42 t867.length co42] 28 (0, 0))) ∧ (w'.heap[s_.1]? = some (.cells #[.int .i64 0, .string (⟨#[]⟩ : ByteArray), .bool false, .slice none 0 0] 28 (0, 0))) ∧ (w'.heap[s_.2]? = some (.cells #[.int .i64 0, .string (⟨#[]⟩ : ByteArray), .bool false, .slice none 0 0] 28 (0, 0))) ∧ (w.heap.size ≤ s_.1) ∧ (w.heap.size ≤ s_.1) ∧ (gb861 ≠ s_.1) ∧ (s_.1 ≠ gb861) ∧ (gb862 ≠ s_.1) ∧ (s_.1 ≠ gb862) ∧ (gb866 ≠ s_.1) ∧ (s_.1 ≠ gb866) ∧ (s_.2 ≠ s_.1) ∧ (s_.1 ≠ s_.2) ∧ (w.heap.size ≤ s_.2) ∧ (w.heap.size ≤ s_.2) ∧ (gb861 ≠ s_.2) ∧ (s_.2 ≠ gb861) ∧ (gb862 ≠ s_.2) ∧ (s_.2 ≠ gb862) ∧ (gb866 ≠ s_.2) ∧ (s_.2 ≠ gb866) ∧ (Below w.heap.size w w')) ?_ ?_
    rotate_left
    ·intro hJ4_5
     refine join_ (σ := Nat) 5 #[true, true, true, true, false, false, false, false, false] (fun s_ => [(14, .pointer (some ⟨s_, 0, none⟩))]) (fun s_ w' => (w'.cell? ⟨gb861, 0, none⟩ = some (.int .i64 (wrap64 (Int.tmod a4 9))) ∧ w'.cell? ⟨gb861, 1, none⟩ = some (.string t857) ∧ w'.cell? ⟨gb861, 2, none⟩ = some (.bool ((Int.tmod a2 2) == 1)) ∧ w'.cell? ⟨gb861, 3, none⟩ = some (.slice Ao26 t858.length co26)) ∧ (Kd.R k43 43 w' w.heap.size (fun k_ => nb (.slice Ao34 y863.length co34) k_ ∧ nb (.slice Ao42 t867.length co42) k_) (.slice Ao26 t858.length co26) t858) ∧ (Kd.R k43 43 w' w.heap.size (fun k_ => nb (.slice Ao26 t858.length co26) k_ ∧ nb (.slice Ao42 t867.length co42) k_) (.slice Ao34 y863.length co34) y863) ∧ (Kd.R k43 43 w' w.heap.size (fun k_ => nb (.slice Ao26 t858.length co26) k_ ∧ nb (.slice Ao34 y863.length co34) k_) (.slice Ao42 t867.length co42) t867) ∧ (w'.heap[gb861]? = some (.cells #[.int .i64 (wrap64 (Int.tmod a4 9)), .string t857, .bool ((Int.tmod a2 2) == 1), .slice Ao26 t858.length co26] 28 (0, 0))) ∧ (w'.heap[gb862]? = some (.cells #[.int .i64 (wrap64 (Int.tmod a4 9)), .string t857, .bool ((Int.tmod a2 2) == 1), .slice Ao34 y863.length co34] 28 (0, 0))) ∧ (w'.heap[gb866]? = some (.cells #[.int .i64 (wrap64 (Int.tmod a4 9)), .string t857, .bool ((Int.tmod a2 2) == 1), .slice Ao42 t867.length co42] 28 (0, 0))) ∧ (w'.heap[s_]? = some (.cells #[.int .i64 0, .string (⟨#[]⟩ : ByteArray), .bool false, .slice none 0 0] 28 (0, 0))) ∧ (w.heap.size ≤ s_) ∧ (w.heap.size ≤ s_) ∧ (gb861 ≠ s_) ∧ (s_ ≠ gb861) ∧ (gb862 ≠ s_) ∧ (s_ ≠ gb862) ∧ (gb866 ≠ s_) ∧ (s_ ≠ gb866) ∧ (Below w.heap.size w w')) ?_ ?_
     rotate_left
     ·intro hJ3
      refine join_ (σ := Nat) 5 #[true, true, true, false, true, false, false, false, false] (fun s_ => [(15, .pointer (some ⟨s_, 0, none⟩))]) (fun s_ w' => (w'.cell? ⟨gb861, 0, none⟩ = some (.int .i64 (wrap64 (Int.tmod a4 9))) ∧ w'.cell? ⟨gb861, 1, none⟩ = some (.string t857) ∧ w'.cell? ⟨gb861, 2, none⟩ = some (.bool ((Int.tmod a2 2) == 1)) ∧ w'.cell? ⟨gb861, 3, none⟩ = some (.slice Ao26 t858.length co26)) ∧ (Kd.R k43 43 w' w.heap.size (fun k_ => nb (.slice Ao34 y863.length co34) k_ ∧ nb (.slice Ao42 t867.length co42) k_) (.slice Ao26 t858.length co26) t858) ∧ (Kd.R k43 43 w' w.heap.size (fun k_ => nb (.slice Ao26 t858.length co26) k_ ∧ nb (.slice Ao42 t867.length co42) k_) (.slice Ao34 y863.length co34) y863) ∧ (Kd.R k43 43 w' w.heap.size (fun k_ => nb (.slice Ao26 t858.length co26) k_ ∧ nb (.slice Ao34 y863.length co34) k_) (.slice Ao42 t867.length co42) t867) ∧ (w'.heap[gb861]? = some (.cells #[.int .i64 (wrap64 (Int.tmod a4 9)), .string t857, .bool ((Int.tmod a2 2) == 1), .slice Ao26 t858.length co26] 28 (0, 0))) ∧ (w'.heap[gb862]? = some (.cells #[.int .i64 (wrap64 (Int.tmod a4 9)), .string t857, .bool ((Int.tmod a2 2) == 1), .slice Ao34 y863.length co34] 28 (0, 0))) ∧ (w'.heap[gb866]? = some (.cells #[.int .i64 (wrap64 (Int.tmod a4 9)), .string t857, .bool ((Int.tmod a2 2) == 1), .slice Ao42 t867.length co42] 28 (0, 0))) ∧ (w'.heap[s_]? = some (.cells #[.int .i64 0, .string (⟨#[]⟩ : ByteArray), .bool false, .slice none 0 0] 28 (0, 0))) ∧ (w.heap.size ≤ s_) ∧ (w.heap.size ≤ s_) ∧ (gb861 ≠ s_) ∧ (s_ ≠ gb861) ∧ (gb862 ≠ s_) ∧ (s_ ≠ gb862) ∧ (gb866 ≠ s_) ∧ (s_ ≠ gb866) ∧ (Below w.heap.size w w')) ?_ ?_
      rotate_left
      ·intro hJ4
       refine join_ (σ := Nat) 5 #[true, true, true, false, false, true, false, false, false] (fun s_ => [(16, .pointer (some ⟨s_, 0, none⟩))]) (fun s_ w' => (w'.cell? ⟨gb861, 0, none⟩ = some (.int .i64 (wrap64 (Int.tmod a4 9))) ∧ w'.cell? ⟨gb861, 1, none⟩ = some (.string t857) ∧ w'.cell? ⟨gb861, 2, none⟩ = some (.bool ((Int.tmod a2 2) == 1)) ∧ w'.cell? ⟨gb861, 3, none⟩ = some (.slice Ao26 t858.length co26)) ∧ (Kd.R k43 43 w' w.heap.size (fun k_ => nb (.slice Ao34 y863.length co34) k_ ∧ nb (.slice Ao42 t867.length co42) k_) (.slice Ao26 t858.length co26) t858) ∧ (Kd.R k43 43 w' w.heap.size (fun k_ => nb (.slice Ao26 t858.length co26) k_ ∧ nb (.slice Ao42 t867.length co42) k_) (.slice Ao34 y863.length co34) y863) ∧ (Kd.R k43 43 w' w.heap.size (fun k_ => nb (.slice Ao26 t858.length co26) k_ ∧ nb (.slice Ao34 y863.length co34) k_) (.slice Ao42 t867.length co42) t867) ∧ (w'.heap[gb861]? = some (.cells #[.int .i64 (wrap64 (Int.tmod a4 9)), .string t857, .bool ((Int.tmod a2 2) == 1), .slice Ao26 t858.length co26] 28 (0, 0))) ∧ (w'.heap[gb862]? = some (.cells #[.int .i64 (wrap64 (Int.tmod a4 9)), .string t857, .bool ((Int.tmod a2 2) == 1), .slice Ao34 y863.length co34] 28 (0, 0))) ∧ (w'.heap[gb866]? = some (.cells #[.int .i64 (wrap64 (Int.tmod a4 9)), .string t857, .bool ((Int.tmod a2 2) == 1), .slice Ao42 t867.length co42] 28 (0, 0))) ∧ (w'.heap[s_]? = some (.cells #[.int .i64 0, .string (⟨#[]⟩ : ByteArray), .bool false, .slice none 0 0] 28 (0, 0))) ∧ (w.heap.size ≤ s_) ∧ (w.heap.size ≤ s_) ∧ (gb861 ≠ s_) ∧ (s_ ≠ gb861) ∧ (gb862 ≠ s_) ∧ (s_ ≠ gb862) ∧ (gb866 ≠ s_) ∧ (s_ ≠ gb866) ∧ (Below w.heap.size w w')) ?_ ?_
       rotate_left
       ·intro hJ5
        refine three_ (i := 3) (j := 4) (k := 5) (Ni := some 14) (Nj := some 15) (Nk := some 16) #[true, true, true, true, false, false, false, false, false] #[true, true, true, false, true, false, false, false, false] #[true, true, true, false, false, true, false, false, false] rfl rfl rfl rfl rfl rfl (three_of HT_.out (by kernel_rfl)) (by decide) (by decide) (by decide) (fun K hK => ?_) (fun K hK => ?_) (fun K hK => ?_)
        ·skip
         refine box_step ?hg (N := 14) ?hd (cs := #[.int .i64 0, .string (⟨#[]⟩ : ByteArray), .bool false, .slice none 0 0]) (t := 28) ?hr ?_; (case hd => rfl); (case hg => rfl); (case hr => first | (go_simp; done) | (go_simp; rfl))
         intro gb870 hg w46 hbox hb
         have n0_ := Aside0.mk (Kd.R_below HO860.out hb)
         have n1_ := Aside0.mk (Kd.R_below HO865.out hb)
         have n2_ := Aside0.mk (Kd.R_below HO869.out hb)
         have n3_ := Aside0.mk (blk_below (g := gb861) (o := .cells #[.int .i64 (wrap64 (Int.tmod a4 9)), .string t857, .bool ((Int.tmod a2 2) == 1), .slice Ao26 t858.length co26] 28 (0, 0)) BK861.out hb)
         have n4_ := Aside0.mk (blk_below (g := gb862) (o := .cells #[.int .i64 (wrap64 (Int.tmod a4 9)), .string t857, .bool ((Int.tmod a2 2) == 1), .slice Ao34 y863.length co34] 28 (0, 0)) BK862.out hb)
         have n5_ := Aside0.mk (blk_below (g := gb866) (o := .cells #[.int .i64 (wrap64 (Int.tmod a4 9)), .string t857, .bool ((Int.tmod a2 2) == 1), .slice Ao42 t867.length co42] 28 (0, 0)) BK866.out hb)
         have n6_ := Aside0.mk (below_step HB.out hb)
         have n7_ := Aside0.mk (hbox)
         have n8_ := Aside0.mk ((by rw [hg]; exact (below_size HB.out) : w.heap.size ≤ gb870))
         have n9_ := Aside0.mk ((by rw [hg]; exact (below_size HB.out) : w.heap.size ≤ gb870))
         have n10_ := Aside0.mk ((by rw [hg]; exact Nat.ne_of_lt (blk_lt (g := gb861) (o := .cells #[.int .i64 (wrap64 (Int.tmod a4 9)), .string t857, .bool ((Int.tmod a2 2) == 1), .slice Ao26 t858.length co26] 28 (0, 0)) BK861.out) : gb861 ≠ gb870))
         have n11_ := Aside0.mk ((by rw [hg]; exact Nat.ne_of_gt (blk_lt (g := gb861) (o := .cells #[.int .i64 (wrap64 (Int.tmod a4 9)), .string t857, .bool ((Int.tmod a2 2) == 1), .slice Ao26 t858.length co26] 28 (0, 0)) BK861.out) : gb870 ≠ gb861))
         have n12_ := Aside0.mk ((by rw [hg]; exact Nat.ne_of_lt (blk_lt (g := gb862) (o := .cells #[.int .i64 (wrap64 (Int.tmod a4 9)), .string t857, .bool ((Int.tmod a2 2) == 1), .slice Ao34 y863.length co34] 28 (0, 0)) BK862.out) : gb862 ≠ gb870))
         have n13_ := Aside0.mk ((by rw [hg]; exact Nat.ne_of_gt (blk_lt (g := gb862) (o := .cells #[.int .i64 (wrap64 (Int.tmod a4 9)), .string t857, .bool ((Int.tmod a2 2) == 1), .slice Ao34 y863.length co34] 28 (0, 0)) BK862.out) : gb870 ≠ gb862))
         have n14_ := Aside0.mk ((by rw [hg]; exact Nat.ne_of_lt (blk_lt (g := gb866) (o := .cells #[.int .i64 (wrap64 (Int.tmod a4 9)), .string t857, .bool ((Int.tmod a2 2) == 1), .slice Ao42 t867.length co42] 28 (0, 0)) BK866.out) : gb866 ≠ gb870))
         have n15_ := Aside0.mk ((by rw [hg]; exact Nat.ne_of_gt (blk_lt (g := gb866) (o := .cells #[.int .i64 (wrap64 (Int.tmod a4 9)), .string t857, .bool ((Int.tmod a2 2) == 1), .slice Ao42 t867.length co42] 28 (0, 0)) BK866.out) : gb870 ≠ gb866))
         clear HO860
         clear HO865
         clear HO869
         clear BK861
         clear BK862
         clear BK866
         clear HB
         have HO860 := n0_
         have HO865 := n1_
         have HO869 := n2_
         have BK861 := n3_
         have BK862 := n4_
         have BK866 := n5_
         have HB := n6_
         have BK870 := n7_
         have GW870 := n8_
         have GE870 := n9_
         have NB861_870 := n10_
         have NB870_861 := n11_
         have NB862_870 := n12_
         have NB870_862 := n13_
         have NB866_870 := n14_
         have NB870_866 := n15_
         clear n0_ n1_ n2_ n3_ n4_ n5_ n6_ n7_ n8_ n9_ n10_ n11_ n12_ n13_ n14_ n15_
         clear hb hbox hg
         refine hK.out _ _ ⟨(blk_cell BK861.out 0).trans rfl, (blk_cell BK861.out 1).trans rfl, (blk_cell BK861.out 2).trans rfl, (blk_cell BK861.out 3).trans rfl⟩ (fun hHeld => ?_)
         clear hK K
         refine norm_ (a' := ?_) ?_ ?_
         rotate_left
         ·show Act.put _ (some 14) _ = _
          simp only [Act.put, List.setIfInBounds_toArray, List.set_cons_zero, List.set_cons_succ, i64_w, i32_w]
          rfl
         exact norm_ (by simp only [putAll, Act.put, List.setIfInBounds_toArray, List.set_cons_zero, List.set_cons_succ]; first | done | rfl) (hJ3 (gb870) _ ⟨hHeld, HO860.out, HO865.out, HO869.out, BK861.out, BK862.out, BK866.out, BK870.out, GW870.out, GE870.out, NB861_870.out, NB870_861.out, NB862_870.out, NB870_862.out, NB866_870.out, NB870_866.out, HB.out⟩)
        ·skip
         refine box_step ?hg (N := 15) ?hd (cs := #[.int .i64 0, .string (⟨#[]⟩ : ByteArray), .bool false, .slice none 0 0]) (t := 28) ?hr ?_; (case hd => rfl); (case hg => rfl); (case hr => first | (go_simp; done) | (go_simp; rfl))
         intro gb871 hg w46 hbox hb
         have n0_ := Aside0.mk (Kd.R_below HO860.out hb)
         have n1_ := Aside0.mk (Kd.R_below HO865.out hb)
         have n2_ := Aside0.mk (Kd.R_below HO869.out hb)
         have n3_ := Aside0.mk (blk_below (g := gb861) (o := .cells #[.int .i64 (wrap64 (Int.tmod a4 9)), .string t857, .bool ((Int.tmod a2 2) == 1), .slice Ao26 t858.length co26] 28 (0, 0)) BK861.out hb)
         have n4_ := Aside0.mk (blk_below (g := gb862) (o := .cells #[.int .i64 (wrap64 (Int.tmod a4 9)), .string t857, .bool ((Int.tmod a2 2) == 1), .slice Ao34 y863.length co34] 28 (0, 0)) BK862.out hb)
         have n5_ := Aside0.mk (blk_below (g := gb866) (o := .cells #[.int .i64 (wrap64 (Int.tmod a4 9)), .string t857, .bool ((Int.tmod a2 2) == 1), .slice Ao42 t867.length co42] 28 (0, 0)) BK866.out hb)
         have n6_ := Aside0.mk (below_step HB.out hb)
         have n7_ := Aside0.mk (hbox)
         have n8_ := Aside0.mk ((by rw [hg]; exact (below_size HB.out) : w.heap.size ≤ gb871))
         have n9_ := Aside0.mk ((by rw [hg]; exact (below_size HB.out) : w.heap.size ≤ gb871))
         have n10_ := Aside0.mk ((by rw [hg]; exact Nat.ne_of_lt (blk_lt (g := gb861) (o := .cells #[.int .i64 (wrap64 (Int.tmod a4 9)), .string t857, .bool ((Int.tmod a2 2) == 1), .slice Ao26 t858.length co26] 28 (0, 0)) BK861.out) : gb861 ≠ gb871))
         have n11_ := Aside0.mk ((by rw [hg]; exact Nat.ne_of_gt (blk_lt (g := gb861) (o := .cells #[.int .i64 (wrap64 (Int.tmod a4 9)), .string t857, .bool ((Int.tmod a2 2) == 1), .slice Ao26 t858.length co26] 28 (0, 0)) BK861.out) : gb871 ≠ gb861))
         have n12_ := Aside0.mk ((by rw [hg]; exact Nat.ne_of_lt (blk_lt (g := gb862) (o := .cells #[.int .i64 (wrap64 (Int.tmod a4 9)), .string t857, .bool ((Int.tmod a2 2) == 1), .slice Ao34 y863.length co34] 28 (0, 0)) BK862.out) : gb862 ≠ gb871))
         have n13_ := Aside0.mk ((by rw [hg]; exact Nat.ne_of_gt (blk_lt (g := gb862) (o := .cells #[.int .i64 (wrap64 (Int.tmod a4 9)), .string t857, .bool ((Int.tmod a2 2) == 1), .slice Ao34 y863.length co34] 28 (0, 0)) BK862.out) : gb871 ≠ gb862))
         have n14_ := Aside0.mk ((by rw [hg]; exact Nat.ne_of_lt (blk_lt (g := gb866) (o := .cells #[.int .i64 (wrap64 (Int.tmod a4 9)), .string t857, .bool ((Int.tmod a2 2) == 1), .slice Ao42 t867.length co42] 28 (0, 0)) BK866.out) : gb866 ≠ gb871))
         have n15_ := Aside0.mk ((by rw [hg]; exact Nat.ne_of_gt (blk_lt (g := gb866) (o := .cells #[.int .i64 (wrap64 (Int.tmod a4 9)), .string t857, .bool ((Int.tmod a2 2) == 1), .slice Ao42 t867.length co42] 28 (0, 0)) BK866.out) : gb871 ≠ gb866))
         clear HO860
         clear HO865
         clear HO869
         clear BK861
         clear BK862
         clear BK866
         clear HB
         have HO860 := n0_
         have HO865 := n1_
         have HO869 := n2_
         have BK861 := n3_
         have BK862 := n4_
         have BK866 := n5_
         have HB := n6_
         have BK871 := n7_
         have GW871 := n8_
         have GE871 := n9_
         have NB861_871 := n10_
         have NB871_861 := n11_
         have NB862_871 := n12_
         have NB871_862 := n13_
         have NB866_871 := n14_
         have NB871_866 := n15_
         clear n0_ n1_ n2_ n3_ n4_ n5_ n6_ n7_ n8_ n9_ n10_ n11_ n12_ n13_ n14_ n15_
         clear hb hbox hg
         refine hK.out _ _ ⟨(blk_cell BK861.out 0).trans rfl, (blk_cell BK861.out 1).trans rfl, (blk_cell BK861.out 2).trans rfl, (blk_cell BK861.out 3).trans rfl⟩ (fun hHeld => ?_)
         clear hK K
         refine norm_ (a' := ?_) ?_ ?_
         rotate_left
         ·show Act.put _ (some 15) _ = _
          simp only [Act.put, List.setIfInBounds_toArray, List.set_cons_zero, List.set_cons_succ, i64_w, i32_w]
          rfl
         exact norm_ (by simp only [putAll, Act.put, List.setIfInBounds_toArray, List.set_cons_zero, List.set_cons_succ]; first | done | rfl) (hJ4 (gb871) _ ⟨hHeld, HO860.out, HO865.out, HO869.out, BK861.out, BK862.out, BK866.out, BK871.out, GW871.out, GE871.out, NB861_871.out, NB871_861.out, NB862_871.out, NB871_862.out, NB866_871.out, NB871_866.out, HB.out⟩)
        ·skip
         refine box_step ?hg (N := 16) ?hd (cs := #[.int .i64 0, .string (⟨#[]⟩ : ByteArray), .bool false, .slice none 0 0]) (t := 28) ?hr ?_; (case hd => rfl); (case hg => rfl); (case hr => first | (go_simp; done) | (go_simp; rfl))
         intro gb872 hg w46 hbox hb
         have n0_ := Aside0.mk (Kd.R_below HO860.out hb)
         have n1_ := Aside0.mk (Kd.R_below HO865.out hb)
         have n2_ := Aside0.mk (Kd.R_below HO869.out hb)
         have n3_ := Aside0.mk (blk_below (g := gb861) (o := .cells #[.int .i64 (wrap64 (Int.tmod a4 9)), .string t857, .bool ((Int.tmod a2 2) == 1), .slice Ao26 t858.length co26] 28 (0, 0)) BK861.out hb)
         have n4_ := Aside0.mk (blk_below (g := gb862) (o := .cells #[.int .i64 (wrap64 (Int.tmod a4 9)), .string t857, .bool ((Int.tmod a2 2) == 1), .slice Ao34 y863.length co34] 28 (0, 0)) BK862.out hb)
         have n5_ := Aside0.mk (blk_below (g := gb866) (o := .cells #[.int .i64 (wrap64 (Int.tmod a4 9)), .string t857, .bool ((Int.tmod a2 2) == 1), .slice Ao42 t867.length co42] 28 (0, 0)) BK866.out hb)
         have n6_ := Aside0.mk (below_step HB.out hb)
         have n7_ := Aside0.mk (hbox)
         have n8_ := Aside0.mk ((by rw [hg]; exact (below_size HB.out) : w.heap.size ≤ gb872))
         have n9_ := Aside0.mk ((by rw [hg]; exact (below_size HB.out) : w.heap.size ≤ gb872))
         have n10_ := Aside0.mk ((by rw [hg]; exact Nat.ne_of_lt (blk_lt (g := gb861) (o := .cells #[.int .i64 (wrap64 (Int.tmod a4 9)), .string t857, .bool ((Int.tmod a2 2) == 1), .slice Ao26 t858.length co26] 28 (0, 0)) BK861.out) : gb861 ≠ gb872))
         have n11_ := Aside0.mk ((by rw [hg]; exact Nat.ne_of_gt (blk_lt (g := gb861) (o := .cells #[.int .i64 (wrap64 (Int.tmod a4 9)), .string t857, .bool ((Int.tmod a2 2) == 1), .slice Ao26 t858.length co26] 28 (0, 0)) BK861.out) : gb872 ≠ gb861))
         have n12_ := Aside0.mk ((by rw [hg]; exact Nat.ne_of_lt (blk_lt (g := gb862) (o := .cells #[.int .i64 (wrap64 (Int.tmod a4 9)), .string t857, .bool ((Int.tmod a2 2) == 1), .slice Ao34 y863.length co34] 28 (0, 0)) BK862.out) : gb862 ≠ gb872))
         have n13_ := Aside0.mk ((by rw [hg]; exact Nat.ne_of_gt (blk_lt (g := gb862) (o := .cells #[.int .i64 (wrap64 (Int.tmod a4 9)), .string t857, .bool ((Int.tmod a2 2) == 1), .slice Ao34 y863.length co34] 28 (0, 0)) BK862.out) : gb872 ≠ gb862))
         have n14_ := Aside0.mk ((by rw [hg]; exact Nat.ne_of_lt (blk_lt (g := gb866) (o := .cells #[.int .i64 (wrap64 (Int.tmod a4 9)), .string t857, .bool ((Int.tmod a2 2) == 1), .slice Ao42 t867.length co42] 28 (0, 0)) BK866.out) : gb866 ≠ gb872))
         have n15_ := Aside0.mk ((by rw [hg]; exact Nat.ne_of_gt (blk_lt (g := gb866) (o := .cells #[.int .i64 (wrap64 (Int.tmod a4 9)), .string t857, .bool ((Int.tmod a2 2) == 1), .slice Ao42 t867.length co42] 28 (0, 0)) BK866.out) : gb872 ≠ gb866))
         clear HO860
         clear HO865
         clear HO869
         clear BK861
         clear BK862
         clear BK866
         clear HB
         have HO860 := n0_
         have HO865 := n1_
         have HO869 := n2_
         have BK861 := n3_
         have BK862 := n4_
         have BK866 := n5_
         have HB := n6_
         have BK872 := n7_
         have GW872 := n8_
         have GE872 := n9_
         have NB861_872 := n10_
         have NB872_861 := n11_
         have NB862_872 := n12_
         have NB872_862 := n13_
         have NB866_872 := n14_
         have NB872_866 := n15_
         clear n0_ n1_ n2_ n3_ n4_ n5_ n6_ n7_ n8_ n9_ n10_ n11_ n12_ n13_ n14_ n15_
         clear hb hbox hg
         refine hK.out _ _ ⟨(blk_cell BK861.out 0).trans rfl, (blk_cell BK861.out 1).trans rfl, (blk_cell BK861.out 2).trans rfl, (blk_cell BK861.out 3).trans rfl⟩ (fun hHeld => ?_)
         clear hK K
         refine norm_ (a' := ?_) ?_ ?_
         rotate_left
         ·show Act.put _ (some 16) _ = _
          simp only [Act.put, List.setIfInBounds_toArray, List.set_cons_zero, List.set_cons_succ, i64_w, i32_w]
          rfl
         exact norm_ (by simp only [putAll, Act.put, List.setIfInBounds_toArray, List.set_cons_zero, List.set_cons_succ]; first | done | rfl) (hJ5 (gb872) _ ⟨hHeld, HO860.out, HO865.out, HO869.out, BK861.out, BK862.out, BK866.out, BK872.out, GW872.out, GE872.out, NB861_872.out, NB872_861.out, NB862_872.out, NB872_862.out, NB866_872.out, NB872_866.out, HB.out⟩)
       ·skip
        rintro gb872 w47 ⟨hS_, h0_, h1_, h2_, h3_, h4_, h5_, h6_, h7_, h8_, h9_, h10_, h11_, h12_, h13_, h14_, h15_⟩
        have n0_ : Aside0 (Kd.R k43 43 w47 w.heap.size (fun k_ => nb (.slice Ao34 y863.length co34) k_ ∧ nb (.slice Ao42 t867.length co42) k_) (.slice Ao26 t858.length co26) t858) := ⟨h0_⟩
        have n1_ : Aside0 (Kd.R k43 43 w47 w.heap.size (fun k_ => nb (.slice Ao26 t858.length co26) k_ ∧ nb (.slice Ao42 t867.length co42) k_) (.slice Ao34 y863.length co34) y863) := ⟨h1_⟩
        have n2_ : Aside0 (Kd.R k43 43 w47 w.heap.size (fun k_ => nb (.slice Ao26 t858.length co26) k_ ∧ nb (.slice Ao34 y863.length co34) k_) (.slice Ao42 t867.length co42) t867) := ⟨h2_⟩
        have n3_ : Aside0 (w47.heap[gb861]? = some (.cells #[.int .i64 (wrap64 (Int.tmod a4 9)), .string t857, .bool ((Int.tmod a2 2) == 1), .slice Ao26 t858.length co26] 28 (0, 0))) := ⟨h3_⟩
        have n4_ : Aside0 (w47.heap[gb862]? = some (.cells #[.int .i64 (wrap64 (Int.tmod a4 9)), .string t857, .bool ((Int.tmod a2 2) == 1), .slice Ao34 y863.length co34] 28 (0, 0))) := ⟨h4_⟩
        have n5_ : Aside0 (w47.heap[gb866]? = some (.cells #[.int .i64 (wrap64 (Int.tmod a4 9)), .string t857, .bool ((Int.tmod a2 2) == 1), .slice Ao42 t867.length co42] 28 (0, 0))) := ⟨h5_⟩
        have n6_ : Aside0 (w47.heap[gb872]? = some (.cells #[.int .i64 0, .string (⟨#[]⟩ : ByteArray), .bool false, .slice none 0 0] 28 (0, 0))) := ⟨h6_⟩
        have n7_ : Aside0 (w.heap.size ≤ gb872) := ⟨h7_⟩
        have n8_ : Aside0 (w.heap.size ≤ gb872) := ⟨h8_⟩
        have n9_ : Aside0 (gb861 ≠ gb872) := ⟨h9_⟩
        have n10_ : Aside0 (gb872 ≠ gb861) := ⟨h10_⟩
        have n11_ : Aside0 (gb862 ≠ gb872) := ⟨h11_⟩
        have n12_ : Aside0 (gb872 ≠ gb862) := ⟨h12_⟩
        have n13_ : Aside0 (gb866 ≠ gb872) := ⟨h13_⟩
        have n14_ : Aside0 (gb872 ≠ gb866) := ⟨h14_⟩
        have n15_ : Aside0 (Below w.heap.size w w47) := ⟨h15_⟩
        clear HO860
        clear HO865
        clear HO869
        clear BK861
        clear BK862
        clear BK866
        clear HB
        clear h0_ h1_ h2_ h3_ h4_ h5_ h6_ h7_ h8_ h9_ h10_ h11_ h12_ h13_ h14_ h15_
        have HO860 := n0_
        have HO865 := n1_
        have HO869 := n2_
        have BK861 := n3_
        have BK862 := n4_
        have BK866 := n5_
        have BK872 := n6_
        have GW872 := n7_
        have GE872 := n8_
        have NB861_872 := n9_
        have NB872_861 := n10_
        have NB862_872 := n11_
        have NB872_862 := n12_
        have NB866_872 := n13_
        have NB872_866 := n14_
        have HB := n15_
        clear n0_ n1_ n2_ n3_ n4_ n5_ n6_ n7_ n8_ n9_ n10_ n11_ n12_ n13_ n14_ n15_
        have hHeld : w47.cell? ⟨gb861, 0, none⟩ = some (.int .i64 (wrap64 (Int.tmod a4 9))) ∧ w47.cell? ⟨gb861, 1, none⟩ = some (.string t857) ∧ w47.cell? ⟨gb861, 2, none⟩ = some (.bool ((Int.tmod a2 2) == 1)) ∧ w47.cell? ⟨gb861, 3, none⟩ = some (.slice Ao26 t858.length co26) := hS_
        refine norm_ (a' := ?_) ?_ ?_
        rotate_left
        ·simp only [putAll, Act.put, List.setIfInBounds_toArray, List.set_cons_zero, List.set_cons_succ]
         rfl
        refine two_ (i := 3) (j := 4) (Ni := some 14) (Nj := some 15) #[true, true, true, true, false, true, false, false, false] #[true, true, true, false, true, true, false, false, false] rfl rfl rfl rfl (two_of HT_.out (by kernel_rfl)) (by decide) (by decide) (fun K hK => ?_) (fun K hK => ?_)
        ·skip
         refine box_step ?hg (N := 14) ?hd (cs := #[.int .i64 0, .string (⟨#[]⟩ : ByteArray), .bool false, .slice none 0 0]) (t := 28) ?hr ?_; (case hd => rfl); (case hg => rfl); (case hr => first | (go_simp; done) | (go_simp; rfl))
         intro gb870 hg w48 hbox hb
         have n0_ := Aside0.mk (Kd.R_below HO860.out hb)
         have n1_ := Aside0.mk (Kd.R_below HO865.out hb)
         have n2_ := Aside0.mk (Kd.R_below HO869.out hb)
         have n3_ := Aside0.mk (blk_below (g := gb861) (o := .cells #[.int .i64 (wrap64 (Int.tmod a4 9)), .string t857, .bool ((Int.tmod a2 2) == 1), .slice Ao26 t858.length co26] 28 (0, 0)) BK861.out hb)
         have n4_ := Aside0.mk (blk_below (g := gb862) (o := .cells #[.int .i64 (wrap64 (Int.tmod a4 9)), .string t857, .bool ((Int.tmod a2 2) == 1), .slice Ao34 y863.length co34] 28 (0, 0)) BK862.out hb)
         have n5_ := Aside0.mk (blk_below (g := gb866) (o := .cells #[.int .i64 (wrap64 (Int.tmod a4 9)), .string t857, .bool ((Int.tmod a2 2) == 1), .slice Ao42 t867.length co42] 28 (0, 0)) BK866.out hb)
         have n6_ := Aside0.mk (blk_below (g := gb872) (o := .cells #[.int .i64 0, .string (⟨#[]⟩ : ByteArray), .bool false, .slice none 0 0] 28 (0, 0)) BK872.out hb)
         have n7_ := Aside0.mk (below_step HB.out hb)
         have n8_ := Aside0.mk (hbox)
         have n9_ := Aside0.mk ((by rw [hg]; exact (below_size HB.out) : w.heap.size ≤ gb870))
         have n10_ := Aside0.mk ((by rw [hg]; exact (below_size HB.out) : w.heap.size ≤ gb870))
         have n11_ := Aside0.mk ((by rw [hg]; exact Nat.ne_of_lt (blk_lt (g := gb861) (o := .cells #[.int .i64 (wrap64 (Int.tmod a4 9)), .string t857, .bool ((Int.tmod a2 2) == 1), .slice Ao26 t858.length co26] 28 (0, 0)) BK861.out) : gb861 ≠ gb870))
         have n12_ := Aside0.mk ((by rw [hg]; exact Nat.ne_of_gt (blk_lt (g := gb861) (o := .cells #[.int .i64 (wrap64 (Int.tmod a4 9)), .string t857, .bool ((Int.tmod a2 2) == 1), .slice Ao26 t858.length co26] 28 (0, 0)) BK861.out) : gb870 ≠ gb861))
         have n13_ := Aside0.mk ((by rw [hg]; exact Nat.ne_of_lt (blk_lt (g := gb862) (o := .cells #[.int .i64 (wrap64 (Int.tmod a4 9)), .string t857, .bool ((Int.tmod a2 2) == 1), .slice Ao34 y863.length co34] 28 (0, 0)) BK862.out) : gb862 ≠ gb870))
         have n14_ := Aside0.mk ((by rw [hg]; exact Nat.ne_of_gt (blk_lt (g := gb862) (o := .cells #[.int .i64 (wrap64 (Int.tmod a4 9)), .string t857, .bool ((Int.tmod a2 2) == 1), .slice Ao34 y863.length co34] 28 (0, 0)) BK862.out) : gb870 ≠ gb862))
         have n15_ := Aside0.mk ((by rw [hg]; exact Nat.ne_of_lt (blk_lt (g := gb866) (o := .cells #[.int .i64 (wrap64 (Int.tmod a4 9)), .string t857, .bool ((Int.tmod a2 2) == 1), .slice Ao42 t867.length co42] 28 (0, 0)) BK866.out) : gb866 ≠ gb870))
         have n16_ := Aside0.mk ((by rw [hg]; exact Nat.ne_of_gt (blk_lt (g := gb866) (o := .cells #[.int .i64 (wrap64 (Int.tmod a4 9)), .string t857, .bool ((Int.tmod a2 2) == 1), .slice Ao42 t867.length co42] 28 (0, 0)) BK866.out) : gb870 ≠ gb866))
         have n17_ := Aside0.mk ((by rw [hg]; exact Nat.ne_of_lt (blk_lt (g := gb872) (o := .cells #[.int .i64 0, .string (⟨#[]⟩ : ByteArray), .bool false, .slice none 0 0] 28 (0, 0)) BK872.out) : gb872 ≠ gb870))
         have n18_ := Aside0.mk ((by rw [hg]; exact Nat.ne_of_gt (blk_lt (g := gb872) (o := .cells #[.int .i64 0, .string (⟨#[]⟩ : ByteArray), .bool false, .slice none 0 0] 28 (0, 0)) BK872.out) : gb870 ≠ gb872))
         clear HO860
         clear HO865
         clear HO869
         clear BK861
         clear BK862
         clear BK866
         clear BK872
         clear HB
         have HO860 := n0_
         have HO865 := n1_
         have HO869 := n2_
         have BK861 := n3_
         have BK862 := n4_
         have BK866 := n5_
         have BK872 := n6_
         have HB := n7_
         have BK870 := n8_
         have GW870 := n9_
         have GE870 := n10_
         have NB861_870 := n11_
         have NB870_861 := n12_
         have NB862_870 := n13_
         have NB870_862 := n14_
         have NB866_870 := n15_
         have NB870_866 := n16_
         have NB872_870 := n17_
         have NB870_872 := n18_
         clear n0_ n1_ n2_ n3_ n4_ n5_ n6_ n7_ n8_ n9_ n10_ n11_ n12_ n13_ n14_ n15_ n16_ n17_ n18_
         clear hb hbox hg
         refine hK.out _ _ ⟨(blk_cell BK861.out 0).trans rfl, (blk_cell BK861.out 1).trans rfl, (blk_cell BK861.out 2).trans rfl, (blk_cell BK861.out 3).trans rfl⟩ (fun hHeld => ?_)
         clear hK K
         refine norm_ (a' := ?_) ?_ ?_
         rotate_left
         ·show Act.put _ (some 14) _ = _
          simp only [Act.put, List.setIfInBounds_toArray, List.set_cons_zero, List.set_cons_succ, i64_w, i32_w]
          rfl
         exact norm_ (by simp only [putAll, Act.put, List.setIfInBounds_toArray, List.set_cons_zero, List.set_cons_succ]; first | done | rfl) (hJ3_5 (gb870, gb872) _ ⟨hHeld, HO860.out, HO865.out, HO869.out, BK861.out, BK862.out, BK866.out, BK870.out, BK872.out, GW870.out, GE870.out, NB861_870.out, NB870_861.out, NB862_870.out, NB870_862.out, NB866_870.out, NB870_866.out, NB872_870.out, NB870_872.out, GW872.out, GE872.out, NB861_872.out, NB872_861.out, NB862_872.out, NB872_862.out, NB866_872.out, NB872_866.out, HB.out⟩)
        ·skip
         refine box_step ?hg (N := 15) ?hd (cs := #[.int .i64 0, .string (⟨#[]⟩ : ByteArray), .bool false, .slice none 0 0]) (t := 28) ?hr ?_; (case hd => rfl); (case hg => rfl); (case hr => first | (go_simp; done) | (go_simp; rfl))
         intro gb871 hg w48 hbox hb
         have n0_ := Aside0.mk (Kd.R_below HO860.out hb)
         have n1_ := Aside0.mk (Kd.R_below HO865.out hb)
         have n2_ := Aside0.mk (Kd.R_below HO869.out hb)
         have n3_ := Aside0.mk (blk_below (g := gb861) (o := .cells #[.int .i64 (wrap64 (Int.tmod a4 9)), .string t857, .bool ((Int.tmod a2 2) == 1), .slice Ao26 t858.length co26] 28 (0, 0)) BK861.out hb)
         have n4_ := Aside0.mk (blk_below (g := gb862) (o := .cells #[.int .i64 (wrap64 (Int.tmod a4 9)), .string t857, .bool ((Int.tmod a2 2) == 1), .slice Ao34 y863.length co34] 28 (0, 0)) BK862.out hb)
         have n5_ := Aside0.mk (blk_below (g := gb866) (o := .cells #[.int .i64 (wrap64 (Int.tmod a4 9)), .string t857, .bool ((Int.tmod a2 2) == 1), .slice Ao42 t867.length co42] 28 (0, 0)) BK866.out hb)
         have n6_ := Aside0.mk (blk_below (g := gb872) (o := .cells #[.int .i64 0, .string (⟨#[]⟩ : ByteArray), .bool false, .slice none 0 0] 28 (0, 0)) BK872.out hb)
         have n7_ := Aside0.mk (below_step HB.out hb)
         have n8_ := Aside0.mk (hbox)
         have n9_ := Aside0.mk ((by rw [hg]; exact (below_size HB.out) : w.heap.size ≤ gb871))
         have n10_ := Aside0.mk ((by rw [hg]; exact (below_size HB.out) : w.heap.size ≤ gb871))
         have n11_ := Aside0.mk ((by rw [hg]; exact Nat.ne_of_lt (blk_lt (g := gb861) (o := .cells #[.int .i64 (wrap64 (Int.tmod a4 9)), .string t857, .bool ((Int.tmod a2 2) == 1), .slice Ao26 t858.length co26] 28 (0, 0)) BK861.out) : gb861 ≠ gb871))
         have n12_ := Aside0.mk ((by rw [hg]; exact Nat.ne_of_gt (blk_lt (g := gb861) (o := .cells #[.int .i64 (wrap64 (Int.tmod a4 9)), .string t857, .bool ((Int.tmod a2 2) == 1), .slice Ao26 t858.length co26] 28 (0, 0)) BK861.out) : gb871 ≠ gb861))
         have n13_ := Aside0.mk ((by rw [hg]; exact Nat.ne_of_lt (blk_lt (g := gb862) (o := .cells #[.int .i64 (wrap64 (Int.tmod a4 9)), .string t857, .bool ((Int.tmod a2 2) == 1), .slice Ao34 y863.length co34] 28 (0, 0)) BK862.out) : gb862 ≠ gb871))
         have n14_ := Aside0.mk ((by rw [hg]; exact Nat.ne_of_gt (blk_lt (g := gb862) (o := .cells #[.int .i64 (wrap64 (Int.tmod a4 9)), .string t857, .bool ((Int.tmod a2 2) == 1), .slice Ao34 y863.length co34] 28 (0, 0)) BK862.out) : gb871 ≠ gb862))
         have n15_ := Aside0.mk ((by rw [hg]; exact Nat.ne_of_lt (blk_lt (g := gb866) (o := .cells #[.int .i64 (wrap64 (Int.tmod a4 9)), .string t857, .bool ((Int.tmod a2 2) == 1), .slice Ao42 t867.length co42] 28 (0, 0)) BK866.out) : gb866 ≠ gb871))
         have n16_ := Aside0.mk ((by rw [hg]; exact Nat.ne_of_gt (blk_lt (g := gb866) (o := .cells #[.int .i64 (wrap64 (Int.tmod a4 9)), .string t857, .bool ((Int.tmod a2 2) == 1), .slice Ao42 t867.length co42] 28 (0, 0)) BK866.out) : gb871 ≠ gb866))
         have n17_ := Aside0.mk ((by rw [hg]; exact Nat.ne_of_lt (blk_lt (g := gb872) (o := .cells #[.int .i64 0, .string (⟨#[]⟩ : ByteArray), .bool false, .slice none 0 0] 28 (0, 0)) BK872.out) : gb872 ≠ gb871))
         have n18_ := Aside0.mk ((by rw [hg]; exact Nat.ne_of_gt (blk_lt (g := gb872) (o := .cells #[.int .i64 0, .string (⟨#[]⟩ : ByteArray), .bool false, .slice none 0 0] 28 (0, 0)) BK872.out) : gb871 ≠ gb872))
         clear HO860
         clear HO865
         clear HO869
         clear BK861
         clear BK862
         clear BK866
         clear BK872
         clear HB
         have HO860 := n0_
         have HO865 := n1_
         have HO869 := n2_
         have BK861 := n3_
         have BK862 := n4_
         have BK866 := n5_
         have BK872 := n6_
         have HB := n7_
         have BK871 := n8_
         have GW871 := n9_
         have GE871 := n10_
         have NB861_871 := n11_
         have NB871_861 := n12_
         have NB862_871 := n13_
         have NB871_862 := n14_
         have NB866_871 := n15_
         have NB871_866 := n16_
         have NB872_871 := n17_
         have NB871_872 := n18_
         clear n0_ n1_ n2_ n3_ n4_ n5_ n6_ n7_ n8_ n9_ n10_ n11_ n12_ n13_ n14_ n15_ n16_ n17_ n18_
         clear hb hbox hg
         refine hK.out _ _ ⟨(blk_cell BK861.out 0).trans rfl, (blk_cell BK861.out 1).trans rfl, (blk_cell BK861.out 2).trans rfl, (blk_cell BK861.out 3).trans rfl⟩ (fun hHeld => ?_)
         clear hK K
         refine norm_ (a' := ?_) ?_ ?_
         rotate_left
         ·show Act.put _ (some 15) _ = _
          simp only [Act.put, List.setIfInBounds_toArray, List.set_cons_zero, List.set_cons_succ, i64_w, i32_w]
          rfl
         exact norm_ (by simp only [putAll, Act.put, List.setIfInBounds_toArray, List.set_cons_zero, List.set_cons_succ]; first | done | rfl) (hJ4_5 (gb871, gb872) _ ⟨hHeld, HO860.out, HO865.out, HO869.out, BK861.out, BK862.out, BK866.out, BK871.out, BK872.out, GW871.out, GE871.out, NB861_871.out, NB871_861.out, NB862_871.out, NB871_862.out, NB866_871.out, NB871_866.out, NB872_871.out, NB871_872.out, GW872.out, GE872.out, NB861_872.out, NB872_861.out, NB862_872.out, NB872_862.out, NB866_872.out, NB872_866.out, HB.out⟩)
      ·skip
       rintro gb871 w47 ⟨hS_, h0_, h1_, h2_, h3_, h4_, h5_, h6_, h7_, h8_, h9_, h10_, h11_, h12_, h13_, h14_, h15_⟩
       have n0_ : Aside0 (Kd.R k43 43 w47 w.heap.size (fun k_ => nb (.slice Ao34 y863.length co34) k_ ∧ nb (.slice Ao42 t867.length co42) k_) (.slice Ao26 t858.length co26) t858) := ⟨h0_⟩
       have n1_ : Aside0 (Kd.R k43 43 w47 w.heap.size (fun k_ => nb (.slice Ao26 t858.length co26) k_ ∧ nb (.slice Ao42 t867.length co42) k_) (.slice Ao34 y863.length co34) y863) := ⟨h1_⟩
       have n2_ : Aside0 (Kd.R k43 43 w47 w.heap.size (fun k_ => nb (.slice Ao26 t858.length co26) k_ ∧ nb (.slice Ao34 y863.length co34) k_) (.slice Ao42 t867.length co42) t867) := ⟨h2_⟩
       have n3_ : Aside0 (w47.heap[gb861]? = some (.cells #[.int .i64 (wrap64 (Int.tmod a4 9)), .string t857, .bool ((Int.tmod a2 2) == 1), .slice Ao26 t858.length co26] 28 (0, 0))) := ⟨h3_⟩
       have n4_ : Aside0 (w47.heap[gb862]? = some (.cells #[.int .i64 (wrap64 (Int.tmod a4 9)), .string t857, .bool ((Int.tmod a2 2) == 1), .slice Ao34 y863.length co34] 28 (0, 0))) := ⟨h4_⟩
       have n5_ : Aside0 (w47.heap[gb866]? = some (.cells #[.int .i64 (wrap64 (Int.tmod a4 9)), .string t857, .bool ((Int.tmod a2 2) == 1), .slice Ao42 t867.length co42] 28 (0, 0))) := ⟨h5_⟩
       have n6_ : Aside0 (w47.heap[gb871]? = some (.cells #[.int .i64 0, .string (⟨#[]⟩ : ByteArray), .bool false, .slice none 0 0] 28 (0, 0))) := ⟨h6_⟩
       have n7_ : Aside0 (w.heap.size ≤ gb871) := ⟨h7_⟩
       have n8_ : Aside0 (w.heap.size ≤ gb871) := ⟨h8_⟩
       have n9_ : Aside0 (gb861 ≠ gb871) := ⟨h9_⟩
       have n10_ : Aside0 (gb871 ≠ gb861) := ⟨h10_⟩
       have n11_ : Aside0 (gb862 ≠ gb871) := ⟨h11_⟩
       have n12_ : Aside0 (gb871 ≠ gb862) := ⟨h12_⟩
       have n13_ : Aside0 (gb866 ≠ gb871) := ⟨h13_⟩
       have n14_ : Aside0 (gb871 ≠ gb866) := ⟨h14_⟩
       have n15_ : Aside0 (Below w.heap.size w w47) := ⟨h15_⟩
       clear HO860
       clear HO865
       clear HO869
       clear BK861
       clear BK862
       clear BK866
       clear HB
       clear h0_ h1_ h2_ h3_ h4_ h5_ h6_ h7_ h8_ h9_ h10_ h11_ h12_ h13_ h14_ h15_
       have HO860 := n0_
       have HO865 := n1_
       have HO869 := n2_
       have BK861 := n3_
       have BK862 := n4_
       have BK866 := n5_
       have BK871 := n6_
       have GW871 := n7_
       have GE871 := n8_
       have NB861_871 := n9_
       have NB871_861 := n10_
       have NB862_871 := n11_
       have NB871_862 := n12_
       have NB866_871 := n13_
       have NB871_866 := n14_
       have HB := n15_
       clear n0_ n1_ n2_ n3_ n4_ n5_ n6_ n7_ n8_ n9_ n10_ n11_ n12_ n13_ n14_ n15_
       have hHeld : w47.cell? ⟨gb861, 0, none⟩ = some (.int .i64 (wrap64 (Int.tmod a4 9))) ∧ w47.cell? ⟨gb861, 1, none⟩ = some (.string t857) ∧ w47.cell? ⟨gb861, 2, none⟩ = some (.bool ((Int.tmod a2 2) == 1)) ∧ w47.cell? ⟨gb861, 3, none⟩ = some (.slice Ao26 t858.length co26) := hS_
       refine norm_ (a' := ?_) ?_ ?_
       rotate_left
       ·simp only [putAll, Act.put, List.setIfInBounds_toArray, List.set_cons_zero, List.set_cons_succ]
        rfl
       refine two_ (i := 3) (j := 5) (Ni := some 14) (Nj := some 16) #[true, true, true, true, true, false, false, false, false] #[true, true, true, false, true, true, false, false, false] rfl rfl rfl rfl (two_of HT_.out (by kernel_rfl)) (by decide) (by decide) (fun K hK => ?_) (fun K hK => ?_)
       ·skip
        refine box_step ?hg (N := 14) ?hd (cs := #[.int .i64 0, .string (⟨#[]⟩ : ByteArray), .bool false, .slice none 0 0]) (t := 28) ?hr ?_; (case hd => rfl); (case hg => rfl); (case hr => first | (go_simp; done) | (go_simp; rfl))
        intro gb870 hg w48 hbox hb
        have n0_ := Aside0.mk (Kd.R_below HO860.out hb)
        have n1_ := Aside0.mk (Kd.R_below HO865.out hb)
        have n2_ := Aside0.mk (Kd.R_below HO869.out hb)
        have n3_ := Aside0.mk (blk_below (g := gb861) (o := .cells #[.int .i64 (wrap64 (Int.tmod a4 9)), .string t857, .bool ((Int.tmod a2 2) == 1), .slice Ao26 t858.length co26] 28 (0, 0)) BK861.out hb)
        have n4_ := Aside0.mk (blk_below (g := gb862) (o := .cells #[.int .i64 (wrap64 (Int.tmod a4 9)), .string t857, .bool ((Int.tmod a2 2) == 1), .slice Ao34 y863.length co34] 28 (0, 0)) BK862.out hb)
        have n5_ := Aside0.mk (blk_below (g := gb866) (o := .cells #[.int .i64 (wrap64 (Int.tmod a4 9)), .string t857, .bool ((Int.tmod a2 2) == 1), .slice Ao42 t867.length co42] 28 (0, 0)) BK866.out hb)
        have n6_ := Aside0.mk (blk_below (g := gb871) (o := .cells #[.int .i64 0, .string (⟨#[]⟩ : ByteArray), .bool false, .slice none 0 0] 28 (0, 0)) BK871.out hb)
        have n7_ := Aside0.mk (below_step HB.out hb)
        have n8_ := Aside0.mk (hbox)
        have n9_ := Aside0.mk ((by rw [hg]; exact (below_size HB.out) : w.heap.size ≤ gb870))
        have n10_ := Aside0.mk ((by rw [hg]; exact (below_size HB.out) : w.heap.size ≤ gb870))
        have n11_ := Aside0.mk ((by rw [hg]; exact Nat.ne_of_lt (blk_lt (g := gb861) (o := .cells #[.int .i64 (wrap64 (Int.tmod a4 9)), .string t857, .bool ((Int.tmod a2 2) == 1), .slice Ao26 t858.length co26] 28 (0, 0)) BK861.out) : gb861 ≠ gb870))
        have n12_ := Aside0.mk ((by rw [hg]; exact Nat.ne_of_gt (blk_lt (g := gb861) (o := .cells #[.int .i64 (wrap64 (Int.tmod a4 9)), .string t857, .bool ((Int.tmod a2 2) == 1), .slice Ao26 t858.length co26] 28 (0, 0)) BK861.out) : gb870 ≠ gb861))
        have n13_ := Aside0.mk ((by rw [hg]; exact Nat.ne_of_lt (blk_lt (g := gb862) (o := .cells #[.int .i64 (wrap64 (Int.tmod a4 9)), .string t857, .bool ((Int.tmod a2 2) == 1), .slice Ao34 y863.length co34] 28 (0, 0)) BK862.out) : gb862 ≠ gb870))
        have n14_ := Aside0.mk ((by rw [hg]; exact Nat.ne_of_gt (blk_lt (g := gb862) (o := .cells #[.int .i64 (wrap64 (Int.tmod a4 9)), .string t857, .bool ((Int.tmod a2 2) == 1), .slice Ao34 y863.length co34] 28 (0, 0)) BK862.out) : gb870 ≠ gb862))
        have n15_ := Aside0.mk ((by rw [hg]; exact Nat.ne_of_lt (blk_lt (g := gb866) (o := .cells #[.int .i64 (wrap64 (Int.tmod a4 9)), .string t857, .bool ((Int.tmod a2 2) == 1), .slice Ao42 t867.length co42] 28 (0, 0)) BK866.out) : gb866 ≠ gb870))
        have n16_ := Aside0.mk ((by rw [hg]; exact Nat.ne_of_gt (blk_lt (g := gb866) (o := .cells #[.int .i64 (wrap64 (Int.tmod a4 9)), .string t857, .bool ((Int.tmod a2 2) == 1), .slice Ao42 t867.length co42] 28 (0, 0)) BK866.out) : gb870 ≠ gb866))
        have n17_ := Aside0.mk ((by rw [hg]; exact Nat.ne_of_lt (blk_lt (g := gb871) (o := .cells #[.int .i64 0, .string (⟨#[]⟩ : ByteArray), .bool false, .slice none 0 0] 28 (0, 0)) BK871.out) : gb871 ≠ gb870))
        have n18_ := Aside0.mk ((by rw [hg]; exact Nat.ne_of_gt (blk_lt (g := gb871) (o := .cells #[.int .i64 0, .string (⟨#[]⟩ : ByteArray), .bool false, .slice none 0 0] 28 (0, 0)) BK871.out) : gb870 ≠ gb871))
        clear HO860
        clear HO865
        clear HO869
        clear BK861
        clear BK862
        clear BK866
        clear BK871
        clear HB
        have HO860 := n0_
        have HO865 := n1_
        have HO869 := n2_
        have BK861 := n3_
        have BK862 := n4_
        have BK866 := n5_
        have BK871 := n6_
        have HB := n7_
        have BK870 := n8_
        have GW870 := n9_
        have GE870 := n10_
        have NB861_870 := n11_
        have NB870_861 := n12_
        have NB862_870 := n13_
        have NB870_862 := n14_
        have NB866_870 := n15_
        have NB870_866 := n16_
        have NB871_870 := n17_
        have NB870_871 := n18_
        clear n0_ n1_ n2_ n3_ n4_ n5_ n6_ n7_ n8_ n9_ n10_ n11_ n12_ n13_ n14_ n15_ n16_ n17_ n18_
        clear hb hbox hg
        refine hK.out _ _ ⟨(blk_cell BK861.out 0).trans rfl, (blk_cell BK861.out 1).trans rfl, (blk_cell BK861.out 2).trans rfl, (blk_cell BK861.out 3).trans rfl⟩ (fun hHeld => ?_)
        clear hK K
        refine norm_ (a' := ?_) ?_ ?_
        rotate_left
        ·show Act.put _ (some 14) _ = _
         simp only [Act.put, List.setIfInBounds_toArray, List.set_cons_zero, List.set_cons_succ, i64_w, i32_w]
         rfl
        exact norm_ (by simp only [putAll, Act.put, List.setIfInBounds_toArray, List.set_cons_zero, List.set_cons_succ]; first | done | rfl) (hJ3_4 (gb870, gb871) _ ⟨hHeld, HO860.out, HO865.out, HO869.out, BK861.out, BK862.out, BK866.out, BK870.out, BK871.out, GW870.out, GE870.out, NB861_870.out, NB870_861.out, NB862_870.out, NB870_862.out, NB866_870.out, NB870_866.out, NB871_870.out, NB870_871.out, GW871.out, GE871.out, NB861_871.out, NB871_861.out, NB862_871.out, NB871_862.out, NB866_871.out, NB871_866.out, HB.out⟩)
       ·skip
        refine box_step ?hg (N := 16) ?hd (cs := #[.int .i64 0, .string (⟨#[]⟩ : ByteArray), .bool false, .slice none 0 0]) (t := 28) ?hr ?_; (case hd => rfl); (case hg => rfl); (case hr => first | (go_simp; done) | (go_simp; rfl))
        intro gb872 hg w48 hbox hb
        have n0_ := Aside0.mk (Kd.R_below HO860.out hb)
        have n1_ := Aside0.mk (Kd.R_below HO865.out hb)
        have n2_ := Aside0.mk (Kd.R_below HO869.out hb)
        have n3_ := Aside0.mk (blk_below (g := gb861) (o := .cells #[.int .i64 (wrap64 (Int.tmod a4 9)), .string t857, .bool ((Int.tmod a2 2) == 1), .slice Ao26 t858.length co26] 28 (0, 0)) BK861.out hb)
        have n4_ := Aside0.mk (blk_below (g := gb862) (o := .cells #[.int .i64 (wrap64 (Int.tmod a4 9)), .string t857, .bool ((Int.tmod a2 2) == 1), .slice Ao34 y863.length co34] 28 (0, 0)) BK862.out hb)
        have n5_ := Aside0.mk (blk_below (g := gb866) (o := .cells #[.int .i64 (wrap64 (Int.tmod a4 9)), .string t857, .bool ((Int.tmod a2 2) == 1), .slice Ao42 t867.length co42] 28 (0, 0)) BK866.out hb)
        have n6_ := Aside0.mk (blk_below (g := gb871) (o := .cells #[.int .i64 0, .string (⟨#[]⟩ : ByteArray), .bool false, .slice none 0 0] 28 (0, 0)) BK871.out hb)
        have n7_ := Aside0.mk (below_step HB.out hb)
        have n8_ := Aside0.mk (hbox)
        have n9_ := Aside0.mk ((by rw [hg]; exact (below_size HB.out) : w.heap.size ≤ gb872))
        have n10_ := Aside0.mk ((by rw [hg]; exact (below_size HB.out) : w.heap.size ≤ gb872))
        have n11_ := Aside0.mk ((by rw [hg]; exact Nat.ne_of_lt (blk_lt (g := gb861) (o := .cells #[.int .i64 (wrap64 (Int.tmod a4 9)), .string t857, .bool ((Int.tmod a2 2) == 1), .slice Ao26 t858.length co26] 28 (0, 0)) BK861.out) : gb861 ≠ gb872))
        have n12_ := Aside0.mk ((by rw [hg]; exact Nat.ne_of_gt (blk_lt (g := gb861) (o := .cells #[.int .i64 (wrap64 (Int.tmod a4 9)), .string t857, .bool ((Int.tmod a2 2) == 1), .slice Ao26 t858.length co26] 28 (0, 0)) BK861.out) : gb872 ≠ gb861))
        have n13_ := Aside0.mk ((by rw [hg]; exact Nat.ne_of_lt (blk_lt (g := gb862) (o := .cells #[.int .i64 (wrap64 (Int.tmod a4 9)), .string t857, .bool ((Int.tmod a2 2) == 1), .slice Ao34 y863.length co34] 28 (0, 0)) BK862.out) : gb862 ≠ gb872))
        have n14_ := Aside0.mk ((by rw [hg]; exact Nat.ne_of_gt (blk_lt (g := gb862) (o := .cells #[.int .i64 (wrap64 (Int.tmod a4 9)), .string t857, .bool ((Int.tmod a2 2) == 1), .slice Ao34 y863.length co34] 28 (0, 0)) BK862.out) : gb872 ≠ gb862))
        have n15_ := Aside0.mk ((by rw [hg]; exact Nat.ne_of_lt (blk_lt (g := gb866) (o := .cells #[.int .i64 (wrap64 (Int.tmod a4 9)), .string t857, .bool ((Int.tmod a2 2) == 1), .slice Ao42 t867.length co42] 28 (0, 0)) BK866.out) : gb866 ≠ gb872))
        have n16_ := Aside0.mk ((by rw [hg]; exact Nat.ne_of_gt (blk_lt (g := gb866) (o := .cells #[.int .i64 (wrap64 (Int.tmod a4 9)), .string t857, .bool ((Int.tmod a2 2) == 1), .slice Ao42 t867.length co42] 28 (0, 0)) BK866.out) : gb872 ≠ gb866))
        have n17_ := Aside0.mk ((by rw [hg]; exact Nat.ne_of_lt (blk_lt (g := gb871) (o := .cells #[.int .i64 0, .string (⟨#[]⟩ : ByteArray), .bool false, .slice none 0 0] 28 (0, 0)) BK871.out) : gb871 ≠ gb872))
        have n18_ := Aside0.mk ((by rw [hg]; exact Nat.ne_of_gt (blk_lt (g := gb871) (o := .cells #[.int .i64 0, .string (⟨#[]⟩ : ByteArray), .bool false, .slice none 0 0] 28 (0, 0)) BK871.out) : gb872 ≠ gb871))
        clear HO860
        clear HO865
        clear HO869
        clear BK861
        clear BK862
        clear BK866
        clear BK871
        clear HB
        have HO860 := n0_
        have HO865 := n1_
        have HO869 := n2_
        have BK861 := n3_
        have BK862 := n4_
        have BK866 := n5_
        have BK871 := n6_
        have HB := n7_
        have BK872 := n8_
        have GW872 := n9_
        have GE872 := n10_
        have NB861_872 := n11_
        have NB872_861 := n12_
        have NB862_872 := n13_
        have NB872_862 := n14_
        have NB866_872 := n15_
        have NB872_866 := n16_
        have NB871_872 := n17_
        have NB872_871 := n18_
        clear n0_ n1_ n2_ n3_ n4_ n5_ n6_ n7_ n8_ n9_ n10_ n11_ n12_ n13_ n14_ n15_ n16_ n17_ n18_
        clear hb hbox hg
        refine hK.out _ _ ⟨(blk_cell BK861.out 0).trans rfl, (blk_cell BK861.out 1).trans rfl, (blk_cell BK861.out 2).trans rfl, (blk_cell BK861.out 3).trans rfl⟩ (fun hHeld => ?_)
        clear hK K
        refine norm_ (a' := ?_) ?_ ?_
        rotate_left
        ·show Act.put _ (some 16) _ = _
         simp only [Act.put, List.setIfInBounds_toArray, List.set_cons_zero, List.set_cons_succ, i64_w, i32_w]
         rfl
        exact norm_ (by simp only [putAll, Act.put, List.setIfInBounds_toArray, List.set_cons_zero, List.set_cons_succ]; first | done | rfl) (hJ4_5 (gb871, gb872) _ ⟨hHeld, HO860.out, HO865.out, HO869.out, BK861.out, BK862.out, BK866.out, BK871.out, BK872.out, GW871.out, GE871.out, NB861_871.out, NB871_861.out, NB862_871.out, NB871_862.out, NB866_871.out, NB871_866.out, NB872_871.out, NB871_872.out, GW872.out, GE872.out, NB861_872.out, NB872_861.out, NB862_872.out, NB872_862.out, NB866_872.out, NB872_866.out, HB.out⟩)
     ·skip
      rintro gb870 w47 ⟨hS_, h0_, h1_, h2_, h3_, h4_, h5_, h6_, h7_, h8_, h9_, h10_, h11_, h12_, h13_, h14_, h15_⟩
      have n0_ : Aside0 (Kd.R k43 43 w47 w.heap.size (fun k_ => nb (.slice Ao34 y863.length co34) k_ ∧ nb (.slice Ao42 t867.length co42) k_) (.slice Ao26 t858.length co26) t858) := ⟨h0_⟩
      have n1_ : Aside0 (Kd.R k43 43 w47 w.heap.size (fun k_ => nb (.slice Ao26 t858.length co26) k_ ∧ nb (.slice Ao42 t867.length co42) k_) (.slice Ao34 y863.length co34) y863) := ⟨h1_⟩
      have n2_ : Aside0 (Kd.R k43 43 w47 w.heap.size (fun k_ => nb (.slice Ao26 t858.length co26) k_ ∧ nb (.slice Ao34 y863.length co34) k_) (.slice Ao42 t867.length co42) t867) := ⟨h2_⟩
      have n3_ : Aside0 (w47.heap[gb861]? = some (.cells #[.int .i64 (wrap64 (Int.tmod a4 9)), .string t857, .bool ((Int.tmod a2 2) == 1), .slice Ao26 t858.length co26] 28 (0, 0))) := ⟨h3_⟩
      have n4_ : Aside0 (w47.heap[gb862]? = some (.cells #[.int .i64 (wrap64 (Int.tmod a4 9)), .string t857, .bool ((Int.tmod a2 2) == 1), .slice Ao34 y863.length co34] 28 (0, 0))) := ⟨h4_⟩
      have n5_ : Aside0 (w47.heap[gb866]? = some (.cells #[.int .i64 (wrap64 (Int.tmod a4 9)), .string t857, .bool ((Int.tmod a2 2) == 1), .slice Ao42 t867.length co42] 28 (0, 0))) := ⟨h5_⟩
      have n6_ : Aside0 (w47.heap[gb870]? = some (.cells #[.int .i64 0, .string (⟨#[]⟩ : ByteArray), .bool false, .slice none 0 0] 28 (0, 0))) := ⟨h6_⟩
      have n7_ : Aside0 (w.heap.size ≤ gb870) := ⟨h7_⟩
      have n8_ : Aside0 (w.heap.size ≤ gb870) := ⟨h8_⟩
      have n9_ : Aside0 (gb861 ≠ gb870) := ⟨h9_⟩
      have n10_ : Aside0 (gb870 ≠ gb861) := ⟨h10_⟩
      have n11_ : Aside0 (gb862 ≠ gb870) := ⟨h11_⟩
      have n12_ : Aside0 (gb870 ≠ gb862) := ⟨h12_⟩
      have n13_ : Aside0 (gb866 ≠ gb870) := ⟨h13_⟩
      have n14_ : Aside0 (gb870 ≠ gb866) := ⟨h14_⟩
      have n15_ : Aside0 (Below w.heap.size w w47) := ⟨h15_⟩
      clear HO860
      clear HO865
      clear HO869
      clear BK861
      clear BK862
      clear BK866
      clear HB
      clear h0_ h1_ h2_ h3_ h4_ h5_ h6_ h7_ h8_ h9_ h10_ h11_ h12_ h13_ h14_ h15_
      have HO860 := n0_
      have HO865 := n1_
      have HO869 := n2_
      have BK861 := n3_
      have BK862 := n4_
      have BK866 := n5_
      have BK870 := n6_
      have GW870 := n7_
      have GE870 := n8_
      have NB861_870 := n9_
      have NB870_861 := n10_
      have NB862_870 := n11_
      have NB870_862 := n12_
      have NB866_870 := n13_
      have NB870_866 := n14_
      have HB := n15_
      clear n0_ n1_ n2_ n3_ n4_ n5_ n6_ n7_ n8_ n9_ n10_ n11_ n12_ n13_ n14_ n15_
      have hHeld : w47.cell? ⟨gb861, 0, none⟩ = some (.int .i64 (wrap64 (Int.tmod a4 9))) ∧ w47.cell? ⟨gb861, 1, none⟩ = some (.string t857) ∧ w47.cell? ⟨gb861, 2, none⟩ = some (.bool ((Int.tmod a2 2) == 1)) ∧ w47.cell? ⟨gb861, 3, none⟩ = some (.slice Ao26 t858.length co26) := hS_
      refine norm_ (a' := ?_) ?_ ?_
      rotate_left
      ·simp only [putAll, Act.put, List.setIfInBounds_toArray, List.set_cons_zero, List.set_cons_succ]
       rfl
      refine two_ (i := 4) (j := 5) (Ni := some 15) (Nj := some 16) #[true, true, true, true, true, false, false, false, false] #[true, true, true, true, false, true, false, false, false] rfl rfl rfl rfl (two_of HT_.out (by kernel_rfl)) (by decide) (by decide) (fun K hK => ?_) (fun K hK => ?_)
      ·skip
       refine box_step ?hg (N := 15) ?hd (cs := #[.int .i64 0, .string (⟨#[]⟩ : ByteArray), .bool false, .slice none 0 0]) (t := 28) ?hr ?_; (case hd => rfl); (case hg => rfl); (case hr => first | (go_simp; done) | (go_simp; rfl))
       intro gb871 hg w48 hbox hb
       have n0_ := Aside0.mk (Kd.R_below HO860.out hb)
       have n1_ := Aside0.mk (Kd.R_below HO865.out hb)
       have n2_ := Aside0.mk (Kd.R_below HO869.out hb)
       have n3_ := Aside0.mk (blk_below (g := gb861) (o := .cells #[.int .i64 (wrap64 (Int.tmod a4 9)), .string t857, .bool ((Int.tmod a2 2) == 1), .slice Ao26 t858.length co26] 28 (0, 0)) BK861.out hb)
       have n4_ := Aside0.mk (blk_below (g := gb862) (o := .cells #[.int .i64 (wrap64 (Int.tmod a4 9)), .string t857, .bool ((Int.tmod a2 2) == 1), .slice Ao34 y863.length co34] 28 (0, 0)) BK862.out hb)
       have n5_ := Aside0.mk (blk_below (g := gb866) (o := .cells #[.int .i64 (wrap64 (Int.tmod a4 9)), .string t857, .bool ((Int.tmod a2 2) == 1), .slice Ao42 t867.length co42] 28 (0, 0)) BK866.out hb)
       have n6_ := Aside0.mk (blk_below (g := gb870) (o := .cells #[.int .i64 0, .string (⟨#[]⟩ : ByteArray), .bool false, .slice none 0 0] 28 (0, 0)) BK870.out hb)
       have n7_ := Aside0.mk (below_step HB.out hb)
       have n8_ := Aside0.mk (hbox)
       have n9_ := Aside0.mk ((by rw [hg]; exact (below_size HB.out) : w.heap.size ≤ gb871))
       have n10_ := Aside0.mk ((by rw [hg]; exact (below_size HB.out) : w.heap.size ≤ gb871))
       have n11_ := Aside0.mk ((by rw [hg]; exact Nat.ne_of_lt (blk_lt (g := gb861) (o := .cells #[.int .i64 (wrap64 (Int.tmod a4 9)), .string t857, .bool ((Int.tmod a2 2) == 1), .slice Ao26 t858.length co26] 28 (0, 0)) BK861.out) : gb861 ≠ gb871))
       have n12_ := Aside0.mk ((by rw [hg]; exact Nat.ne_of_gt (blk_lt (g := gb861) (o := .cells #[.int .i64 (wrap64 (Int.tmod a4 9)), .string t857, .bool ((Int.tmod a2 2) == 1), .slice Ao26 t858.length co26] 28 (0, 0)) BK861.out) : gb871 ≠ gb861))
       have n13_ := Aside0.mk ((by rw [hg]; exact Nat.ne_of_lt (blk_lt (g := gb862) (o := .cells #[.int .i64 (wrap64 (Int.tmod a4 9)), .string t857, .bool ((Int.tmod a2 2) == 1), .slice Ao34 y863.length co34] 28 (0, 0)) BK862.out) : gb862 ≠ gb871))
       have n14_ := Aside0.mk ((by rw [hg]; exact Nat.ne_of_gt (blk_lt (g := gb862) (o := .cells #[.int .i64 (wrap64 (Int.tmod a4 9)), .string t857, .bool ((Int.tmod a2 2) == 1), .slice Ao34 y863.length co34] 28 (0, 0)) BK862.out) : gb871 ≠ gb862))
       have n15_ := Aside0.mk ((by rw [hg]; exact Nat.ne_of_lt (blk_lt (g := gb866) (o := .cells #[.int .i64 (wrap64 (Int.tmod a4 9)), .string t857, .bool ((Int.tmod a2 2) == 1), .slice Ao42 t867.length co42] 28 (0, 0)) BK866.out) : gb866 ≠ gb871))
       have n16_ := Aside0.mk ((by rw [hg]; exact Nat.ne_of_gt (blk_lt (g := gb866) (o := .cells #[.int .i64 (wrap64 (Int.tmod a4 9)), .string t857, .bool ((Int.tmod a2 2) == 1), .slice Ao42 t867.length co42] 28 (0, 0)) BK866.out) : gb871 ≠ gb866))
       have n17_ := Aside0.mk ((by rw [hg]; exact Nat.ne_of_lt (blk_lt (g := gb870) (o := .cells #[.int .i64 0, .string (⟨#[]⟩ : ByteArray), .bool false, .slice none 0 0] 28 (0, 0)) BK870.out) : gb870 ≠ gb871))
       have n18_ := Aside0.mk ((by rw [hg]; exact Nat.ne_of_gt (blk_lt (g := gb870) (o := .cells #[.int .i64 0, .string (⟨#[]⟩ : ByteArray), .bool false, .slice none 0 0] 28 (0, 0)) BK870.out) : gb871 ≠ gb870))
       clear HO860
       clear HO865
       clear HO869
       clear BK861
       clear BK862
       clear BK866
       clear BK870
       clear HB
       have HO860 := n0_
       have HO865 := n1_
       have HO869 := n2_
       have BK861 := n3_
       have BK862 := n4_
       have BK866 := n5_
       have BK870 := n6_
       have HB := n7_
       have BK871 := n8_
       have GW871 := n9_
       have GE871 := n10_
       have NB861_871 := n11_
       have NB871_861 := n12_
       have NB862_871 := n13_
       have NB871_862 := n14_
       have NB866_871 := n15_
       have NB871_866 := n16_
       have NB870_871 := n17_
       have NB871_870 := n18_
       clear n0_ n1_ n2_ n3_ n4_ n5_ n6_ n7_ n8_ n9_ n10_ n11_ n12_ n13_ n14_ n15_ n16_ n17_ n18_
       clear hb hbox hg
       refine hK.out _ _ ⟨(blk_cell BK861.out 0).trans rfl, (blk_cell BK861.out 1).trans rfl, (blk_cell BK861.out 2).trans rfl, (blk_cell BK861.out 3).trans rfl⟩ (fun hHeld => ?_)
       clear hK K
       refine norm_ (a' := ?_) ?_ ?_
       rotate_left
       ·show Act.put _ (some 15) _ = _
        simp only [Act.put, List.setIfInBounds_toArray, List.set_cons_zero, List.set_cons_succ, i64_w, i32_w]
        rfl
       exact norm_ (by simp only [putAll, Act.put, List.setIfInBounds_toArray, List.set_cons_zero, List.set_cons_succ]; first | done | rfl) (hJ3_4 (gb870, gb871) _ ⟨hHeld, HO860.out, HO865.out, HO869.out, BK861.out, BK862.out, BK866.out, BK870.out, BK871.out, GW870.out, GE870.out, NB861_870.out, NB870_861.out, NB862_870.out, NB870_862.out, NB866_870.out, NB870_866.out, NB871_870.out, NB870_871.out, GW871.out, GE871.out, NB861_871.out, NB871_861.out, NB862_871.out, NB871_862.out, NB866_871.out, NB871_866.out, HB.out⟩)
      ·skip
       refine box_step ?hg (N := 16) ?hd (cs := #[.int .i64 0, .string (⟨#[]⟩ : ByteArray), .bool false, .slice none 0 0]) (t := 28) ?hr ?_; (case hd => rfl); (case hg => rfl); (case hr => first | (go_simp; done) | (go_simp; rfl))
       intro gb872 hg w48 hbox hb
       have n0_ := Aside0.mk (Kd.R_below HO860.out hb)
       have n1_ := Aside0.mk (Kd.R_below HO865.out hb)
       have n2_ := Aside0.mk (Kd.R_below HO869.out hb)
       have n3_ := Aside0.mk (blk_below (g := gb861) (o := .cells #[.int .i64 (wrap64 (Int.tmod a4 9)), .string t857, .bool ((Int.tmod a2 2) == 1), .slice Ao26 t858.length co26] 28 (0, 0)) BK861.out hb)
       have n4_ := Aside0.mk (blk_below (g := gb862) (o := .cells #[.int .i64 (wrap64 (Int.tmod a4 9)), .string t857, .bool ((Int.tmod a2 2) == 1), .slice Ao34 y863.length co34] 28 (0, 0)) BK862.out hb)
       have n5_ := Aside0.mk (blk_below (g := gb866) (o := .cells #[.int .i64 (wrap64 (Int.tmod a4 9)), .string t857, .bool ((Int.tmod a2 2) == 1), .slice Ao42 t867.length co42] 28 (0, 0)) BK866.out hb)
       have n6_ := Aside0.mk (blk_below (g := gb870) (o := .cells #[.int .i64 0, .string (⟨#[]⟩ : ByteArray), .bool false, .slice none 0 0] 28 (0, 0)) BK870.out hb)
       have n7_ := Aside0.mk (below_step HB.out hb)
       have n8_ := Aside0.mk (hbox)
       have n9_ := Aside0.mk ((by rw [hg]; exact (below_size HB.out) : w.heap.size ≤ gb872))
       have n10_ := Aside0.mk ((by rw [hg]; exact (below_size HB.out) : w.heap.size ≤ gb872))
       have n11_ := Aside0.mk ((by rw [hg]; exact Nat.ne_of_lt (blk_lt (g := gb861) (o := .cells #[.int .i64 (wrap64 (Int.tmod a4 9)), .string t857, .bool ((Int.tmod a2 2) == 1), .slice Ao26 t858.length co26] 28 (0, 0)) BK861.out) : gb861 ≠ gb872))
       have n12_ := Aside0.mk ((by rw [hg]; exact Nat.ne_of_gt (blk_lt (g := gb861) (o := .cells #[.int .i64 (wrap64 (Int.tmod a4 9)), .string t857, .bool ((Int.tmod a2 2) == 1), .slice Ao26 t858.length co26] 28 (0, 0)) BK861.out) : gb872 ≠ gb861))
       have n13_ := Aside0.mk ((by rw [hg]; exact Nat.ne_of_lt (blk_lt (g := gb862) (o := .cells #[.int .i64 (wrap64 (Int.tmod a4 9)), .string t857, .bool ((Int.tmod a2 2) == 1), .slice Ao34 y863.length co34] 28 (0, 0)) BK862.out) : gb862 ≠ gb872))
       have n14_ := Aside0.mk ((by rw [hg]; exact Nat.ne_of_gt (blk_lt (g := gb862) (o := .cells #[.int .i64 (wrap64 (Int.tmod a4 9)), .string t857, .bool ((Int.tmod a2 2) == 1), .slice Ao34 y863.length co34] 28 (0, 0)) BK862.out) : gb872 ≠ gb862))
       have n15_ := Aside0.mk ((by rw [hg]; exact Nat.ne_of_lt (blk_lt (g := gb866) (o := .cells #[.int .i64 (wrap64 (Int.tmod a4 9)), .string t857, .bool ((Int.tmod a2 2) == 1), .slice Ao42 t867.length co42] 28 (0, 0)) BK866.out) : gb866 ≠ gb872))
       have n16_ := Aside0.mk ((by rw [hg]; exact Nat.ne_of_gt (blk_lt (g := gb866) (o := .cells #[.int .i64 (wrap64 (Int.tmod a4 9)), .string t857, .bool ((Int.tmod a2 2) == 1), .slice Ao42 t867.length co42] 28 (0, 0)) BK866.out) : gb872 ≠ gb866))
       have n17_ := Aside0.mk ((by rw [hg]; exact Nat.ne_of_lt (blk_lt (g := gb870) (o := .cells #[.int .i64 0, .string (⟨#[]⟩ : ByteArray), .bool false, .slice none 0 0] 28 (0, 0)) BK870.out) : gb870 ≠ gb872))
       have n18_ := Aside0.mk ((by rw [hg]; exact Nat.ne_of_gt (blk_lt (g := gb870) (o := .cells #[.int .i64 0, .string (⟨#[]⟩ : ByteArray), .bool false, .slice none 0 0] 28 (0, 0)) BK870.out) : gb872 ≠ gb870))
       clear HO860
       clear HO865
       clear HO869
       clear BK861
       clear BK862
       clear BK866
       clear BK870
       clear HB
       have HO860 := n0_
       have HO865 := n1_
       have HO869 := n2_
       have BK861 := n3_
       have BK862 := n4_
       have BK866 := n5_
       have BK870 := n6_
       have HB := n7_
       have BK872 := n8_
       have GW872 := n9_
       have GE872 := n10_
       have NB861_872 := n11_
       have NB872_861 := n12_
       have NB862_872 := n13_
       have NB872_862 := n14_
       have NB866_872 := n15_
       have NB872_866 := n16_
       have NB870_872 := n17_
       have NB872_870 := n18_
       clear n0_ n1_ n2_ n3_ n4_ n5_ n6_ n7_ n8_ n9_ n10_ n11_ n12_ n13_ n14_ n15_ n16_ n17_ n18_
       clear hb hbox hg
       refine hK.out _ _ ⟨(blk_cell BK861.out 0).trans rfl, (blk_cell BK861.out 1).trans rfl, (blk_cell BK861.out 2).trans rfl, (blk_cell BK861.out 3).trans rfl⟩ (fun hHeld => ?_)
       clear hK K
       refine norm_ (a' := ?_) ?_ ?_
       rotate_left
       ·show Act.put _ (some 16) _ = _
        simp only [Act.put, List.setIfInBounds_toArray, List.set_cons_zero, List.set_cons_succ, i64_w, i32_w]
        rfl
       exact norm_ (by simp only [putAll, Act.put, List.setIfInBounds_toArray, List.set_cons_zero, List.set_cons_succ]; first | done | rfl) (hJ3_5 (gb870, gb872) _ ⟨hHeld, HO860.out, HO865.out, HO869.out, BK861.out, BK862.out, BK866.out, BK870.out, BK872.out, GW870.out, GE870.out, NB861_870.out, NB870_861.out, NB862_870.out, NB870_862.out, NB866_870.out, NB870_866.out, NB872_870.out, NB870_872.out, GW872.out, GE872.out, NB861_872.out, NB872_861.out, NB862_872.out, NB872_862.out, NB866_872.out, NB872_866.out, HB.out⟩)
    ·skip
     rintro ⟨gb871, gb872⟩ w48 ⟨hS_, h0_, h1_, h2_, h3_, h4_, h5_, h6_, h7_, h8_, h9_, h10_, h11_, h12_, h13_, h14_, h15_, h16_, h17_, h18_, h19_, h20_, h21_, h22_, h23_, h24_, h25_, h26_⟩
     have n0_ : Aside0 (Kd.R k43 43 w48 w.heap.size (fun k_ => nb (.slice Ao34 y863.length co34) k_ ∧ nb (.slice Ao42 t867.length co42) k_) (.slice Ao26 t858.length co26) t858) := ⟨h0_⟩
     have n1_ : Aside0 (Kd.R k43 43 w48 w.heap.size (fun k_ => nb (.slice Ao26 t858.length co26) k_ ∧ nb (.slice Ao42 t867.length co42) k_) (.slice Ao34 y863.length co34) y863) := ⟨h1_⟩
     have n2_ : Aside0 (Kd.R k43 43 w48 w.heap.size (fun k_ => nb (.slice Ao26 t858.length co26) k_ ∧ nb (.slice Ao34 y863.length co34) k_) (.slice Ao42 t867.length co42) t867) := ⟨h2_⟩
     have n3_ : Aside0 (w48.heap[gb861]? = some (.cells #[.int .i64 (wrap64 (Int.tmod a4 9)), .string t857, .bool ((Int.tmod a2 2) == 1), .slice Ao26 t858.length co26] 28 (0, 0))) := ⟨h3_⟩
     have n4_ : Aside0 (w48.heap[gb862]? = some (.cells #[.int .i64 (wrap64 (Int.tmod a4 9)), .string t857, .bool ((Int.tmod a2 2) == 1), .slice Ao34 y863.length co34] 28 (0, 0))) := ⟨h4_⟩
     have n5_ : Aside0 (w48.heap[gb866]? = some (.cells #[.int .i64 (wrap64 (Int.tmod a4 9)), .string t857, .bool ((Int.tmod a2 2) == 1), .slice Ao42 t867.length co42] 28 (0, 0))) := ⟨h5_⟩
     have n6_ : Aside0 (w48.heap[gb871]? = some (.cells #[.int .i64 0, .string (⟨#[]⟩ : ByteArray), .bool false, .slice none 0 0] 28 (0, 0))) := ⟨h6_⟩
     have n7_ : Aside0 (w48.heap[gb872]? = some (.cells #[.int .i64 0, .string (⟨#[]⟩ : ByteArray), .bool false, .slice none 0 0] 28 (0, 0))) := ⟨h7_⟩
     have n8_ : Aside0 (w.heap.size ≤ gb871) := ⟨h8_⟩
     have n9_ : Aside0 (w.heap.size ≤ gb871) := ⟨h9_⟩
     have n10_ : Aside0 (gb861 ≠ gb871) := ⟨h10_⟩
     have n11_ : Aside0 (gb871 ≠ gb861) := ⟨h11_⟩
     have n12_ : Aside0 (gb862 ≠ gb871) := ⟨h12_⟩
     have n13_ : Aside0 (gb871 ≠ gb862) := ⟨h13_⟩
     have n14_ : Aside0 (gb866 ≠ gb871) := ⟨h14_⟩
     have n15_ : Aside0 (gb871 ≠ gb866) := ⟨h15_⟩
     have n16_ : Aside0 (gb872 ≠ gb871) := ⟨h16_⟩
     have n17_ : Aside0 (gb871 ≠ gb872) := ⟨h17_⟩
     have n18_ : Aside0 (w.heap.size ≤ gb872) := ⟨h18_⟩
     have n19_ : Aside0 (w.heap.size ≤ gb872) := ⟨h19_⟩
     have n20_ : Aside0 (gb861 ≠ gb872) := ⟨h20_⟩
     have n21_ : Aside0 (gb872 ≠ gb861) := ⟨h21_⟩
     have n22_ : Aside0 (gb862 ≠ gb872) := ⟨h22_⟩
     have n23_ : Aside0 (gb872 ≠ gb862) := ⟨h23_⟩
     have n24_ : Aside0 (gb866 ≠ gb872) := ⟨h24_⟩
     have n25_ : Aside0 (gb872 ≠ gb866) := ⟨h25_⟩
     have n26_ : Aside0 (Below w.heap.size w w48) := ⟨h26_⟩
     clear HO860
     clear HO865
     clear HO869
     clear BK861
     clear BK862
     clear BK866
     clear HB
     clear h0_ h1_ h2_ h3_ h4_ h5_ h6_ h7_ h8_ h9_ h10_ h11_ h12_ h13_ h14_ h15_ h16_ h17_ h18_ h19_ h20_ h21_ h22_ h23_ h24_ h25_ h26_
     have HO860 := n0_
     have HO865 := n1_
     have HO869 := n2_
     have BK861 := n3_
     have BK862 := n4_
     have BK866 := n5_
     have BK871 := n6_
     have BK872 := n7_
     have GW871 := n8_
     have GE871 := n9_
     have NB861_871 := n10_
     have NB871_861 := n11_
     have NB862_871 := n12_
     have NB871_862 := n13_
     have NB866_871 := n14_
     have NB871_866 := n15_
     have NB872_871 := n16_
     have NB871_872 := n17_
     have GW872 := n18_
     have GE872 := n19_
     have NB861_872 := n20_
     have NB872_861 := n21_
     have NB862_872 := n22_
     have NB872_862 := n23_
     have NB866_872 := n24_
     have NB872_866 := n25_
     have HB := n26_
     clear n0_ n1_ n2_ n3_ n4_ n5_ n6_ n7_ n8_ n9_ n10_ n11_ n12_ n13_ n14_ n15_ n16_ n17_ n18_ n19_ n20_ n21_ n22_ n23_ n24_ n25_ n26_
     have hHeld : w48.cell? ⟨gb861, 0, none⟩ = some (.int .i64 (wrap64 (Int.tmod a4 9))) ∧ w48.cell? ⟨gb861, 1, none⟩ = some (.string t857) ∧ w48.cell? ⟨gb861, 2, none⟩ = some (.bool ((Int.tmod a2 2) == 1)) ∧ w48.cell? ⟨gb861, 3, none⟩ = some (.slice Ao26 t858.length co26) := hS_
     refine norm_ (a' := ?_) ?_ ?_
     rotate_left
     ·simp only [putAll, Act.put, List.setIfInBounds_toArray, List.set_cons_zero, List.set_cons_succ]
      rfl
     refine one_ (i := 3) (N := some 14) #[true, true, true, true, true, true, false, false, false] rfl rfl (one_of HT_.out (by kernel_rfl)) (by decide) (fun K hK => ?_)
     refine box_step ?hg (N := 14) ?hd (cs := #[.int .i64 0, .string (⟨#[]⟩ : ByteArray), .bool false, .slice none 0 0]) (t := 28) ?hr ?_; (case hd => rfl); (case hg => rfl); (case hr => first | (go_simp; done) | (go_simp; rfl))
     intro gb870 hg w49 hbox hb
     have n0_ := Aside0.mk (Kd.R_below HO860.out hb)
     have n1_ := Aside0.mk (Kd.R_below HO865.out hb)
     have n2_ := Aside0.mk (Kd.R_below HO869.out hb)
     have n3_ := Aside0.mk (blk_below (g := gb861) (o := .cells #[.int .i64 (wrap64 (Int.tmod a4 9)), .string t857, .bool ((Int.tmod a2 2) == 1), .slice Ao26 t858.length co26] 28 (0, 0)) BK861.out hb)
     have n4_ := Aside0.mk (blk_below (g := gb862) (o := .cells #[.int .i64 (wrap64 (Int.tmod a4 9)), .string t857, .bool ((Int.tmod a2 2) == 1), .slice Ao34 y863.length co34] 28 (0, 0)) BK862.out hb)
     have n5_ := Aside0.mk (blk_below (g := gb866) (o := .cells #[.int .i64 (wrap64 (Int.tmod a4 9)), .string t857, .bool ((Int.tmod a2 2) == 1), .slice Ao42 t867.length co42] 28 (0, 0)) BK866.out hb)
     have n6_ := Aside0.mk (blk_below (g := gb871) (o := .cells #[.int .i64 0, .string (⟨#[]⟩ : ByteArray), .bool false, .slice none 0 0] 28 (0, 0)) BK871.out hb)
     have n7_ := Aside0.mk (blk_below (g := gb872) (o := .cells #[.int .i64 0, .string (⟨#[]⟩ : ByteArray), .bool false, .slice none 0 0] 28 (0, 0)) BK872.out hb)
     have n8_ := Aside0.mk (below_step HB.out hb)
     have n9_ := Aside0.mk (hbox)
     have n10_ := Aside0.mk ((by rw [hg]; exact (below_size HB.out) : w.heap.size ≤ gb870))
     have n11_ := Aside0.mk ((by rw [hg]; exact (below_size HB.out) : w.heap.size ≤ gb870))
     have n12_ := Aside0.mk ((by rw [hg]; exact Nat.ne_of_lt (blk_lt (g := gb861) (o := .cells #[.int .i64 (wrap64 (Int.tmod a4 9)), .string t857, .bool ((Int.tmod a2 2) == 1), .slice Ao26 t858.length co26] 28 (0, 0)) BK861.out) : gb861 ≠ gb870))
     have n13_ := Aside0.mk ((by rw [hg]; exact Nat.ne_of_gt (blk_lt (g := gb861) (o := .cells #[.int .i64 (wrap64 (Int.tmod a4 9)), .string t857, .bool ((Int.tmod a2 2) == 1), .slice Ao26 t858.length co26] 28 (0, 0)) BK861.out) : gb870 ≠ gb861))
     have n14_ := Aside0.mk ((by rw [hg]; exact Nat.ne_of_lt (blk_lt (g := gb862) (o := .cells #[.int .i64 (wrap64 (Int.tmod a4 9)), .string t857, .bool ((Int.tmod a2 2) == 1), .slice Ao34 y863.length co34] 28 (0, 0)) BK862.out) : gb862 ≠ gb870))
     have n15_ := Aside0.mk ((by rw [hg]; exact Nat.ne_of_gt (blk_lt (g := gb862) (o := .cells #[.int .i64 (wrap64 (Int.tmod a4 9)), .string t857, .bool ((Int.tmod a2 2) == 1), .slice Ao34 y863.length co34] 28 (0, 0)) BK862.out) : gb870 ≠ gb862))
     have n16_ := Aside0.mk ((by rw [hg]; exact Nat.ne_of_lt (blk_lt (g := gb866) (o := .cells #[.int .i64 (wrap64 (Int.tmod a4 9)), .string t857, .bool ((Int.tmod a2 2) == 1), .slice Ao42 t867.length co42] 28 (0, 0)) BK866.out) : gb866 ≠ gb870))
     have n17_ := Aside0.mk ((by rw [hg]; exact Nat.ne_of_gt (blk_lt (g := gb866) (o := .cells #[.int .i64 (wrap64 (Int.tmod a4 9)), .string t857, .bool ((Int.tmod a2 2) == 1), .slice Ao42 t867.length co42] 28 (0, 0)) BK866.out) : gb870 ≠ gb866))
     have n18_ := Aside0.mk ((by rw [hg]; exact Nat.ne_of_lt (blk_lt (g := gb871) (o := .cells #[.int .i64 0, .string (⟨#[]⟩ : ByteArray), .bool false, .slice none 0 0] 28 (0, 0)) BK871.out) : gb871 ≠ gb870))
     have n19_ := Aside0.mk ((by rw [hg]; exact Nat.ne_of_gt (blk_lt (g := gb871) (o := .cells #[.int .i64 0, .string (⟨#[]⟩ : ByteArray), .bool false, .slice none 0 0] 28 (0, 0)) BK871.out) : gb870 ≠ gb871))
     have n20_ := Aside0.mk ((by rw [hg]; exact Nat.ne_of_lt (blk_lt (g := gb872) (o := .cells #[.int .i64 0, .string (⟨#[]⟩ : ByteArray), .bool false, .slice none 0 0] 28 (0, 0)) BK872.out) : gb872 ≠ gb870))
     have n21_ := Aside0.mk ((by rw [hg]; exact Nat.ne_of_gt (blk_lt (g := gb872) (o := .cells #[.int .i64 0, .string (⟨#[]⟩ : ByteArray), .bool false, .slice none 0 0] 28 (0, 0)) BK872.out) : gb870 ≠ gb872))
     clear HO860
     clear HO865
     clear HO869
     clear BK861
     clear BK862
     clear BK866
     clear BK871
     clear BK872
     clear HB
     have HO860 := n0_
     have HO865 := n1_
     have HO869 := n2_
     have BK861 := n3_
     have BK862 := n4_
     have BK866 := n5_
     have BK871 := n6_
     have BK872 := n7_
     have HB := n8_
     have BK870 := n9_
     have GW870 := n10_
     have GE870 := n11_
     have NB861_870 := n12_
     have NB870_861 := n13_
     have NB862_870 := n14_
     have NB870_862 := n15_
     have NB866_870 := n16_
     have NB870_866 := n17_
     have NB871_870 := n18_
     have NB870_871 := n19_
     have NB872_870 := n20_
     have NB870_872 := n21_
     clear n0_ n1_ n2_ n3_ n4_ n5_ n6_ n7_ n8_ n9_ n10_ n11_ n12_ n13_ n14_ n15_ n16_ n17_ n18_ n19_ n20_ n21_
     clear hb hbox hg
     refine hK.out _ _ ⟨(blk_cell BK861.out 0).trans rfl, (blk_cell BK861.out 1).trans rfl, (blk_cell BK861.out 2).trans rfl, (blk_cell BK861.out 3).trans rfl⟩ (fun hHeld => ?_)
     clear hK K
     refine norm_ (a' := ?_) ?_ ?_
     rotate_left
     ·show Act.put _ (some 14) _ = _
      simp only [Act.put, List.setIfInBounds_toArray, List.set_cons_zero, List.set_cons_succ, i64_w, i32_w]
      rfl
     exact norm_ (by simp only [putAll, Act.put, List.setIfInBounds_toArray, List.set_cons_zero, List.set_cons_succ]; first | done | rfl) (hJ3_4_5 (gb870, gb871, gb872) _ ⟨hHeld, HO860.out, HO865.out, HO869.out, BK861.out, BK862.out, BK866.out, BK870.out, BK871.out, BK872.out, GW870.out, GE870.out, NB861_870.out, NB870_861.out, NB862_870.out, NB870_862.out, NB866_870.out, NB870_866.out, NB871_870.out, NB870_871.out, NB872_870.out, NB870_872.out, GW871.out, GE871.out, NB861_871.out, NB871_861.out, NB862_871.out, NB871_862.out, NB866_871.out, NB871_866.out, NB872_871.out, NB871_872.out, GW872.out, GE872.out, NB861_872.out, NB872_861.out, NB862_872.out, NB872_862.out, NB866_872.out, NB872_866.out, HB.out⟩)
   ·skip
    rintro ⟨gb870, gb872⟩ w48 ⟨hS_, h0_, h1_, h2_, h3_, h4_, h5_, h6_, h7_, h8_, h9_, h10_, h11_, h12_, h13_, h14_, h15_, h16_, h17_, h18_, h19_, h20_, h21_, h22_, h23_, h24_, h25_, h26_⟩
    have n0_ : Aside0 (Kd.R k43 43 w48 w.heap.size (fun k_ => nb (.slice Ao34 y863.length co34) k_ ∧ nb (.slice Ao42 t867.length co42) k_) (.slice Ao26 t858.length co26) t858) := ⟨h0_⟩
    have n1_ : Aside0 (Kd.R k43 43 w48 w.heap.size (fun k_ => nb (.slice Ao26 t858.length co26) k_ ∧ nb (.slice Ao42 t867.length co42) k_) (.slice Ao34 y863.length co34) y863) := ⟨h1_⟩
    have n2_ : Aside0 (Kd.R k43 43 w48 w.heap.size (fun k_ => nb (.slice Ao26 t858.length co26) k_ ∧ nb (.slice Ao34 y863.length co34) k_) (.slice Ao42 t867.length co42) t867) := ⟨h2_⟩
    have n3_ : Aside0 (w48.heap[gb861]? = some (.cells #[.int .i64 (wrap64 (Int.tmod a4 9)), .string t857, .bool ((Int.tmod a2 2) == 1), .slice Ao26 t858.length co26] 28 (0, 0))) := ⟨h3_⟩
    have n4_ : Aside0 (w48.heap[gb862]? = some (.cells #[.int .i64 (wrap64 (Int.tmod a4 9)), .string t857, .bool ((Int.tmod a2 2) == 1), .slice Ao34 y863.length co34] 28 (0, 0))) := ⟨h4_⟩
    have n5_ : Aside0 (w48.heap[gb866]? = some (.cells #[.int .i64 (wrap64 (Int.tmod a4 9)), .string t857, .bool ((Int.tmod a2 2) == 1), .slice Ao42 t867.length co42] 28 (0, 0))) := ⟨h5_⟩
    have n6_ : Aside0 (w48.heap[gb870]? = some (.cells #[.int .i64 0, .string (⟨#[]⟩ : ByteArray), .bool false, .slice none 0 0] 28 (0, 0))) := ⟨h6_⟩
    have n7_ : Aside0 (w48.heap[gb872]? = some (.cells #[.int .i64 0, .string (⟨#[]⟩ : ByteArray), .bool false, .slice none 0 0] 28 (0, 0))) := ⟨h7_⟩
    have n8_ : Aside0 (w.heap.size ≤ gb870) := ⟨h8_⟩
    have n9_ : Aside0 (w.heap.size ≤ gb870) := ⟨h9_⟩
    have n10_ : Aside0 (gb861 ≠ gb870) := ⟨h10_⟩
    have n11_ : Aside0 (gb870 ≠ gb861) := ⟨h11_⟩
    have n12_ : Aside0 (gb862 ≠ gb870) := ⟨h12_⟩
    have n13_ : Aside0 (gb870 ≠ gb862) := ⟨h13_⟩
    have n14_ : Aside0 (gb866 ≠ gb870) := ⟨h14_⟩
    have n15_ : Aside0 (gb870 ≠ gb866) := ⟨h15_⟩
    have n16_ : Aside0 (gb872 ≠ gb870) := ⟨h16_⟩
    have n17_ : Aside0 (gb870 ≠ gb872) := ⟨h17_⟩
    have n18_ : Aside0 (w.heap.size ≤ gb872) := ⟨h18_⟩
    have n19_ : Aside0 (w.heap.size ≤ gb872) := ⟨h19_⟩
    have n20_ : Aside0 (gb861 ≠ gb872) := ⟨h20_⟩
    have n21_ : Aside0 (gb872 ≠ gb861) := ⟨h21_⟩
    have n22_ : Aside0 (gb862 ≠ gb872) := ⟨h22_⟩
    have n23_ : Aside0 (gb872 ≠ gb862) := ⟨h23_⟩
    have n24_ : Aside0 (gb866 ≠ gb872) := ⟨h24_⟩
    have n25_ : Aside0 (gb872 ≠ gb866) := ⟨h25_⟩
    have n26_ : Aside0 (Below w.heap.size w w48) := ⟨h26_⟩
    clear HO860
    clear HO865
    clear HO869
    clear BK861
    clear BK862
    clear BK866
    clear HB
    clear h0_ h1_ h2_ h3_ h4_ h5_ h6_ h7_ h8_ h9_ h10_ h11_ h12_ h13_ h14_ h15_ h16_ h17_ h18_ h19_ h20_ h21_ h22_ h23_ h24_ h25_ h26_
    have HO860 := n0_
    have HO865 := n1_
    have HO869 := n2_
    have BK861 := n3_
    have BK862 := n4_
    have BK866 := n5_
    have BK870 := n6_
    have BK872 := n7_
    have GW870 := n8_
    have GE870 := n9_
    have NB861_870 := n10_
    have NB870_861 := n11_
    have NB862_870 := n12_
    have NB870_862 := n13_
    have NB866_870 := n14_
    have NB870_866 := n15_
    have NB872_870 := n16_
    have NB870_872 := n17_
    have GW872 := n18_
    have GE872 := n19_
    have NB861_872 := n20_
    have NB872_861 := n21_
    have NB862_872 := n22_
    have NB872_862 := n23_
    have NB866_872 := n24_
    have NB872_866 := n25_
    have HB := n26_
    clear n0_ n1_ n2_ n3_ n4_ n5_ n6_ n7_ n8_ n9_ n10_ n11_ n12_ n13_ n14_ n15_ n16_ n17_ n18_ n19_ n20_ n21_ n22_ n23_ n24_ n25_ n26_
    have hHeld : w48.cell? ⟨gb861, 0, none⟩ = some (.int .i64 (wrap64 (Int.tmod a4 9))) ∧ w48.cell? ⟨gb861, 1, none⟩ = some (.string t857) ∧ w48.cell? ⟨gb861, 2, none⟩ = some (.bool ((Int.tmod a2 2) == 1)) ∧ w48.cell? ⟨gb861, 3, none⟩ = some (.slice Ao26 t858.length co26) := hS_
    refine norm_ (a' := ?_) ?_ ?_
    rotate_left
    ·simp only [putAll, Act.put, List.setIfInBounds_toArray, List.set_cons_zero, List.set_cons_succ]
     rfl
    refine one_ (i := 4) (N := some 15) #[true, true, true, true, true, true, false, false, false] rfl rfl (one_of HT_.out (by kernel_rfl)) (by decide) (fun K hK => ?_)
    refine box_step ?hg (N := 15) ?hd (cs := #[.int .i64 0, .string (⟨#[]⟩ : ByteArray), .bool false, .slice none 0 0]) (t := 28) ?hr ?_; (case hd => rfl); (case hg => rfl); (case hr => first | (go_simp; done) | (go_simp; rfl))
    intro gb871 hg w49 hbox hb
    have n0_ := Aside0.mk (Kd.R_below HO860.out hb)
    have n1_ := Aside0.mk (Kd.R_below HO865.out hb)
    have n2_ := Aside0.mk (Kd.R_below HO869.out hb)
    have n3_ := Aside0.mk (blk_below (g := gb861) (o := .cells #[.int .i64 (wrap64 (Int.tmod a4 9)), .string t857, .bool ((Int.tmod a2 2) == 1), .slice Ao26 t858.length co26] 28 (0, 0)) BK861.out hb)
    have n4_ := Aside0.mk (blk_below (g := gb862) (o := .cells #[.int .i64 (wrap64 (Int.tmod a4 9)), .string t857, .bool ((Int.tmod a2 2) == 1), .slice Ao34 y863.length co34] 28 (0, 0)) BK862.out hb)
    have n5_ := Aside0.mk (blk_below (g := gb866) (o := .cells #[.int .i64 (wrap64 (Int.tmod a4 9)), .string t857, .bool ((Int.tmod a2 2) == 1), .slice Ao42 t867.length co42] 28 (0, 0)) BK866.out hb)
    have n6_ := Aside0.mk (blk_below (g := gb870) (o := .cells #[.int .i64 0, .string (⟨#[]⟩ : ByteArray), .bool false, .slice none 0 0] 28 (0, 0)) BK870.out hb)
    have n7_ := Aside0.mk (blk_below (g := gb872) (o := .cells #[.int .i64 0, .string (⟨#[]⟩ : ByteArray), .bool false, .slice none 0 0] 28 (0, 0)) BK872.out hb)
    have n8_ := Aside0.mk (below_step HB.out hb)
    have n9_ := Aside0.mk (hbox)
    have n10_ := Aside0.mk ((by rw [hg]; exact (below_size HB.out) : w.heap.size ≤ gb871))
    have n11_ := Aside0.mk ((by rw [hg]; exact (below_size HB.out) : w.heap.size ≤ gb871))
    have n12_ := Aside0.mk ((by rw [hg]; exact Nat.ne_of_lt (blk_lt (g := gb861) (o := .cells #[.int .i64 (wrap64 (Int.tmod a4 9)), .string t857, .bool ((Int.tmod a2 2) == 1), .slice Ao26 t858.length co26] 28 (0, 0)) BK861.out) : gb861 ≠ gb871))
    have n13_ := Aside0.mk ((by rw [hg]; exact Nat.ne_of_gt (blk_lt (g := gb861) (o := .cells #[.int .i64 (wrap64 (Int.tmod a4 9)), .string t857, .bool ((Int.tmod a2 2) == 1), .slice Ao26 t858.length co26] 28 (0, 0)) BK861.out) : gb871 ≠ gb861))
    have n14_ := Aside0.mk ((by rw [hg]; exact Nat.ne_of_lt (blk_lt (g := gb862) (o := .cells #[.int .i64 (wrap64 (Int.tmod a4 9)), .string t857, .bool ((Int.tmod a2 2) == 1), .slice Ao34 y863.length co34] 28 (0, 0)) BK862.out) : gb862 ≠ gb871))
    have n15_ := Aside0.mk ((by rw [hg]; exact Nat.ne_of_gt (blk_lt (g := gb862) (o := .cells #[.int .i64 (wrap64 (Int.tmod a4 9)), .string t857, .bool ((Int.tmod a2 2) == 1), .slice Ao34 y863.length co34] 28 (0, 0)) BK862.out) : gb871 ≠ gb862))
    have n16_ := Aside0.mk ((by rw [hg]; exact Nat.ne_of_lt (blk_lt (g := gb866) (o := .cells #[.int .i64 (wrap64 (Int.tmod a4 9)), .string t857, .bool ((Int.tmod a2 2) == 1), .slice Ao42 t867.length co42] 28 (0, 0)) BK866.out) : gb866 ≠ gb871))
    have n17_ := Aside0.mk ((by rw [hg]; exact Nat.ne_of_gt (blk_lt (g := gb866) (o := .cells #[.int .i64 (wrap64 (Int.tmod a4 9)), .string t857, .bool ((Int.tmod a2 2) == 1), .slice Ao42 t867.length co42] 28 (0, 0)) BK866.out) : gb871 ≠ gb866))
    have n18_ := Aside0.mk ((by rw [hg]; exact Nat.ne_of_lt (blk_lt (g := gb870) (o := .cells #[.int .i64 0, .string (⟨#[]⟩ : ByteArray), .bool false, .slice none 0 0] 28 (0, 0)) BK870.out) : gb870 ≠ gb871))
    have n19_ := Aside0.mk ((by rw [hg]; exact Nat.ne_of_gt (blk_lt (g := gb870) (o := .cells #[.int .i64 0, .string (⟨#[]⟩ : ByteArray), .bool false, .slice none 0 0] 28 (0, 0)) BK870.out) : gb871 ≠ gb870))
    have n20_ := Aside0.mk ((by rw [hg]; exact Nat.ne_of_lt (blk_lt (g := gb872) (o := .cells #[.int .i64 0, .string (⟨#[]⟩ : ByteArray), .bool false, .slice none 0 0] 28 (0, 0)) BK872.out) : gb872 ≠ gb871))
    have n21_ := Aside0.mk ((by rw [hg]; exact Nat.ne_of_gt (blk_lt (g := gb872) (o := .cells #[.int .i64 0, .string (⟨#[]⟩ : ByteArray), .bool false, .slice none 0 0] 28 (0, 0)) BK872.out) : gb871 ≠ gb872))
    clear HO860
    clear HO865
    clear HO869
    clear BK861
    clear BK862
    clear BK866
    clear BK870
    clear BK872
    clear HB
    have HO860 := n0_
    have HO865 := n1_
    have HO869 := n2_
    have BK861 := n3_
    have BK862 := n4_
    have BK866 := n5_
    have BK870 := n6_
    have BK872 := n7_
    have HB := n8_
    have BK871 := n9_
    have GW871 := n10_
    have GE871 := n11_
    have NB861_871 := n12_
    have NB871_861 := n13_
    have NB862_871 := n14_
    have NB871_862 := n15_
    have NB866_871 := n16_
    have NB871_866 := n17_
    have NB870_871 := n18_
    have NB871_870 := n19_
    have NB872_871 := n20_
    have NB871_872 := n21_
    clear n0_ n1_ n2_ n3_ n4_ n5_ n6_ n7_ n8_ n9_ n10_ n11_ n12_ n13_ n14_ n15_ n16_ n17_ n18_ n19_ n20_ n21_
    clear hb hbox hg
    refine hK.out _ _ ⟨(blk_cell BK861.out 0).trans rfl, (blk_cell BK861.out 1).trans rfl, (blk_cell BK861.out 2).trans rfl, (blk_cell BK861.out 3).trans rfl⟩ (fun hHeld => ?_)
    clear hK K
    refine norm_ (a' := ?_) ?_ ?_
    rotate_left
    ·show Act.put _ (some 15) _ = _
     simp only [Act.put, List.setIfInBounds_toArray, List.set_cons_zero, List.set_cons_succ, i64_w, i32_w]
     rfl
    exact norm_ (by simp only [putAll, Act.put, List.setIfInBounds_toArray, List.set_cons_zero, List.set_cons_succ]; first | done | rfl) (hJ3_4_5 (gb870, gb871, gb872) _ ⟨hHeld, HO860.out, HO865.out, HO869.out, BK861.out, BK862.out, BK866.out, BK870.out, BK871.out, BK872.out, GW870.out, GE870.out, NB861_870.out, NB870_861.out, NB862_870.out, NB870_862.out, NB866_870.out, NB870_866.out, NB871_870.out, NB870_871.out, NB872_870.out, NB870_872.out, GW871.out, GE871.out, NB861_871.out, NB871_861.out, NB862_871.out, NB871_862.out, NB866_871.out, NB871_866.out, NB872_871.out, NB871_872.out, GW872.out, GE872.out, NB861_872.out, NB872_861.out, NB862_872.out, NB872_862.out, NB866_872.out, NB872_866.out, HB.out⟩)
  ·skip
   rintro ⟨gb870, gb871⟩ w48 ⟨hS_, h0_, h1_, h2_, h3_, h4_, h5_, h6_, h7_, h8_, h9_, h10_, h11_, h12_, h13_, h14_, h15_, h16_, h17_, h18_, h19_, h20_, h21_, h22_, h23_, h24_, h25_, h26_⟩
   have n0_ : Aside0 (Kd.R k43 43 w48 w.heap.size (fun k_ => nb (.slice Ao34 y863.length co34) k_ ∧ nb (.slice Ao42 t867.length co42) k_) (.slice Ao26 t858.length co26) t858) := ⟨h0_⟩
   have n1_ : Aside0 (Kd.R k43 43 w48 w.heap.size (fun k_ => nb (.slice Ao26 t858.length co26) k_ ∧ nb (.slice Ao42 t867.length co42) k_) (.slice Ao34 y863.length co34) y863) := ⟨h1_⟩
   have n2_ : Aside0 (Kd.R k43 43 w48 w.heap.size (fun k_ => nb (.slice Ao26 t858.length co26) k_ ∧ nb (.slice Ao34 y863.length co34) k_) (.slice Ao42 t867.length co42) t867) := ⟨h2_⟩
   have n3_ : Aside0 (w48.heap[gb861]? = some (.cells #[.int .i64 (wrap64 (Int.tmod a4 9)), .string t857, .bool ((Int.tmod a2 2) == 1), .slice Ao26 t858.length co26] 28 (0, 0))) := ⟨h3_⟩
   have n4_ : Aside0 (w48.heap[gb862]? = some (.cells #[.int .i64 (wrap64 (Int.tmod a4 9)), .string t857, .bool ((Int.tmod a2 2) == 1), .slice Ao34 y863.length co34] 28 (0, 0))) := ⟨h4_⟩
   have n5_ : Aside0 (w48.heap[gb866]? = some (.cells #[.int .i64 (wrap64 (Int.tmod a4 9)), .string t857, .bool ((Int.tmod a2 2) == 1), .slice Ao42 t867.length co42] 28 (0, 0))) := ⟨h5_⟩
   have n6_ : Aside0 (w48.heap[gb870]? = some (.cells #[.int .i64 0, .string (⟨#[]⟩ : ByteArray), .bool false, .slice none 0 0] 28 (0, 0))) := ⟨h6_⟩
   have n7_ : Aside0 (w48.heap[gb871]? = some (.cells #[.int .i64 0, .string (⟨#[]⟩ : ByteArray), .bool false, .slice none 0 0] 28 (0, 0))) := ⟨h7_⟩
   have n8_ : Aside0 (w.heap.size ≤ gb870) := ⟨h8_⟩
   have n9_ : Aside0 (w.heap.size ≤ gb870) := ⟨h9_⟩
   have n10_ : Aside0 (gb861 ≠ gb870) := ⟨h10_⟩
   have n11_ : Aside0 (gb870 ≠ gb861) := ⟨h11_⟩
   have n12_ : Aside0 (gb862 ≠ gb870) := ⟨h12_⟩
   have n13_ : Aside0 (gb870 ≠ gb862) := ⟨h13_⟩
   have n14_ : Aside0 (gb866 ≠ gb870) := ⟨h14_⟩
   have n15_ : Aside0 (gb870 ≠ gb866) := ⟨h15_⟩
   have n16_ : Aside0 (gb871 ≠ gb870) := ⟨h16_⟩
   have n17_ : Aside0 (gb870 ≠ gb871) := ⟨h17_⟩
   have n18_ : Aside0 (w.heap.size ≤ gb871) := ⟨h18_⟩
   have n19_ : Aside0 (w.heap.size ≤ gb871) := ⟨h19_⟩
   have n20_ : Aside0 (gb861 ≠ gb871) := ⟨h20_⟩
   have n21_ : Aside0 (gb871 ≠ gb861) := ⟨h21_⟩
   have n22_ : Aside0 (gb862 ≠ gb871) := ⟨h22_⟩
   have n23_ : Aside0 (gb871 ≠ gb862) := ⟨h23_⟩
   have n24_ : Aside0 (gb866 ≠ gb871) := ⟨h24_⟩
   have n25_ : Aside0 (gb871 ≠ gb866) := ⟨h25_⟩
   have n26_ : Aside0 (Below w.heap.size w w48) := ⟨h26_⟩
   clear HO860
   clear HO865
   clear HO869
   clear BK861
   clear BK862
   clear BK866
   clear HB
   clear h0_ h1_ h2_ h3_ h4_ h5_ h6_ h7_ h8_ h9_ h10_ h11_ h12_ h13_ h14_ h15_ h16_ h17_ h18_ h19_ h20_ h21_ h22_ h23_ h24_ h25_ h26_
   have HO860 := n0_
   have HO865 := n1_
   have HO869 := n2_
   have BK861 := n3_
   have BK862 := n4_
   have BK866 := n5_
   have BK870 := n6_
   have BK871 := n7_
   have GW870 := n8_
   have GE870 := n9_
   have NB861_870 := n10_
   have NB870_861 := n11_
   have NB862_870 := n12_
   have NB870_862 := n13_
   have NB866_870 := n14_
   have NB870_866 := n15_
   have NB871_870 := n16_
   have NB870_871 := n17_
   have GW871 := n18_
   have GE871 := n19_
   have NB861_871 := n20_
   have NB871_861 := n21_
   have NB862_871 := n22_
   have NB871_862 := n23_
   have NB866_871 := n24_
   have NB871_866 := n25_
   have HB := n26_
   clear n0_ n1_ n2_ n3_ n4_ n5_ n6_ n7_ n8_ n9_ n10_ n11_ n12_ n13_ n14_ n15_ n16_ n17_ n18_ n19_ n20_ n21_ n22_ n23_ n24_ n25_ n26_
   have hHeld : w48.cell? ⟨gb861, 0, none⟩ = some (.int .i64 (wrap64 (Int.tmod a4 9))) ∧ w48.cell? ⟨gb861, 1, none⟩ = some (.string t857) ∧ w48.cell? ⟨gb861, 2, none⟩ = some (.bool ((Int.tmod a2 2) == 1)) ∧ w48.cell? ⟨gb861, 3, none⟩ = some (.slice Ao26 t858.length co26) := hS_
   refine norm_ (a' := ?_) ?_ ?_
   rotate_left
   ·simp only [putAll, Act.put, List.setIfInBounds_toArray, List.set_cons_zero, List.set_cons_succ]
    rfl
   refine one_ (i := 5) (N := some 16) #[true, true, true, true, true, true, false, false, false] rfl rfl (one_of HT_.out (by kernel_rfl)) (by decide) (fun K hK => ?_)
   refine box_step ?hg (N := 16) ?hd (cs := #[.int .i64 0, .string (⟨#[]⟩ : ByteArray), .bool false, .slice none 0 0]) (t := 28) ?hr ?_; (case hd => rfl); (case hg => rfl); (case hr => first | (go_simp; done) | (go_simp; rfl))
   intro gb872 hg w49 hbox hb
   have n0_ := Aside0.mk (Kd.R_below HO860.out hb)
   have n1_ := Aside0.mk (Kd.R_below HO865.out hb)
   have n2_ := Aside0.mk (Kd.R_below HO869.out hb)
   have n3_ := Aside0.mk (blk_below (g := gb861) (o := .cells #[.int .i64 (wrap64 (Int.tmod a4 9)), .string t857, .bool ((Int.tmod a2 2) == 1), .slice Ao26 t858.length co26] 28 (0, 0)) BK861.out hb)
   have n4_ := Aside0.mk (blk_below (g := gb862) (o := .cells #[.int .i64 (wrap64 (Int.tmod a4 9)), .string t857, .bool ((Int.tmod a2 2) == 1), .slice Ao34 y863.length co34] 28 (0, 0)) BK862.out hb)
   have n5_ := Aside0.mk (blk_below (g := gb866) (o := .cells #[.int .i64 (wrap64 (Int.tmod a4 9)), .string t857, .bool ((Int.tmod a2 2) == 1), .slice Ao42 t867.length co42] 28 (0, 0)) BK866.out hb)
   have n6_ := Aside0.mk (blk_below (g := gb870) (o := .cells #[.int .i64 0, .string (⟨#[]⟩ : ByteArray), .bool false, .slice none 0 0] 28 (0, 0)) BK870.out hb)
   have n7_ := Aside0.mk (blk_below (g := gb871) (o := .cells #[.int .i64 0, .string (⟨#[]⟩ : ByteArray), .bool false, .slice none 0 0] 28 (0, 0)) BK871.out hb)
   have n8_ := Aside0.mk (below_step HB.out hb)
   have n9_ := Aside0.mk (hbox)
   have n10_ := Aside0.mk ((by rw [hg]; exact (below_size HB.out) : w.heap.size ≤ gb872))
   have n11_ := Aside0.mk ((by rw [hg]; exact (below_size HB.out) : w.heap.size ≤ gb872))
   have n12_ := Aside0.mk ((by rw [hg]; exact Nat.ne_of_lt (blk_lt (g := gb861) (o := .cells #[.int .i64 (wrap64 (Int.tmod a4 9)), .string t857, .bool ((Int.tmod a2 2) == 1), .slice Ao26 t858.length co26] 28 (0, 0)) BK861.out) : gb861 ≠ gb872))
   have n13_ := Aside0.mk ((by rw [hg]; exact Nat.ne_of_gt (blk_lt (g := gb861) (o := .cells #[.int .i64 (wrap64 (Int.tmod a4 9)), .string t857, .bool ((Int.tmod a2 2) == 1), .slice Ao26 t858.length co26] 28 (0, 0)) BK861.out) : gb872 ≠ gb861))
   have n14_ := Aside0.mk ((by rw [hg]; exact Nat.ne_of_lt (blk_lt (g := gb862) (o := .cells #[.int .i64 (wrap64 (Int.tmod a4 9)), .string t857, .bool ((Int.tmod a2 2) == 1), .slice Ao34 y863.length co34] 28 (0, 0)) BK862.out) : gb862 ≠ gb872))
   have n15_ := Aside0.mk ((by rw [hg]; exact Nat.ne_of_gt (blk_lt (g := gb862) (o := .cells #[.int .i64 (wrap64 (Int.tmod a4 9)), .string t857, .bool ((Int.tmod a2 2) == 1), .slice Ao34 y863.length co34] 28 (0, 0)) BK862.out) : gb872 ≠ gb862))
   have n16_ := Aside0.mk ((by rw [hg]; exact Nat.ne_of_lt (blk_lt (g := gb866) (o := .cells #[.int .i64 (wrap64 (Int.tmod a4 9)), .string t857, .bool ((Int.tmod a2 2) == 1), .slice Ao42 t867.length co42] 28 (0, 0)) BK866.out) : gb866 ≠ gb872))
   have n17_ := Aside0.mk ((by rw [hg]; exact Nat.ne_of_gt (blk_lt (g := gb866) (o := .cells #[.int .i64 (wrap64 (Int.tmod a4 9)), .string t857, .bool ((Int.tmod a2 2) == 1), .slice Ao42 t867.length co42] 28 (0, 0)) BK866.out) : gb872 ≠ gb866))
   have n18_ := Aside0.mk ((by rw [hg]; exact Nat.ne_of_lt (blk_lt (g := gb870) (o := .cells #[.int .i64 0, .string (⟨#[]⟩ : ByteArray), .bool false, .slice none 0 0] 28 (0, 0)) BK870.out) : gb870 ≠ gb872))
   have n19_ := Aside0.mk ((by rw [hg]; exact Nat.ne_of_gt (blk_lt (g := gb870) (o := .cells #[.int .i64 0, .string (⟨#[]⟩ : ByteArray), .bool false, .slice none 0 0] 28 (0, 0)) BK870.out) : gb872 ≠ gb870))
   have n20_ := Aside0.mk ((by rw [hg]; exact Nat.ne_of_lt (blk_lt (g := gb871) (o := .cells #[.int .i64 0, .string (⟨#[]⟩ : ByteArray), .bool false, .slice none 0 0] 28 (0, 0)) BK871.out) : gb871 ≠ gb872))
   have n21_ := Aside0.mk ((by rw [hg]; exact Nat.ne_of_gt (blk_lt (g := gb871) (o := .cells #[.int .i64 0, .string (⟨#[]⟩ : ByteArray), .bool false, .slice none 0 0] 28 (0, 0)) BK871.out) : gb872 ≠ gb871))
   clear HO860
   clear HO865
   clear HO869
   clear BK861
   clear BK862
   clear BK866
   clear BK870
   clear BK871
   clear HB
   have HO860 := n0_
   have HO865 := n1_
   have HO869 := n2_
   have BK861 := n3_
   have BK862 := n4_
   have BK866 := n5_
   have BK870 := n6_
   have BK871 := n7_
   have HB := n8_
   have BK872 := n9_
   have GW872 := n10_
   have GE872 := n11_
   have NB861_872 := n12_
   have NB872_861 := n13_
   have NB862_872 := n14_
   have NB872_862 := n15_
   have NB866_872 := n16_
   have NB872_866 := n17_
   have NB870_872 := n18_
   have NB872_870 := n19_
   have NB871_872 := n20_
   have NB872_871 := n21_
   clear n0_ n1_ n2_ n3_ n4_ n5_ n6_ n7_ n8_ n9_ n10_ n11_ n12_ n13_ n14_ n15_ n16_ n17_ n18_ n19_ n20_ n21_
   clear hb hbox hg
   refine hK.out _ _ ⟨(blk_cell BK861.out 0).trans rfl, (blk_cell BK861.out 1).trans rfl, (blk_cell BK861.out 2).trans rfl, (blk_cell BK861.out 3).trans rfl⟩ (fun hHeld => ?_)
   clear hK K
   refine norm_ (a' := ?_) ?_ ?_
   rotate_left
   ·show Act.put _ (some 16) _ = _
    simp only [Act.put, List.setIfInBounds_toArray, List.set_cons_zero, List.set_cons_succ, i64_w, i32_w]
    rfl
   exact norm_ (by simp only [putAll, Act.put, List.setIfInBounds_toArray, List.set_cons_zero, List.set_cons_succ]; first | done | rfl) (hJ3_4_5 (gb870, gb871, gb872) _ ⟨hHeld, HO860.out, HO865.out, HO869.out, BK861.out, BK862.out, BK866.out, BK870.out, BK871.out, BK872.out, GW870.out, GE870.out, NB861_870.out, NB870_861.out, NB862_870.out, NB870_862.out, NB866_870.out, NB870_866.out, NB871_870.out, NB870_871.out, NB872_870.out, NB870_872.out, GW871.out, GE871.out, NB861_871.out, NB871_861.out, NB862_871.out, NB871_862.out, NB866_871.out, NB871_866.out, NB872_871.out, NB871_872.out, GW872.out, GE872.out, NB861_872.out, NB872_861.out, NB862_872.out, NB872_862.out, NB866_872.out, NB872_866.out, HB.out⟩)
 rintro ⟨gb870, gb871, gb872⟩ w49 ⟨hS_, h0_, h1_, h2_, h3_, h4_, h5_, h6_, h7_, h8_, h9_, h10_, h11_, h12_, h13_, h14_, h15_, h16_, h17_, h18_, h19_, h20_, h21_, h22_, h23_, h24_, h25_, h26_, h27_, h28_, h29_, h30_, h31_, h32_, h33_, h34_, h35_, h36_, h37_, h38_, h39_⟩
 have n0_ : Aside0 (Kd.R k43 43 w49 w.heap.size (fun k_ => nb (.slice Ao34 y863.length co34) k_ ∧ nb (.slice Ao42 t867.length co42) k_) (.slice Ao26 t858.length co26) t858) := ⟨h0_⟩
 have n1_ : Aside0 (Kd.R k43 43 w49 w.heap.size (fun k_ => nb (.slice Ao26 t858.length co26) k_ ∧ nb (.slice Ao42 t867.length co42) k_) (.slice Ao34 y863.length co34) y863) := ⟨h1_⟩
 have n2_ : Aside0 (Kd.R k43 43 w49 w.heap.size (fun k_ => nb (.slice Ao26 t858.length co26) k_ ∧ nb (.slice Ao34 y863.length co34) k_) (.slice Ao42 t867.length co42) t867) := ⟨h2_⟩
 have n3_ : Aside0 (w49.heap[gb861]? = some (.cells #[.int .i64 (wrap64 (Int.tmod a4 9)), .string t857, .bool ((Int.tmod a2 2) == 1), .slice Ao26 t858.length co26] 28 (0, 0))) := ⟨h3_⟩
 have n4_ : Aside0 (w49.heap[gb862]? = some (.cells #[.int .i64 (wrap64 (Int.tmod a4 9)), .string t857, .bool ((Int.tmod a2 2) == 1), .slice Ao34 y863.length co34] 28 (0, 0))) := ⟨h4_⟩
 have n5_ : Aside0 (w49.heap[gb866]? = some (.cells #[.int .i64 (wrap64 (Int.tmod a4 9)), .string t857, .bool ((Int.tmod a2 2) == 1), .slice Ao42 t867.length co42] 28 (0, 0))) := ⟨h5_⟩
 have n6_ : Aside0 (w49.heap[gb870]? = some (.cells #[.int .i64 0, .string (⟨#[]⟩ : ByteArray), .bool false, .slice none 0 0] 28 (0, 0))) := ⟨h6_⟩
 have n7_ : Aside0 (w49.heap[gb871]? = some (.cells #[.int .i64 0, .string (⟨#[]⟩ : ByteArray), .bool false, .slice none 0 0] 28 (0, 0))) := ⟨h7_⟩
 have n8_ : Aside0 (w49.heap[gb872]? = some (.cells #[.int .i64 0, .string (⟨#[]⟩ : ByteArray), .bool false, .slice none 0 0] 28 (0, 0))) := ⟨h8_⟩
 have n9_ : Aside0 (w.heap.size ≤ gb870) := ⟨h9_⟩
 have n10_ : Aside0 (w.heap.size ≤ gb870) := ⟨h10_⟩
 have n11_ : Aside0 (gb861 ≠ gb870) := ⟨h11_⟩
 have n12_ : Aside0 (gb870 ≠ gb861) := ⟨h12_⟩
 have n13_ : Aside0 (gb862 ≠ gb870) := ⟨h13_⟩
 have n14_ : Aside0 (gb870 ≠ gb862) := ⟨h14_⟩
 have n15_ : Aside0 (gb866 ≠ gb870) := ⟨h15_⟩
 have n16_ : Aside0 (gb870 ≠ gb866) := ⟨h16_⟩
 have n17_ : Aside0 (gb871 ≠ gb870) := ⟨h17_⟩
 have n18_ : Aside0 (gb870 ≠ gb871) := ⟨h18_⟩
 have n19_ : Aside0 (gb872 ≠ gb870) := ⟨h19_⟩
 have n20_ : Aside0 (gb870 ≠ gb872) := ⟨h20_⟩
 have n21_ : Aside0 (w.heap.size ≤ gb871) := ⟨h21_⟩
 have n22_ : Aside0 (w.heap.size ≤ gb871) := ⟨h22_⟩
 have n23_ : Aside0 (gb861 ≠ gb871) := ⟨h23_⟩
 have n24_ : Aside0 (gb871 ≠ gb861) := ⟨h24_⟩
 have n25_ : Aside0 (gb862 ≠ gb871) := ⟨h25_⟩
 have n26_ : Aside0 (gb871 ≠ gb862) := ⟨h26_⟩
 have n27_ : Aside0 (gb866 ≠ gb871) := ⟨h27_⟩
 have n28_ : Aside0 (gb871 ≠ gb866) := ⟨h28_⟩
 have n29_ : Aside0 (gb872 ≠ gb871) := ⟨h29_⟩
 have n30_ : Aside0 (gb871 ≠ gb872) := ⟨h30_⟩
 have n31_ : Aside0 (w.heap.size ≤ gb872) := ⟨h31_⟩
 have n32_ : Aside0 (w.heap.size ≤ gb872) := ⟨h32_⟩
 have n33_ : Aside0 (gb861 ≠ gb872) := ⟨h33_⟩
 have n34_ : Aside0 (gb872 ≠ gb861) := ⟨h34_⟩
 have n35_ : Aside0 (gb862 ≠ gb872) := ⟨h35_⟩
 have n36_ : Aside0 (gb872 ≠ gb862) := ⟨h36_⟩
 have n37_ : Aside0 (gb866 ≠ gb872) := ⟨h37_⟩
 have n38_ : Aside0 (gb872 ≠ gb866) := ⟨h38_⟩
 have n39_ : Aside0 (Below w.heap.size w w49) := ⟨h39_⟩
 clear HO860
 clear HO865
 clear HO869
 clear BK861
 clear BK862
 clear BK866
 clear HB
 clear h0_ h1_ h2_ h3_ h4_ h5_ h6_ h7_ h8_ h9_ h10_ h11_ h12_ h13_ h14_ h15_ h16_ h17_ h18_ h19_ h20_ h21_ h22_ h23_ h24_ h25_ h26_ h27_ h28_ h29_ h30_ h31_ h32_ h33_ h34_ h35_ h36_ h37_ h38_ h39_
 have HO860 := n0_
 have HO865 := n1_
 have HO869 := n2_
 have BK861 := n3_
 have BK862 := n4_
 have BK866 := n5_
 have BK870 := n6_
 have BK871 := n7_
 have BK872 := n8_
 have GW870 := n9_
 have GE870 := n10_
 have NB861_870 := n11_
 have NB870_861 := n12_
 have NB862_870 := n13_
 have NB870_862 := n14_
 have NB866_870 := n15_
 have NB870_866 := n16_
 have NB871_870 := n17_
 have NB870_871 := n18_
 have NB872_870 := n19_
 have NB870_872 := n20_
 have GW871 := n21_
 have GE871 := n22_
 have NB861_871 := n23_
 have NB871_861 := n24_
 have NB862_871 := n25_
 have NB871_862 := n26_
 have NB866_871 := n27_
 have NB871_866 := n28_
 have NB872_871 := n29_
 have NB871_872 := n30_
 have GW872 := n31_
 have GE872 := n32_
 have NB861_872 := n33_
 have NB872_861 := n34_
 have NB862_872 := n35_
 have NB872_862 := n36_
 have NB866_872 := n37_
 have NB872_866 := n38_
 have HB := n39_
 clear n0_ n1_ n2_ n3_ n4_ n5_ n6_ n7_ n8_ n9_ n10_ n11_ n12_ n13_ n14_ n15_ n16_ n17_ n18_ n19_ n20_ n21_ n22_ n23_ n24_ n25_ n26_ n27_ n28_ n29_ n30_ n31_ n32_ n33_ n34_ n35_ n36_ n37_ n38_ n39_
 have hHeld : w49.cell? ⟨gb861, 0, none⟩ = some (.int .i64 (wrap64 (Int.tmod a4 9))) ∧ w49.cell? ⟨gb861, 1, none⟩ = some (.string t857) ∧ w49.cell? ⟨gb861, 2, none⟩ = some (.bool ((Int.tmod a2 2) == 1)) ∧ w49.cell? ⟨gb861, 3, none⟩ = some (.slice Ao26 t858.length co26) := hS_
 refine norm_ (a' := ?_) ?_ ?_
 rotate_left
 ·simp only [putAll, Act.put, List.setIfInBounds_toArray, List.set_cons_zero, List.set_cons_succ]
  rfl
 refine one_ (i := 6) (N := none) #[true, true, true, true, true, true, true, false, false] rfl rfl (one_of HT_.out (by kernel_rfl)) (by decide) (fun K hK => ?_)
 refine Hand.store_all_ (t := 28) (g := gb870) (cs := [.int .i64 0, .string (⟨#[]⟩ : ByteArray), .bool false, .slice none 0 0]) (vs := [_, _, _, _]) (by rfl) rfl _ _ rfl rfl rfl BK870.out rfl (by kernel_rfl) rfl ?_
 intro w49a hbS hkS hBS
 have n0_ := Aside0.mk (Kd.R_mono (Kd.R_keep (Kd.R_types HO860.out BK870.out (by decide)) hkS (fun _ h => h.2)) (fun _ h => h.1))
 have n1_ := Aside0.mk (Kd.R_mono (Kd.R_keep (Kd.R_types HO865.out BK870.out (by decide)) hkS (fun _ h => h.2)) (fun _ h => h.1))
 have n2_ := Aside0.mk (Kd.R_mono (Kd.R_keep (Kd.R_types HO869.out BK870.out (by decide)) hkS (fun _ h => h.2)) (fun _ h => h.1))
 have n3_ := Aside0.mk (hkS.blk BK861.out NB861_870.out (by simp))
 have n4_ := Aside0.mk (hkS.blk BK862.out NB862_870.out (by simp))
 have n5_ := Aside0.mk (hkS.blk BK866.out NB866_870.out (by simp))
 have n6_ := Aside0.mk hbS
 have n7_ := Aside0.mk (hkS.blk BK871.out NB871_870.out (by simp))
 have n8_ := Aside0.mk (hkS.blk BK872.out NB872_870.out (by simp))
 have n9_ := Aside0.mk (hBS w HB.out GE870.out)
 clear HO860 HO865 HO869 BK861 BK862 BK866 BK870 BK871 BK872 HB hbS hkS hBS
 have HO860 := n0_
 have HO865 := n1_
 have HO869 := n2_
 have BK861 := n3_
 have BK862 := n4_
 have BK866 := n5_
 have BK870 := n6_
 have BK871 := n7_
 have BK872 := n8_
 have HB := n9_
 clear n0_ n1_ n2_ n3_ n4_ n5_ n6_ n7_ n8_ n9_
 refine hK.out _ _ ⟨(blk_cell BK861.out 0).trans rfl, (blk_cell BK861.out 1).trans rfl, (blk_cell BK861.out 2).trans rfl, (blk_cell BK861.out 3).trans rfl⟩ (fun hHeld => ?_)
 clear hK K
 refine one_ (i := 7) (N := none) #[true, true, true, true, true, true, true, true, false] rfl rfl (one_of HT_.out (by kernel_rfl)) (by decide) (fun K hK => ?_)
 refine Hand.store_all_ (t := 28) (g := gb871) (cs := [.int .i64 0, .string (⟨#[]⟩ : ByteArray), .bool false, .slice none 0 0]) (vs := [_, _, _, _]) (by rfl) rfl _ _ rfl rfl rfl BK871.out rfl (by kernel_rfl) rfl ?_
 intro w49b hbS hkS hBS
 have n0_ := Aside0.mk (Kd.R_mono (Kd.R_keep (Kd.R_types HO860.out BK871.out (by decide)) hkS (fun _ h => h.2)) (fun _ h => h.1))
 have n1_ := Aside0.mk (Kd.R_mono (Kd.R_keep (Kd.R_types HO865.out BK871.out (by decide)) hkS (fun _ h => h.2)) (fun _ h => h.1))
 have n2_ := Aside0.mk (Kd.R_mono (Kd.R_keep (Kd.R_types HO869.out BK871.out (by decide)) hkS (fun _ h => h.2)) (fun _ h => h.1))
 have n3_ := Aside0.mk (hkS.blk BK861.out NB861_871.out (by simp))
 have n4_ := Aside0.mk (hkS.blk BK862.out NB862_871.out (by simp))
 have n5_ := Aside0.mk (hkS.blk BK866.out NB866_871.out (by simp))
 have n6_ := Aside0.mk (hkS.blk BK870.out NB870_871.out (by simp))
 have n7_ := Aside0.mk hbS
 have n8_ := Aside0.mk (hkS.blk BK872.out NB872_871.out (by simp))
 have n9_ := Aside0.mk (hBS w HB.out GE871.out)
 clear HO860 HO865 HO869 BK861 BK862 BK866 BK870 BK871 BK872 HB hbS hkS hBS
 have HO860 := n0_
 have HO865 := n1_
 have HO869 := n2_
 have BK861 := n3_
 have BK862 := n4_
 have BK866 := n5_
 have BK870 := n6_
 have BK871 := n7_
 have BK872 := n8_
 have HB := n9_
 clear n0_ n1_ n2_ n3_ n4_ n5_ n6_ n7_ n8_ n9_
 refine hK.out _ _ ⟨(blk_cell BK861.out 0).trans rfl, (blk_cell BK861.out 1).trans rfl, (blk_cell BK861.out 2).trans rfl, (blk_cell BK861.out 3).trans rfl⟩ (fun hHeld => ?_)
 clear hK K
 refine one_ (i := 8) (N := none) #[true, true, true, true, true, true, true, true, true] rfl rfl (one_of HT_.out (by kernel_rfl)) (by decide) (fun K hK => ?_)
 refine Hand.store_all_ (t := 28) (g := gb872) (cs := [.int .i64 0, .string (⟨#[]⟩ : ByteArray), .bool false, .slice none 0 0]) (vs := [_, _, _, _]) (by rfl) rfl _ _ rfl rfl rfl BK872.out rfl (by kernel_rfl) rfl ?_
 intro w49c hbS hkS hBS
 have n0_ := Aside0.mk (Kd.R_mono (Kd.R_keep (Kd.R_types HO860.out BK872.out (by decide)) hkS (fun _ h => h.2)) (fun _ h => h.1))
 have n1_ := Aside0.mk (Kd.R_mono (Kd.R_keep (Kd.R_types HO865.out BK872.out (by decide)) hkS (fun _ h => h.2)) (fun _ h => h.1))
 have n2_ := Aside0.mk (Kd.R_mono (Kd.R_keep (Kd.R_types HO869.out BK872.out (by decide)) hkS (fun _ h => h.2)) (fun _ h => h.1))
 have n3_ := Aside0.mk (hkS.blk BK861.out NB861_872.out (by simp))
 have n4_ := Aside0.mk (hkS.blk BK862.out NB862_872.out (by simp))
 have n5_ := Aside0.mk (hkS.blk BK866.out NB866_872.out (by simp))
 have n6_ := Aside0.mk (hkS.blk BK870.out NB870_872.out (by simp))
 have n7_ := Aside0.mk (hkS.blk BK871.out NB871_872.out (by simp))
 have n8_ := Aside0.mk hbS
 have n9_ := Aside0.mk (hBS w HB.out GE872.out)
 clear HO860 HO865 HO869 BK861 BK862 BK866 BK870 BK871 BK872 HB hbS hkS hBS
 have HO860 := n0_
 have HO865 := n1_
 have HO869 := n2_
 have BK861 := n3_
 have BK862 := n4_
 have BK866 := n5_
 have BK870 := n6_
 have BK871 := n7_
 have BK872 := n8_
 have HB := n9_
 clear n0_ n1_ n2_ n3_ n4_ n5_ n6_ n7_ n8_ n9_
 refine hK.out _ _ ⟨(blk_cell BK861.out 0).trans rfl, (blk_cell BK861.out 1).trans rfl, (blk_cell BK861.out 2).trans rfl, (blk_cell BK861.out 3).trans rfl⟩ (fun hHeld => ?_)
 clear hK K
 refine done_ (done_of HT_.out (by kernel_rfl)) ?_
 have hnb62 := NB870_861.out
 have hnc62 := NB861_870.out
 have hnb63 := NB870_862.out
 have hnc63 := NB862_870.out
 have hnb64 := NB870_866.out
 have hnc64 := NB866_870.out
 have hnb65 := NB870_871.out
 have hnc65 := NB871_870.out
 have hnb66 := NB870_872.out
 have hnc66 := NB872_870.out
 have hcz67_0 : w49c.cell? ⟨gb870, 0, none⟩ = some (.int .i64 (wrap64 (Int.tmod a4 9))) := (blk_cell BK870.out 0).trans rfl
 have hcz67_1 : w49c.cell? ⟨gb870, 1, none⟩ = some (.string t857) := (blk_cell BK870.out 1).trans rfl
 have hcz67_2 : w49c.cell? ⟨gb870, 2, none⟩ = some (.bool ((Int.tmod a2 2) == 1)) := (blk_cell BK870.out 2).trans rfl
 have hcz67_3 : w49c.cell? ⟨gb870, 3, none⟩ = some (.slice Ao26 t858.length co26) := (blk_cell BK870.out 3).trans rfl
 have hfz67_0 := blk_frozen BK870.out 0
 have hfz67_1 := blk_frozen BK870.out 1
 have hfz67_2 := blk_frozen BK870.out 2
 have hfz67_3 := blk_frozen BK870.out 3
 have hnb68 := NB871_861.out
 have hnc68 := NB861_871.out
 have hnb69 := NB871_862.out
 have hnc69 := NB862_871.out
 have hnb70 := NB871_866.out
 have hnc70 := NB866_871.out
 have hnb71 := NB871_872.out
 have hnc71 := NB872_871.out
 have hcz72_0 : w49c.cell? ⟨gb871, 0, none⟩ = some (.int .i64 (wrap64 (Int.tmod a4 9))) := (blk_cell BK871.out 0).trans rfl
 have hcz72_1 : w49c.cell? ⟨gb871, 1, none⟩ = some (.string t857) := (blk_cell BK871.out 1).trans rfl
 have hcz72_2 : w49c.cell? ⟨gb871, 2, none⟩ = some (.bool ((Int.tmod a2 2) == 1)) := (blk_cell BK871.out 2).trans rfl
 have hcz72_3 : w49c.cell? ⟨gb871, 3, none⟩ = some (.slice Ao26 t858.length co26) := (blk_cell BK871.out 3).trans rfl
 have hfz72_0 := blk_frozen BK871.out 0
 have hfz72_1 := blk_frozen BK871.out 1
 have hfz72_2 := blk_frozen BK871.out 2
 have hfz72_3 := blk_frozen BK871.out 3
 have hnb73 := NB872_861.out
 have hnc73 := NB861_872.out
 have hnb74 := NB872_862.out
 have hnc74 := NB862_872.out
 have hnb75 := NB872_866.out
 have hnc75 := NB866_872.out
 have hcz76_0 : w49c.cell? ⟨gb872, 0, none⟩ = some (.int .i64 (wrap64 (Int.tmod a4 9))) := (blk_cell BK872.out 0).trans rfl
 have hcz76_1 : w49c.cell? ⟨gb872, 1, none⟩ = some (.string t857) := (blk_cell BK872.out 1).trans rfl
 have hcz76_2 : w49c.cell? ⟨gb872, 2, none⟩ = some (.bool ((Int.tmod a2 2) == 1)) := (blk_cell BK872.out 2).trans rfl
 have hcz76_3 : w49c.cell? ⟨gb872, 3, none⟩ = some (.slice Ao26 t858.length co26) := (blk_cell BK872.out 3).trans rfl
 have hfz76_0 := blk_frozen BK872.out 0
 have hfz76_1 := blk_frozen BK872.out 1
 have hfz76_2 := blk_frozen BK872.out 2
 have hfz76_3 := blk_frozen BK872.out 3
 try go_wp2
 have n0_ : Aside0 (Kd.R k43 43 (((w49c.setCell ⟨gb870, 0, none⟩ (.int .i64 (wrap64 ((wrap64 (Int.tmod a4 9)) + 1)))).setCell ⟨gb871, 2, none⟩ (.bool (!((Int.tmod a2 2) == 1)))).setCell ⟨gb872, 1, none⟩ (.string (t857 ++ (⟨#[1, 113]⟩ : ByteArray)))) w.heap.size (fun k_ => nb (.slice Ao34 y863.length co34) k_ ∧ nb (.slice Ao42 t867.length co42) k_) (.slice Ao26 t858.length co26) t858) := ⟨Kd.R_mono (Kd.R_far (p := ⟨gb872, 1, none⟩) (Kd.R_far (p := ⟨gb871, 2, none⟩) (Kd.R_far (p := ⟨gb870, 0, none⟩) (Kd.R_types (Kd.R_types (Kd.R_types HO860.out BK870.out (by decide)) BK871.out (by decide)) BK872.out (by decide)) (fun _ hk => hk.1.1.2) (.int .i64 (wrap64 ((wrap64 (Int.tmod a4 9)) + 1)))) (fun _ hk => hk.1.2) (.bool (!((Int.tmod a2 2) == 1)))) (fun _ hk => hk.2) (.string (t857 ++ (⟨#[1, 113]⟩ : ByteArray)))) (fun _ hk => hk.1.1.1)⟩
 have n1_ : Aside0 (Kd.R k43 43 (((w49c.setCell ⟨gb870, 0, none⟩ (.int .i64 (wrap64 ((wrap64 (Int.tmod a4 9)) + 1)))).setCell ⟨gb871, 2, none⟩ (.bool (!((Int.tmod a2 2) == 1)))).setCell ⟨gb872, 1, none⟩ (.string (t857 ++ (⟨#[1, 113]⟩ : ByteArray)))) w.heap.size (fun k_ => nb (.slice Ao26 t858.length co26) k_ ∧ nb (.slice Ao42 t867.length co42) k_) (.slice Ao34 y863.length co34) y863) := ⟨Kd.R_mono (Kd.R_far (p := ⟨gb872, 1, none⟩) (Kd.R_far (p := ⟨gb871, 2, none⟩) (Kd.R_far (p := ⟨gb870, 0, none⟩) (Kd.R_types (Kd.R_types (Kd.R_types HO865.out BK870.out (by decide)) BK871.out (by decide)) BK872.out (by decide)) (fun _ hk => hk.1.1.2) (.int .i64 (wrap64 ((wrap64 (Int.tmod a4 9)) + 1)))) (fun _ hk => hk.1.2) (.bool (!((Int.tmod a2 2) == 1)))) (fun _ hk => hk.2) (.string (t857 ++ (⟨#[1, 113]⟩ : ByteArray)))) (fun _ hk => hk.1.1.1)⟩
 have n2_ : Aside0 (Kd.R k43 43 (((w49c.setCell ⟨gb870, 0, none⟩ (.int .i64 (wrap64 ((wrap64 (Int.tmod a4 9)) + 1)))).setCell ⟨gb871, 2, none⟩ (.bool (!((Int.tmod a2 2) == 1)))).setCell ⟨gb872, 1, none⟩ (.string (t857 ++ (⟨#[1, 113]⟩ : ByteArray)))) w.heap.size (fun k_ => nb (.slice Ao26 t858.length co26) k_ ∧ nb (.slice Ao34 y863.length co34) k_) (.slice Ao42 t867.length co42) t867) := ⟨Kd.R_mono (Kd.R_far (p := ⟨gb872, 1, none⟩) (Kd.R_far (p := ⟨gb871, 2, none⟩) (Kd.R_far (p := ⟨gb870, 0, none⟩) (Kd.R_types (Kd.R_types (Kd.R_types HO869.out BK870.out (by decide)) BK871.out (by decide)) BK872.out (by decide)) (fun _ hk => hk.1.1.2) (.int .i64 (wrap64 ((wrap64 (Int.tmod a4 9)) + 1)))) (fun _ hk => hk.1.2) (.bool (!((Int.tmod a2 2) == 1)))) (fun _ hk => hk.2) (.string (t857 ++ (⟨#[1, 113]⟩ : ByteArray)))) (fun _ hk => hk.1.1.1)⟩
 have n3_ : Aside0 ((((w49c.setCell ⟨gb870, 0, none⟩ (.int .i64 (wrap64 ((wrap64 (Int.tmod a4 9)) + 1)))).setCell ⟨gb871, 2, none⟩ (.bool (!((Int.tmod a2 2) == 1)))).setCell ⟨gb872, 1, none⟩ (.string (t857 ++ (⟨#[1, 113]⟩ : ByteArray)))).heap[gb861]? = some (.cells #[.int .i64 (wrap64 (Int.tmod a4 9)), .string t857, .bool ((Int.tmod a2 2) == 1), .slice Ao26 t858.length co26] 28 (0, 0))) := ⟨blk_far (blk_far (blk_far BK861.out NB861_870.out _) NB861_871.out _) NB861_872.out _⟩
 have n4_ : Aside0 ((((w49c.setCell ⟨gb870, 0, none⟩ (.int .i64 (wrap64 ((wrap64 (Int.tmod a4 9)) + 1)))).setCell ⟨gb871, 2, none⟩ (.bool (!((Int.tmod a2 2) == 1)))).setCell ⟨gb872, 1, none⟩ (.string (t857 ++ (⟨#[1, 113]⟩ : ByteArray)))).heap[gb862]? = some (.cells #[.int .i64 (wrap64 (Int.tmod a4 9)), .string t857, .bool ((Int.tmod a2 2) == 1), .slice Ao34 y863.length co34] 28 (0, 0))) := ⟨blk_far (blk_far (blk_far BK862.out NB862_870.out _) NB862_871.out _) NB862_872.out _⟩
 have n5_ : Aside0 ((((w49c.setCell ⟨gb870, 0, none⟩ (.int .i64 (wrap64 ((wrap64 (Int.tmod a4 9)) + 1)))).setCell ⟨gb871, 2, none⟩ (.bool (!((Int.tmod a2 2) == 1)))).setCell ⟨gb872, 1, none⟩ (.string (t857 ++ (⟨#[1, 113]⟩ : ByteArray)))).heap[gb866]? = some (.cells #[.int .i64 (wrap64 (Int.tmod a4 9)), .string t857, .bool ((Int.tmod a2 2) == 1), .slice Ao42 t867.length co42] 28 (0, 0))) := ⟨blk_far (blk_far (blk_far BK866.out NB866_870.out _) NB866_871.out _) NB866_872.out _⟩
 have n6_ : Aside0 ((((w49c.setCell ⟨gb870, 0, none⟩ (.int .i64 (wrap64 ((wrap64 (Int.tmod a4 9)) + 1)))).setCell ⟨gb871, 2, none⟩ (.bool (!((Int.tmod a2 2) == 1)))).setCell ⟨gb872, 1, none⟩ (.string (t857 ++ (⟨#[1, 113]⟩ : ByteArray)))).heap[gb870]? = some (.cells #[.int .i64 (wrap64 ((wrap64 (Int.tmod a4 9)) + 1)), .string t857, .bool ((Int.tmod a2 2) == 1), .slice Ao26 t858.length co26] 28 (0, 0))) := ⟨blk_far (blk_far (blk_put BK870.out 0 _ rfl) NB870_871.out _) NB870_872.out _⟩
 have n7_ : Aside0 ((((w49c.setCell ⟨gb870, 0, none⟩ (.int .i64 (wrap64 ((wrap64 (Int.tmod a4 9)) + 1)))).setCell ⟨gb871, 2, none⟩ (.bool (!((Int.tmod a2 2) == 1)))).setCell ⟨gb872, 1, none⟩ (.string (t857 ++ (⟨#[1, 113]⟩ : ByteArray)))).heap[gb871]? = some (.cells #[.int .i64 (wrap64 (Int.tmod a4 9)), .string t857, .bool (!((Int.tmod a2 2) == 1)), .slice Ao26 t858.length co26] 28 (0, 0))) := ⟨blk_far (blk_put (blk_far BK871.out NB871_870.out _) 2 _ rfl) NB871_872.out _⟩
 have n8_ : Aside0 ((((w49c.setCell ⟨gb870, 0, none⟩ (.int .i64 (wrap64 ((wrap64 (Int.tmod a4 9)) + 1)))).setCell ⟨gb871, 2, none⟩ (.bool (!((Int.tmod a2 2) == 1)))).setCell ⟨gb872, 1, none⟩ (.string (t857 ++ (⟨#[1, 113]⟩ : ByteArray)))).heap[gb872]? = some (.cells #[.int .i64 (wrap64 (Int.tmod a4 9)), .string (t857 ++ (⟨#[1, 113]⟩ : ByteArray)), .bool ((Int.tmod a2 2) == 1), .slice Ao26 t858.length co26] 28 (0, 0))) := ⟨blk_put (blk_far (blk_far BK872.out NB872_870.out _) NB872_871.out _) 1 _ rfl⟩
 have n9_ : Aside0 (Below w.heap.size w (((w49c.setCell ⟨gb870, 0, none⟩ (.int .i64 (wrap64 ((wrap64 (Int.tmod a4 9)) + 1)))).setCell ⟨gb871, 2, none⟩ (.bool (!((Int.tmod a2 2) == 1)))).setCell ⟨gb872, 1, none⟩ (.string (t857 ++ (⟨#[1, 113]⟩ : ByteArray))))) := ⟨below_set (below_set (below_set HB.out GE870.out) GE871.out) GE872.out⟩
 (try clear HO860)
 (try clear HO865)
 (try clear HO869)
 (try clear BK861)
 (try clear BK862)
 (try clear BK866)
 (try clear BK870)
 (try clear BK871)
 (try clear BK872)
 (try clear HB)
 generalize (((w49c.setCell ⟨gb870, 0, none⟩ (.int .i64 (wrap64 ((wrap64 (Int.tmod a4 9)) + 1)))).setCell ⟨gb871, 2, none⟩ (.bool (!((Int.tmod a2 2) == 1)))).setCell ⟨gb872, 1, none⟩ (.string (t857 ++ (⟨#[1, 113]⟩ : ByteArray)))) = w77 at n0_ n1_ n2_ n3_ n4_ n5_ n6_ n7_ n8_ n9_ ⊢
 have HO860 := n0_
 have HO865 := n1_
 have HO869 := n2_
 have BK861 := n3_
 have BK862 := n4_
 have BK866 := n5_
 have BK870 := n6_
 have BK871 := n7_
 have BK872 := n8_
 have HB := n9_
 clear n0_ n1_ n2_ n3_ n4_ n5_ n6_ n7_ n8_ n9_
 have n0_ := Aside0.mk (Kd.R_drew HO860.out)
 have n1_ := Aside0.mk (Kd.R_drew HO865.out)
 have n2_ := Aside0.mk (Kd.R_drew HO869.out)
 have n3_ := Aside0.mk (blk_drew BK861.out)
 have n4_ := Aside0.mk (blk_drew BK862.out)
 have n5_ := Aside0.mk (blk_drew BK866.out)
 have n6_ := Aside0.mk (blk_drew BK870.out)
 have n7_ := Aside0.mk (blk_drew BK871.out)
 have n8_ := Aside0.mk (blk_drew BK872.out)
 have n9_ := Aside0.mk (below_drew1 HB.out)
 clear HO860
 clear HO865
 clear HO869
 clear BK861
 clear BK862
 clear BK866
 clear BK870
 clear BK871
 clear BK872
 clear HB
 have HO860 := n0_
 have HO865 := n1_
 have HO869 := n2_
 have BK861 := n3_
 have BK862 := n4_
 have BK866 := n5_
 have BK870 := n6_
 have BK871 := n7_
 have BK872 := n8_
 have HB := n9_
 clear n0_ n1_ n2_ n3_ n4_ n5_ n6_ n7_ n8_ n9_
 refine start_ (n := 33) (S := fun w' => w'.cell? ⟨gb861, 0, none⟩ = some (.int .i64 (wrap64 (Int.tmod a4 9))) ∧ w'.cell? ⟨gb861, 1, none⟩ = some (.string t857) ∧ w'.cell? ⟨gb861, 2, none⟩ = some (.bool ((Int.tmod a2 2) == 1)) ∧ w'.cell? ⟨gb861, 3, none⟩ = some (.slice Ao26 t858.length co26) ∧ w'.cell? ⟨gb862, 0, none⟩ = some (.int .i64 (wrap64 (Int.tmod a4 9))) ∧ w'.cell? ⟨gb862, 1, none⟩ = some (.string t857) ∧ w'.cell? ⟨gb862, 2, none⟩ = some (.bool ((Int.tmod a2 2) == 1)) ∧ w'.cell? ⟨gb862, 3, none⟩ = some (.slice Ao34 y863.length co34) ∧ w'.cell? ⟨gb866, 0, none⟩ = some (.int .i64 (wrap64 (Int.tmod a4 9))) ∧ w'.cell? ⟨gb866, 1, none⟩ = some (.string t857) ∧ w'.cell? ⟨gb866, 2, none⟩ = some (.bool ((Int.tmod a2 2) == 1)) ∧ w'.cell? ⟨gb866, 3, none⟩ = some (.slice Ao42 t867.length co42) ∧ w'.cell? ⟨gb870, 0, none⟩ = some (.int .i64 (wrap64 ((wrap64 (Int.tmod a4 9)) + 1))) ∧ w'.cell? ⟨gb870, 1, none⟩ = some (.string t857) ∧ w'.cell? ⟨gb870, 2, none⟩ = some (.bool ((Int.tmod a2 2) == 1)) ∧ w'.cell? ⟨gb870, 3, none⟩ = some (.slice Ao26 t858.length co26) ∧ w'.cell? ⟨gb871, 0, none⟩ = some (.int .i64 (wrap64 (Int.tmod a4 9))) ∧ w'.cell? ⟨gb871, 1, none⟩ = some (.string t857) ∧ w'.cell? ⟨gb871, 2, none⟩ = some (.bool (!((Int.tmod a2 2) == 1))) ∧ w'.cell? ⟨gb871, 3, none⟩ = some (.slice Ao26 t858.length co26) ∧ w'.cell? ⟨gb872, 0, none⟩ = some (.int .i64 (wrap64 (Int.tmod a4 9))) ∧ w'.cell? ⟨gb872, 1, none⟩ = some (.string (t857 ++ (⟨#[1, 113]⟩ : ByteArray))) ∧ w'.cell? ⟨gb872, 2, none⟩ = some (.bool ((Int.tmod a2 2) == 1)) ∧ w'.cell? ⟨gb872, 3, none⟩ = some (.slice Ao26 t858.length co26)) (ds := []) #[false, false, false, false, false, false, false, false, false, false, false, false, false, false, false, false, false, false, false, false, false, false, false, false, false, false, false, false, false, false, false, false, false] (by kernel_rfl) rfl rfl ⟨(blk_cell BK861.out 0).trans rfl, (blk_cell BK861.out 1).trans rfl, (blk_cell BK861.out 2).trans rfl, (blk_cell BK861.out 3).trans rfl, (blk_cell BK862.out 0).trans rfl, (blk_cell BK862.out 1).trans rfl, (blk_cell BK862.out 2).trans rfl, (blk_cell BK862.out 3).trans rfl, (blk_cell BK866.out 0).trans rfl, (blk_cell BK866.out 1).trans rfl, (blk_cell BK866.out 2).trans rfl, (blk_cell BK866.out 3).trans rfl, (blk_cell BK870.out 0).trans rfl, (blk_cell BK870.out 1).trans rfl, (blk_cell BK870.out 2).trans rfl, (blk_cell BK870.out 3).trans rfl, (blk_cell BK871.out 0).trans rfl, (blk_cell BK871.out 1).trans rfl, (blk_cell BK871.out 2).trans rfl, (blk_cell BK871.out 3).trans rfl, (blk_cell BK872.out 0).trans rfl, (blk_cell BK872.out 1).trans rfl, (blk_cell BK872.out 2).trans rfl, (blk_cell BK872.out 3).trans rfl⟩ (fun hHeld => ?_); refine with_tabW bolterlaw14_ActionSame.tab12 bolterlaw14_ActionSame.bits12 (fun HT_ HW_ => ?_)
 generalize w77.drew = w78 at HO860 HO865 HO869 BK861 BK862 BK866 BK870 BK871 BK872 HB hHeld ⊢
 refine take_ (i := 0) (N := some 55) (v := ?_) (a' := ?_) #[true, false, false, false, false, false, false, false, false, false, false, false, false, false, false, false, false, false, false, false, false, false, false, false, false, false, false, false, false, false, false, false, false] rfl rfl (take_ofW HT_.out HW_.out (by kernel_rfl)) (fun _ _ _ h => h) (Or.inl ⟨by rfl, ?_⟩) hHeld ?_ ?_
 rotate_left
 ·rintro w' ⟨s0, s1, s2, s3, s4, s5, s6, s7, s8, s9, s10, s11, s12, s13, s14, s15, s16, s17, s18, s19, s20, s21, s22, s23⟩
  go_simp
  with_reducible rfl
 rotate_left
 ·simp only [Act.put, List.setIfInBounds_toArray, List.set_cons_zero, List.set_cons_succ, i64_w, i32_w]
  rfl
 refine take_ (i := 1) (N := some 56) (v := ?_) (a' := ?_) #[true, true, false, false, false, false, false, false, false, false, false, false, false, false, false, false, false, false, false, false, false, false, false, false, false, false, false, false, false, false, false, false, false] rfl rfl (take_ofW HT_.out HW_.out (by kernel_rfl)) (fun _ _ _ h => h) (Or.inl ⟨by rfl, ?_⟩) hHeld ?_ ?_
 rotate_left
 ·rintro w' ⟨s0, s1, s2, s3, s4, s5, s6, s7, s8, s9, s10, s11, s12, s13, s14, s15, s16, s17, s18, s19, s20, s21, s22, s23⟩
  go_simp
  with_reducible rfl
 rotate_left
 ·simp only [Act.put, List.setIfInBounds_toArray, List.set_cons_zero, List.set_cons_succ, i64_w, i32_w]
  rfl
 refine one_ (i := 2) (N := some 57) #[true, true, true, false, false, false, false, false, false, false, false, false, false, false, false, false, false, false, false, false, false, false, false, false, false, false, false, false, false, false, false, false, false] rfl rfl (one_of HT_.out (by kernel_rfl)) (by decide) (fun K hK => ?_)
 refine goes_ Try.func20 (by kernel_rfl) rfl #[.agg #[.int .i64 (wrap64 (Int.tmod a4 9)), .string t857, .bool ((Int.tmod a2 2) == 1), .slice Ao26 t858.length co26], .agg #[.int .i64 (wrap64 (Int.tmod a4 9)), .string t857, .bool ((Int.tmod a2 2) == 1), .slice Ao34 y863.length co34]] (by rfl) rfl rfl (by (try simp only [List.map_toArray, List.map_cons, List.map_nil]); first | done | rfl | (simp only [List.length_drop, List.length_take]; rfl)) ?_
 with_reducible refine (action_Same.calls k (wrap64 (Int.tmod a4 9)) t857 ((Int.tmod a2 2) == 1) _ _ t858 (wrap64 (Int.tmod a4 9)) t857 ((Int.tmod a2 2) == 1) _ _ y863 true _ ?side1 ?side2 ?side3 ?side4 A13.out).mono ?_
 (case side1 => repeat (first | exact (Kd.R_reads' HO860.out).2.2 | (with_reducible refine Kd.C_alloc ?_ _) | (with_reducible refine Kd.C_drewN ?_ _) | (with_reducible refine Kd.C_drew ?_)))
 (case side2 => exact (Kd.R_reads' HO860.out).2.1)
 (case side3 => repeat (first | exact (Kd.R_reads' HO865.out).2.2 | (with_reducible refine Kd.C_alloc ?_ _) | (with_reducible refine Kd.C_drewN ?_ _) | (with_reducible refine Kd.C_drew ?_)))
 (case side4 => exact (Kd.R_reads' HO865.out).2.1)
 rintro e w79 ⟨rfl, hb⟩
 refine ⟨_, rfl, ?_⟩
 have n0_ := Aside0.mk (Kd.R_below HO860.out hb)
 have n1_ := Aside0.mk (Kd.R_below HO865.out hb)
 have n2_ := Aside0.mk (Kd.R_below HO869.out hb)
 have n3_ := Aside0.mk (blk_below (g := gb861) (o := .cells #[.int .i64 (wrap64 (Int.tmod a4 9)), .string t857, .bool ((Int.tmod a2 2) == 1), .slice Ao26 t858.length co26] 28 (0, 0)) BK861.out hb)
 have n4_ := Aside0.mk (blk_below (g := gb862) (o := .cells #[.int .i64 (wrap64 (Int.tmod a4 9)), .string t857, .bool ((Int.tmod a2 2) == 1), .slice Ao34 y863.length co34] 28 (0, 0)) BK862.out hb)
 have n5_ := Aside0.mk (blk_below (g := gb866) (o := .cells #[.int .i64 (wrap64 (Int.tmod a4 9)), .string t857, .bool ((Int.tmod a2 2) == 1), .slice Ao42 t867.length co42] 28 (0, 0)) BK866.out hb)
 have n6_ := Aside0.mk (blk_below (g := gb870) (o := .cells #[.int .i64 (wrap64 ((wrap64 (Int.tmod a4 9)) + 1)), .string t857, .bool ((Int.tmod a2 2) == 1), .slice Ao26 t858.length co26] 28 (0, 0)) BK870.out hb)
 have n7_ := Aside0.mk (blk_below (g := gb871) (o := .cells #[.int .i64 (wrap64 (Int.tmod a4 9)), .string t857, .bool (!((Int.tmod a2 2) == 1)), .slice Ao26 t858.length co26] 28 (0, 0)) BK871.out hb)
 have n8_ := Aside0.mk (blk_below (g := gb872) (o := .cells #[.int .i64 (wrap64 (Int.tmod a4 9)), .string (t857 ++ (⟨#[1, 113]⟩ : ByteArray)), .bool ((Int.tmod a2 2) == 1), .slice Ao26 t858.length co26] 28 (0, 0)) BK872.out hb)
 have n9_ := Aside0.mk (below_step HB.out hb)
 clear HO860
 clear HO865
 clear HO869
 clear BK861
 clear BK862
 clear BK866
 clear BK870
 clear BK871
 clear BK872
 clear HB
 have HO860 := n0_
 have HO865 := n1_
 have HO869 := n2_
 have BK861 := n3_
 have BK862 := n4_
 have BK866 := n5_
 have BK870 := n6_
 have BK871 := n7_
 have BK872 := n8_
 have HB := n9_
 clear n0_ n1_ n2_ n3_ n4_ n5_ n6_ n7_ n8_ n9_
 (try clear hb)
 (try clear hb2)
 (try clear hk)
 (try clear hi)
 refine hK.out _ _ ⟨(blk_cell BK861.out 0).trans rfl, (blk_cell BK861.out 1).trans rfl, (blk_cell BK861.out 2).trans rfl, (blk_cell BK861.out 3).trans rfl, (blk_cell BK862.out 0).trans rfl, (blk_cell BK862.out 1).trans rfl, (blk_cell BK862.out 2).trans rfl, (blk_cell BK862.out 3).trans rfl, (blk_cell BK866.out 0).trans rfl, (blk_cell BK866.out 1).trans rfl, (blk_cell BK866.out 2).trans rfl, (blk_cell BK866.out 3).trans rfl, (blk_cell BK870.out 0).trans rfl, (blk_cell BK870.out 1).trans rfl, (blk_cell BK870.out 2).trans rfl, (blk_cell BK870.out 3).trans rfl, (blk_cell BK871.out 0).trans rfl, (blk_cell BK871.out 1).trans rfl, (blk_cell BK871.out 2).trans rfl, (blk_cell BK871.out 3).trans rfl, (blk_cell BK872.out 0).trans rfl, (blk_cell BK872.out 1).trans rfl, (blk_cell BK872.out 2).trans rfl, (blk_cell BK872.out 3).trans rfl⟩ (fun hHeld => ?_)
 clear hK K
 refine norm_ (a' := ?_) ?_ ?_
 rotate_left
 ·show Act.put _ (some 57) _ = _
  simp only [Act.put, List.setIfInBounds_toArray, List.set_cons_zero, List.set_cons_succ, i64_w, i32_w]
  rfl
 refine pure_ (i := 3) (N := some 58) (v := ?_) (a' := ?_) #[true, true, true, true, false, false, false, false, false, false, false, false, false, false, false, false, false, false, false, false, false, false, false, false, false, false, false, false, false, false, false, false, false] rfl rfl (any_of HT_.out (by kernel_rfl)) (fun _ _ _ h => h) (Or.inl ⟨by rfl, ?_⟩) ?_ ?_
 rotate_left
 ·intro w'
  go_simp
  with_reducible rfl
 rotate_left
 ·simp only [Act.put, List.setIfInBounds_toArray, List.set_cons_zero, List.set_cons_succ, i64_w, i32_w]
  rfl
 refine pure_ (i := 7) (N := some 62) (v := ?_) (a' := ?_) #[true, true, true, true, false, false, false, true, false, false, false, false, false, false, false, false, false, false, false, false, false, false, false, false, false, false, false, false, false, false, false, false, false] rfl rfl (any_of HT_.out (by kernel_rfl)) (fun _ _ _ h => h) (Or.inl ⟨by rfl, ?_⟩) ?_ ?_
 rotate_left
 ·intro w'
  go_simp
  with_reducible rfl
 rotate_left
 ·simp only [Act.put, List.setIfInBounds_toArray, List.set_cons_zero, List.set_cons_succ, i64_w, i32_w]
  rfl
 refine pure_ (i := 9) (N := some 64) (v := ?_) (a' := ?_) #[true, true, true, true, false, false, false, true, false, true, false, false, false, false, false, false, false, false, false, false, false, false, false, false, false, false, false, false, false, false, false, false, false] rfl rfl (any_of HT_.out (by kernel_rfl)) (fun _ _ _ h => h) (Or.inl ⟨by rfl, ?_⟩) ?_ ?_
 rotate_left
 ·intro w'
  go_simp
  with_reducible rfl
 rotate_left
 ·simp only [Act.put, List.setIfInBounds_toArray, List.set_cons_zero, List.set_cons_succ, i64_w, i32_w]
  rfl
 refine take_ (i := 4) (N := some 59) (v := ?_) (a' := ?_) #[true, true, true, true, true, false, false, true, false, true, false, false, false, false, false, false, false, false, false, false, false, false, false, false, false, false, false, false, false, false, false, false, false] rfl rfl (take_ofW HT_.out HW_.out (by kernel_rfl)) (fun _ _ _ h => h) (Or.inl ⟨by rfl, ?_⟩) hHeld ?_ ?_
 rotate_left
 ·rintro w' ⟨s0, s1, s2, s3, s4, s5, s6, s7, s8, s9, s10, s11, s12, s13, s14, s15, s16, s17, s18, s19, s20, s21, s22, s23⟩
  go_simp
  with_reducible rfl
 rotate_left
 ·simp only [Act.put, List.setIfInBounds_toArray, List.set_cons_zero, List.set_cons_succ, i64_w, i32_w]
  rfl
 refine take_ (i := 5) (N := some 60) (v := ?_) (a' := ?_) #[true, true, true, true, true, true, false, true, false, true, false, false, false, false, false, false, false, false, false, false, false, false, false, false, false, false, false, false, false, false, false, false, false] rfl rfl (take_ofW HT_.out HW_.out (by kernel_rfl)) (fun _ _ _ h => h) (Or.inl ⟨by rfl, ?_⟩) hHeld ?_ ?_
 rotate_left
 ·rintro w' ⟨s0, s1, s2, s3, s4, s5, s6, s7, s8, s9, s10, s11, s12, s13, s14, s15, s16, s17, s18, s19, s20, s21, s22, s23⟩
  go_simp
  with_reducible rfl
 rotate_left
 ·simp only [Act.put, List.setIfInBounds_toArray, List.set_cons_zero, List.set_cons_succ, i64_w, i32_w]
  rfl
 refine take_ (i := 8) (N := some 63) (v := ?_) (a' := ?_) #[true, true, true, true, true, true, false, true, true, true, false, false, false, false, false, false, false, false, false, false, false, false, false, false, false, false, false, false, false, false, false, false, false] rfl rfl (take_ofW HT_.out HW_.out (by kernel_rfl)) (fun _ _ _ h => h) (Or.inl ⟨by rfl, ?_⟩) hHeld ?_ ?_
 rotate_left
 ·rintro w' ⟨s0, s1, s2, s3, s4, s5, s6, s7, s8, s9, s10, s11, s12, s13, s14, s15, s16, s17, s18, s19, s20, s21, s22, s23⟩
  go_simp
  with_reducible rfl
 rotate_left
 ·simp only [Act.put, List.setIfInBounds_toArray, List.set_cons_zero, List.set_cons_succ, i64_w, i32_w]
  rfl
 refine take_ (i := 10) (N := some 65) (v := ?_) (a' := ?_) #[true, true, true, true, true, true, false, true, true, true, true, false, false, false, false, false, false, false, false, false, false, false, false, false, false, false, false, false, false, false, false, false, false] rfl rfl (take_ofW HT_.out HW_.out (by kernel_rfl)) (fun _ _ _ h => h) (Or.inl ⟨by rfl, ?_⟩) hHeld ?_ ?_
 rotate_left
 ·rintro w' ⟨s0, s1, s2, s3, s4, s5, s6, s7, s8, s9, s10, s11, s12, s13, s14, s15, s16, s17, s18, s19, s20, s21, s22, s23⟩
  go_simp
  with_reducible rfl
 rotate_left
 ·simp only [Act.put, List.setIfInBounds_toArray, List.set_cons_zero, List.set_cons_succ, i64_w, i32_w]
  rfl
 refine one_ (i := 6) (N := some 61) #[true, true, true, true, true, true, true, true, true, true, true, false, false, false, false, false, false, false, false, false, false, false, false, false, false, false, false, false, false, false, false, false, false] rfl rfl (one_of HT_.out (by kernel_rfl)) (by decide) (fun K hK => ?_)
 refine goes_ Try.func20 (by kernel_rfl) rfl #[.agg #[.int .i64 (wrap64 (Int.tmod a4 9)), .string t857, .bool ((Int.tmod a2 2) == 1), .slice Ao26 t858.length co26], .agg #[.int .i64 (wrap64 (Int.tmod a4 9)), .string t857, .bool ((Int.tmod a2 2) == 1), .slice Ao42 t867.length co42]] (by rfl) rfl rfl (by (try simp only [List.map_toArray, List.map_cons, List.map_nil]); first | done | rfl | (simp only [List.length_drop, List.length_take]; rfl)) ?_
 with_reducible refine (action_Same.calls k (wrap64 (Int.tmod a4 9)) t857 ((Int.tmod a2 2) == 1) _ _ t858 (wrap64 (Int.tmod a4 9)) t857 ((Int.tmod a2 2) == 1) _ _ t867 t874 _ ?side1 ?side2 ?side3 ?side4 A15.out).mono ?_
 (case side1 => repeat (first | exact (Kd.R_reads' HO860.out).2.2 | (with_reducible refine Kd.C_alloc ?_ _) | (with_reducible refine Kd.C_drewN ?_ _) | (with_reducible refine Kd.C_drew ?_)))
 (case side2 => exact (Kd.R_reads' HO860.out).2.1)
 (case side3 => repeat (first | exact (Kd.R_reads' HO869.out).2.2 | (with_reducible refine Kd.C_alloc ?_ _) | (with_reducible refine Kd.C_drewN ?_ _) | (with_reducible refine Kd.C_drew ?_)))
 (case side4 => exact (Kd.R_reads' HO869.out).2.1)
 rintro e w80 ⟨rfl, hb⟩
 refine ⟨_, rfl, ?_⟩
 have n0_ := Aside0.mk (Kd.R_below HO860.out hb)
 have n1_ := Aside0.mk (Kd.R_below HO865.out hb)
 have n2_ := Aside0.mk (Kd.R_below HO869.out hb)
 have n3_ := Aside0.mk (blk_below (g := gb861) (o := .cells #[.int .i64 (wrap64 (Int.tmod a4 9)), .string t857, .bool ((Int.tmod a2 2) == 1), .slice Ao26 t858.length co26] 28 (0, 0)) BK861.out hb)
 have n4_ := Aside0.mk (blk_below (g := gb862) (o := .cells #[.int .i64 (wrap64 (Int.tmod a4 9)), .string t857, .bool ((Int.tmod a2 2) == 1), .slice Ao34 y863.length co34] 28 (0, 0)) BK862.out hb)
 have n5_ := Aside0.mk (blk_below (g := gb866) (o := .cells #[.int .i64 (wrap64 (Int.tmod a4 9)), .string t857, .bool ((Int.tmod a2 2) == 1), .slice Ao42 t867.length co42] 28 (0, 0)) BK866.out hb)
 have n6_ := Aside0.mk (blk_below (g := gb870) (o := .cells #[.int .i64 (wrap64 ((wrap64 (Int.tmod a4 9)) + 1)), .string t857, .bool ((Int.tmod a2 2) == 1), .slice Ao26 t858.length co26] 28 (0, 0)) BK870.out hb)
 have n7_ := Aside0.mk (blk_below (g := gb871) (o := .cells #[.int .i64 (wrap64 (Int.tmod a4 9)), .string t857, .bool (!((Int.tmod a2 2) == 1)), .slice Ao26 t858.length co26] 28 (0, 0)) BK871.out hb)
 have n8_ := Aside0.mk (blk_below (g := gb872) (o := .cells #[.int .i64 (wrap64 (Int.tmod a4 9)), .string (t857 ++ (⟨#[1, 113]⟩ : ByteArray)), .bool ((Int.tmod a2 2) == 1), .slice Ao26 t858.length co26] 28 (0, 0)) BK872.out hb)
 have n9_ := Aside0.mk (below_step HB.out hb)
 clear HO860
 clear HO865
 clear HO869
 clear BK861
 clear BK862
 clear BK866
 clear BK870
 clear BK871
 clear BK872
 clear HB
 have HO860 := n0_
 have HO865 := n1_
 have HO869 := n2_
 have BK861 := n3_
 have BK862 := n4_
 have BK866 := n5_
 have BK870 := n6_
 have BK871 := n7_
 have BK872 := n8_
 have HB := n9_
 clear n0_ n1_ n2_ n3_ n4_ n5_ n6_ n7_ n8_ n9_
 (try clear hb)
 (try clear hb2)
 (try clear hk)
 (try clear hi)
 refine hK.out _ _ ⟨(blk_cell BK861.out 0).trans rfl, (blk_cell BK861.out 1).trans rfl, (blk_cell BK861.out 2).trans rfl, (blk_cell BK861.out 3).trans rfl, (blk_cell BK862.out 0).trans rfl, (blk_cell BK862.out 1).trans rfl, (blk_cell BK862.out 2).trans rfl, (blk_cell BK862.out 3).trans rfl, (blk_cell BK866.out 0).trans rfl, (blk_cell BK866.out 1).trans rfl, (blk_cell BK866.out 2).trans rfl, (blk_cell BK866.out 3).trans rfl, (blk_cell BK870.out 0).trans rfl, (blk_cell BK870.out 1).trans rfl, (blk_cell BK870.out 2).trans rfl, (blk_cell BK870.out 3).trans rfl, (blk_cell BK871.out 0).trans rfl, (blk_cell BK871.out 1).trans rfl, (blk_cell BK871.out 2).trans rfl, (blk_cell BK871.out 3).trans rfl, (blk_cell BK872.out 0).trans rfl, (blk_cell BK872.out 1).trans rfl, (blk_cell BK872.out 2).trans rfl, (blk_cell BK872.out 3).trans rfl⟩ (fun hHeld => ?_)
 clear hK K
 refine norm_ (a' := ?_) ?_ ?_
 rotate_left
 ·show Act.put _ (some 61) _ = _
  simp only [Act.put, List.setIfInBounds_toArray, List.set_cons_zero, List.set_cons_succ, i64_w, i32_w]
  rfl
 refine one_ (i := 11) (N := some 66) #[true, true, true, true, true, true, true, true, true, true, true, true, false, false, false, false, false, false, false, false, false, false, false, false, false, false, false, false, false, false, false, false, false] rfl rfl (one_of HT_.out (by kernel_rfl)) (by decide) (fun K hK => ?_)
 refine goes_ Try.func22 (by kernel_rfl) rfl #[.slice Ao26 t858.length co26, .slice Ao42 t867.length co42] (by rfl) rfl rfl (by (try simp only [List.map_toArray, List.map_cons, List.map_nil]); first | done | rfl | (simp only [List.length_drop, List.length_take]; rfl)) ?_
 with_reducible refine (bolterlaw05_SameRecords.calls k _ _ t858 _ _ t867 t875 _ ?side1 ?side2 ?side3 ?side4 A16.out).mono ?_
 (case side1 => repeat (first | exact (Kd.R_reads' HO860.out).2.2 | (with_reducible refine Kd.C_alloc ?_ _) | (with_reducible refine Kd.C_drewN ?_ _) | (with_reducible refine Kd.C_drew ?_)))
 (case side2 => exact (Kd.R_reads' HO860.out).2.1)
 (case side3 => repeat (first | exact (Kd.R_reads' HO869.out).2.2 | (with_reducible refine Kd.C_alloc ?_ _) | (with_reducible refine Kd.C_drewN ?_ _) | (with_reducible refine Kd.C_drew ?_)))
 (case side4 => exact (Kd.R_reads' HO869.out).2.1)
 rintro e w' ⟨rfl, ⟨nd, rfl⟩⟩
 refine ⟨_, rfl, ?_⟩
 refine hK.out _ _ ⟨(blk_cell BK861.out 0).trans rfl, (blk_cell BK861.out 1).trans rfl, (blk_cell BK861.out 2).trans rfl, (blk_cell BK861.out 3).trans rfl, (blk_cell BK862.out 0).trans rfl, (blk_cell BK862.out 1).trans rfl, (blk_cell BK862.out 2).trans rfl, (blk_cell BK862.out 3).trans rfl, (blk_cell BK866.out 0).trans rfl, (blk_cell BK866.out 1).trans rfl, (blk_cell BK866.out 2).trans rfl, (blk_cell BK866.out 3).trans rfl, (blk_cell BK870.out 0).trans rfl, (blk_cell BK870.out 1).trans rfl, (blk_cell BK870.out 2).trans rfl, (blk_cell BK870.out 3).trans rfl, (blk_cell BK871.out 0).trans rfl, (blk_cell BK871.out 1).trans rfl, (blk_cell BK871.out 2).trans rfl, (blk_cell BK871.out 3).trans rfl, (blk_cell BK872.out 0).trans rfl, (blk_cell BK872.out 1).trans rfl, (blk_cell BK872.out 2).trans rfl, (blk_cell BK872.out 3).trans rfl⟩ (fun hHeld => ?_)
 clear hK K
 refine norm_ (a' := ?_) ?_ ?_
 rotate_left
 ·show Act.put _ (some 66) _ = _
  simp only [Act.put, List.setIfInBounds_toArray, List.set_cons_zero, List.set_cons_succ, i64_w, i32_w]
  rfl
 refine pure_ (i := 12) (N := some 67) (v := ?_) (a' := ?_) #[true, true, true, true, true, true, true, true, true, true, true, true, true, false, false, false, false, false, false, false, false, false, false, false, false, false, false, false, false, false, false, false, false] rfl rfl (any_of HT_.out (by kernel_rfl)) (fun _ _ _ h => h) (Or.inl ⟨by rfl, ?_⟩) ?_ ?_
 rotate_left
 ·intro w'
  go_simp
  with_reducible rfl
 rotate_left
 ·simp only [Act.put, List.setIfInBounds_toArray, List.set_cons_zero, List.set_cons_succ, i64_w, i32_w]
  rfl
 refine pure_ (i := 13) (N := some 68) (v := ?_) (a' := ?_) #[true, true, true, true, true, true, true, true, true, true, true, true, true, true, false, false, false, false, false, false, false, false, false, false, false, false, false, false, false, false, false, false, false] rfl rfl (any_of HT_.out (by kernel_rfl)) (fun _ _ _ h => h) (Or.inl ⟨by rfl, ?_⟩) ?_ ?_
 rotate_left
 ·intro w'
  go_simp
  with_reducible rfl
 rotate_left
 ·simp only [Act.put, List.setIfInBounds_toArray, List.set_cons_zero, List.set_cons_succ, i64_w, i32_w]
  rfl
 refine pure_ (i := 14) (N := some 69) (v := ?_) (a' := ?_) #[true, true, true, true, true, true, true, true, true, true, true, true, true, true, true, false, false, false, false, false, false, false, false, false, false, false, false, false, false, false, false, false, false] rfl rfl (any_of HT_.out (by kernel_rfl)) (fun _ _ _ h => h) (Or.inl ⟨by rfl, ?_⟩) ?_ ?_
 rotate_left
 ·intro w'
  go_simp
  with_reducible rfl
 rotate_left
 ·simp only [Act.put, List.setIfInBounds_toArray, List.set_cons_zero, List.set_cons_succ, i64_w, i32_w]
  rfl
 refine take_ (i := 15) (N := some 70) (v := ?_) (a' := ?_) #[true, true, true, true, true, true, true, true, true, true, true, true, true, true, true, true, false, false, false, false, false, false, false, false, false, false, false, false, false, false, false, false, false] rfl rfl (take_ofW HT_.out HW_.out (by kernel_rfl)) (fun _ _ _ h => h) (Or.inl ⟨by rfl, ?_⟩) hHeld ?_ ?_
 rotate_left
 ·rintro w' ⟨s0, s1, s2, s3, s4, s5, s6, s7, s8, s9, s10, s11, s12, s13, s14, s15, s16, s17, s18, s19, s20, s21, s22, s23⟩
  go_simp
  with_reducible rfl
 rotate_left
 ·simp only [Act.put, List.setIfInBounds_toArray, List.set_cons_zero, List.set_cons_succ, i64_w, i32_w]
  rfl
 refine take_ (i := 16) (N := some 71) (v := ?_) (a' := ?_) #[true, true, true, true, true, true, true, true, true, true, true, true, true, true, true, true, true, false, false, false, false, false, false, false, false, false, false, false, false, false, false, false, false] rfl rfl (take_ofW HT_.out HW_.out (by kernel_rfl)) (fun _ _ _ h => h) (Or.inl ⟨by rfl, ?_⟩) hHeld ?_ ?_
 rotate_left
 ·rintro w' ⟨s0, s1, s2, s3, s4, s5, s6, s7, s8, s9, s10, s11, s12, s13, s14, s15, s16, s17, s18, s19, s20, s21, s22, s23⟩
  go_simp
  with_reducible rfl
 rotate_left
 ·simp only [Act.put, List.setIfInBounds_toArray, List.set_cons_zero, List.set_cons_succ, i64_w, i32_w]
  rfl
 refine one_ (i := 17) (N := some 72) #[true, true, true, true, true, true, true, true, true, true, true, true, true, true, true, true, true, true, false, false, false, false, false, false, false, false, false, false, false, false, false, false, false] rfl rfl (one_of HT_.out (by kernel_rfl)) (by decide) (fun K hK => ?_)
 refine goes_ Try.func20 (by kernel_rfl) rfl #[.agg #[.int .i64 (wrap64 (Int.tmod a4 9)), .string t857, .bool ((Int.tmod a2 2) == 1), .slice Ao26 t858.length co26], .agg #[.int .i64 (wrap64 ((wrap64 (Int.tmod a4 9)) + 1)), .string t857, .bool ((Int.tmod a2 2) == 1), .slice Ao26 t858.length co26]] (by rfl) rfl rfl (by (try simp only [List.map_toArray, List.map_cons, List.map_nil]); first | done | rfl | (simp only [List.length_drop, List.length_take]; rfl)) ?_
 with_reducible refine (action_Same.calls k (wrap64 (Int.tmod a4 9)) t857 ((Int.tmod a2 2) == 1) _ _ t858 (wrap64 ((wrap64 (Int.tmod a4 9)) + 1)) t857 ((Int.tmod a2 2) == 1) _ _ t858 false _ ?side1 ?side2 ?side3 ?side4 A18.out).mono ?_
 (case side1 => repeat (first | exact (Kd.R_reads' HO860.out).2.2 | (with_reducible refine Kd.C_alloc ?_ _) | (with_reducible refine Kd.C_drewN ?_ _) | (with_reducible refine Kd.C_drew ?_)))
 (case side2 => exact (Kd.R_reads' HO860.out).2.1)
 (case side3 => repeat (first | exact (Kd.R_reads' HO860.out).2.2 | (with_reducible refine Kd.C_alloc ?_ _) | (with_reducible refine Kd.C_drewN ?_ _) | (with_reducible refine Kd.C_drew ?_)))
 (case side4 => exact (Kd.R_reads' HO860.out).2.1)
 rintro e w81 ⟨rfl, hb⟩
 refine ⟨_, rfl, ?_⟩
 have n0_ := Aside0.mk (Kd.R_below (by (with_reducible repeat (first | apply Kd.R_alloc | apply Kd.R_drewN | apply Kd.R_drew)); exact HO860.out) hb)
 have n1_ := Aside0.mk (Kd.R_below (by (with_reducible repeat (first | apply Kd.R_alloc | apply Kd.R_drewN | apply Kd.R_drew)); exact HO865.out) hb)
 have n2_ := Aside0.mk (Kd.R_below (by (with_reducible repeat (first | apply Kd.R_alloc | apply Kd.R_drewN | apply Kd.R_drew)); exact HO869.out) hb)
 have n3_ := Aside0.mk (blk_below (g := gb861) (o := .cells #[.int .i64 (wrap64 (Int.tmod a4 9)), .string t857, .bool ((Int.tmod a2 2) == 1), .slice Ao26 t858.length co26] 28 (0, 0)) (by (with_reducible repeat (first | refine blk_drewN ?_ _ | refine blk_drew ?_ | refine blk_alloc ?_ _)); exact BK861.out) hb)
 have n4_ := Aside0.mk (blk_below (g := gb862) (o := .cells #[.int .i64 (wrap64 (Int.tmod a4 9)), .string t857, .bool ((Int.tmod a2 2) == 1), .slice Ao34 y863.length co34] 28 (0, 0)) (by (with_reducible repeat (first | refine blk_drewN ?_ _ | refine blk_drew ?_ | refine blk_alloc ?_ _)); exact BK862.out) hb)
 have n5_ := Aside0.mk (blk_below (g := gb866) (o := .cells #[.int .i64 (wrap64 (Int.tmod a4 9)), .string t857, .bool ((Int.tmod a2 2) == 1), .slice Ao42 t867.length co42] 28 (0, 0)) (by (with_reducible repeat (first | refine blk_drewN ?_ _ | refine blk_drew ?_ | refine blk_alloc ?_ _)); exact BK866.out) hb)
 have n6_ := Aside0.mk (blk_below (g := gb870) (o := .cells #[.int .i64 (wrap64 ((wrap64 (Int.tmod a4 9)) + 1)), .string t857, .bool ((Int.tmod a2 2) == 1), .slice Ao26 t858.length co26] 28 (0, 0)) (by (with_reducible repeat (first | refine blk_drewN ?_ _ | refine blk_drew ?_ | refine blk_alloc ?_ _)); exact BK870.out) hb)
 have n7_ := Aside0.mk (blk_below (g := gb871) (o := .cells #[.int .i64 (wrap64 (Int.tmod a4 9)), .string t857, .bool (!((Int.tmod a2 2) == 1)), .slice Ao26 t858.length co26] 28 (0, 0)) (by (with_reducible repeat (first | refine blk_drewN ?_ _ | refine blk_drew ?_ | refine blk_alloc ?_ _)); exact BK871.out) hb)
 have n8_ := Aside0.mk (blk_below (g := gb872) (o := .cells #[.int .i64 (wrap64 (Int.tmod a4 9)), .string (t857 ++ (⟨#[1, 113]⟩ : ByteArray)), .bool ((Int.tmod a2 2) == 1), .slice Ao26 t858.length co26] 28 (0, 0)) (by (with_reducible repeat (first | refine blk_drewN ?_ _ | refine blk_drew ?_ | refine blk_alloc ?_ _)); exact BK872.out) hb)
 have n9_ := Aside0.mk (below_step (by repeat (first | (with_reducible first | exact HB.out | apply below_alloc | apply pw_below_drewN | apply below_drew1 | refine below_set ?_ GE861.out | refine below_set ?_ GE862.out | refine below_set ?_ GE866.out | refine below_set ?_ GE870.out | refine below_set ?_ GE871.out | refine below_set ?_ GE872.out) | exact HB.out)) hb)
 clear HO860
 clear HO865
 clear HO869
 clear BK861
 clear BK862
 clear BK866
 clear BK870
 clear BK871
 clear BK872
 clear HB
 have HO860 := n0_
 have HO865 := n1_
 have HO869 := n2_
 have BK861 := n3_
 have BK862 := n4_
 have BK866 := n5_
 have BK870 := n6_
 have BK871 := n7_
 have BK872 := n8_
 have HB := n9_
 clear n0_ n1_ n2_ n3_ n4_ n5_ n6_ n7_ n8_ n9_
 (try clear hb)
 (try clear hb2)
 (try clear hk)
 (try clear hi)
 refine hK.out _ _ ⟨(blk_cell BK861.out 0).trans rfl, (blk_cell BK861.out 1).trans rfl, (blk_cell BK861.out 2).trans rfl, (blk_cell BK861.out 3).trans rfl, (blk_cell BK862.out 0).trans rfl, (blk_cell BK862.out 1).trans rfl, (blk_cell BK862.out 2).trans rfl, (blk_cell BK862.out 3).trans rfl, (blk_cell BK866.out 0).trans rfl, (blk_cell BK866.out 1).trans rfl, (blk_cell BK866.out 2).trans rfl, (blk_cell BK866.out 3).trans rfl, (blk_cell BK870.out 0).trans rfl, (blk_cell BK870.out 1).trans rfl, (blk_cell BK870.out 2).trans rfl, (blk_cell BK870.out 3).trans rfl, (blk_cell BK871.out 0).trans rfl, (blk_cell BK871.out 1).trans rfl, (blk_cell BK871.out 2).trans rfl, (blk_cell BK871.out 3).trans rfl, (blk_cell BK872.out 0).trans rfl, (blk_cell BK872.out 1).trans rfl, (blk_cell BK872.out 2).trans rfl, (blk_cell BK872.out 3).trans rfl⟩ (fun hHeld => ?_)
 clear hK K
 refine norm_ (a' := ?_) ?_ ?_
 rotate_left
 ·show Act.put _ (some 72) _ = _
  simp only [Act.put, List.setIfInBounds_toArray, List.set_cons_zero, List.set_cons_succ, i64_w, i32_w]
  rfl
 refine pure_ (i := 18) (N := some 73) (v := ?_) (a' := ?_) #[true, true, true, true, true, true, true, true, true, true, true, true, true, true, true, true, true, true, true, false, false, false, false, false, false, false, false, false, false, false, false, false, false] rfl rfl (any_of HT_.out (by kernel_rfl)) (fun _ _ _ h => h) (Or.inl ⟨by rfl, ?_⟩) ?_ ?_
 rotate_left
 ·intro w'
  go_simp
  with_reducible rfl
 rotate_left
 ·simp only [Act.put, List.setIfInBounds_toArray, List.set_cons_zero, List.set_cons_succ, i64_w, i32_w]
  rfl
 refine pure_ (i := 19) (N := some 74) (v := ?_) (a' := ?_) #[true, true, true, true, true, true, true, true, true, true, true, true, true, true, true, true, true, true, true, true, false, false, false, false, false, false, false, false, false, false, false, false, false] rfl rfl (any_of HT_.out (by kernel_rfl)) (fun _ _ _ h => h) (Or.inl ⟨by rfl, ?_⟩) ?_ ?_
 rotate_left
 ·intro w'
  go_simp
  with_reducible rfl
 rotate_left
 ·simp only [Act.put, List.setIfInBounds_toArray, List.set_cons_zero, List.set_cons_succ, i64_w, i32_w]
  rfl
 refine pure_ (i := 20) (N := some 75) (v := ?_) (a' := ?_) #[true, true, true, true, true, true, true, true, true, true, true, true, true, true, true, true, true, true, true, true, true, false, false, false, false, false, false, false, false, false, false, false, false] rfl rfl (any_of HT_.out (by kernel_rfl)) (fun _ _ _ h => h) (Or.inl ⟨by rfl, ?_⟩) ?_ ?_
 rotate_left
 ·intro w'
  go_simp
  with_reducible rfl
 rotate_left
 ·simp only [Act.put, List.setIfInBounds_toArray, List.set_cons_zero, List.set_cons_succ, i64_w, i32_w]
  rfl
 refine take_ (i := 21) (N := some 76) (v := ?_) (a' := ?_) #[true, true, true, true, true, true, true, true, true, true, true, true, true, true, true, true, true, true, true, true, true, true, false, false, false, false, false, false, false, false, false, false, false] rfl rfl (take_ofW HT_.out HW_.out (by kernel_rfl)) (fun _ _ _ h => h) (Or.inl ⟨by rfl, ?_⟩) hHeld ?_ ?_
 rotate_left
 ·rintro w' ⟨s0, s1, s2, s3, s4, s5, s6, s7, s8, s9, s10, s11, s12, s13, s14, s15, s16, s17, s18, s19, s20, s21, s22, s23⟩
  go_simp
  with_reducible rfl
 rotate_left
 ·simp only [Act.put, List.setIfInBounds_toArray, List.set_cons_zero, List.set_cons_succ, i64_w, i32_w]
  rfl
 refine take_ (i := 22) (N := some 77) (v := ?_) (a' := ?_) #[true, true, true, true, true, true, true, true, true, true, true, true, true, true, true, true, true, true, true, true, true, true, true, false, false, false, false, false, false, false, false, false, false] rfl rfl (take_ofW HT_.out HW_.out (by kernel_rfl)) (fun _ _ _ h => h) (Or.inl ⟨by rfl, ?_⟩) hHeld ?_ ?_
 rotate_left
 ·rintro w' ⟨s0, s1, s2, s3, s4, s5, s6, s7, s8, s9, s10, s11, s12, s13, s14, s15, s16, s17, s18, s19, s20, s21, s22, s23⟩
  go_simp
  with_reducible rfl
 rotate_left
 ·simp only [Act.put, List.setIfInBounds_toArray, List.set_cons_zero, List.set_cons_succ, i64_w, i32_w]
  rfl
 refine one_ (i := 23) (N := some 78) #[true, true, true, true, true, true, true, true, true, true, true, true, true, true, true, true, true, true, true, true, true, true, true, true, false, false, false, false, false, false, false, false, false] rfl rfl (one_of HT_.out (by kernel_rfl)) (by decide) (fun K hK => ?_)
 refine goes_ Try.func20 (by kernel_rfl) rfl #[.agg #[.int .i64 (wrap64 (Int.tmod a4 9)), .string t857, .bool ((Int.tmod a2 2) == 1), .slice Ao26 t858.length co26], .agg #[.int .i64 (wrap64 (Int.tmod a4 9)), .string t857, .bool (!((Int.tmod a2 2) == 1)), .slice Ao26 t858.length co26]] (by rfl) rfl rfl (by (try simp only [List.map_toArray, List.map_cons, List.map_nil]); first | done | rfl | (simp only [List.length_drop, List.length_take]; rfl)) ?_
 with_reducible refine (action_Same.calls k (wrap64 (Int.tmod a4 9)) t857 ((Int.tmod a2 2) == 1) _ _ t858 (wrap64 (Int.tmod a4 9)) t857 (!((Int.tmod a2 2) == 1)) _ _ t858 false _ ?side1 ?side2 ?side3 ?side4 A20.out).mono ?_
 (case side1 => repeat (first | exact (Kd.R_reads' HO860.out).2.2 | (with_reducible refine Kd.C_alloc ?_ _) | (with_reducible refine Kd.C_drewN ?_ _) | (with_reducible refine Kd.C_drew ?_)))
 (case side2 => exact (Kd.R_reads' HO860.out).2.1)
 (case side3 => repeat (first | exact (Kd.R_reads' HO860.out).2.2 | (with_reducible refine Kd.C_alloc ?_ _) | (with_reducible refine Kd.C_drewN ?_ _) | (with_reducible refine Kd.C_drew ?_)))
 (case side4 => exact (Kd.R_reads' HO860.out).2.1)
 rintro e w82 ⟨rfl, hb⟩
 refine ⟨_, rfl, ?_⟩
 have n0_ := Aside0.mk (Kd.R_below HO860.out hb)
 have n1_ := Aside0.mk (Kd.R_below HO865.out hb)
 have n2_ := Aside0.mk (Kd.R_below HO869.out hb)
 have n3_ := Aside0.mk (blk_below (g := gb861) (o := .cells #[.int .i64 (wrap64 (Int.tmod a4 9)), .string t857, .bool ((Int.tmod a2 2) == 1), .slice Ao26 t858.length co26] 28 (0, 0)) BK861.out hb)
 have n4_ := Aside0.mk (blk_below (g := gb862) (o := .cells #[.int .i64 (wrap64 (Int.tmod a4 9)), .string t857, .bool ((Int.tmod a2 2) == 1), .slice Ao34 y863.length co34] 28 (0, 0)) BK862.out hb)
 have n5_ := Aside0.mk (blk_below (g := gb866) (o := .cells #[.int .i64 (wrap64 (Int.tmod a4 9)), .string t857, .bool ((Int.tmod a2 2) == 1), .slice Ao42 t867.length co42] 28 (0, 0)) BK866.out hb)
 have n6_ := Aside0.mk (blk_below (g := gb870) (o := .cells #[.int .i64 (wrap64 ((wrap64 (Int.tmod a4 9)) + 1)), .string t857, .bool ((Int.tmod a2 2) == 1), .slice Ao26 t858.length co26] 28 (0, 0)) BK870.out hb)
 have n7_ := Aside0.mk (blk_below (g := gb871) (o := .cells #[.int .i64 (wrap64 (Int.tmod a4 9)), .string t857, .bool (!((Int.tmod a2 2) == 1)), .slice Ao26 t858.length co26] 28 (0, 0)) BK871.out hb)
 have n8_ := Aside0.mk (blk_below (g := gb872) (o := .cells #[.int .i64 (wrap64 (Int.tmod a4 9)), .string (t857 ++ (⟨#[1, 113]⟩ : ByteArray)), .bool ((Int.tmod a2 2) == 1), .slice Ao26 t858.length co26] 28 (0, 0)) BK872.out hb)
 have n9_ := Aside0.mk (below_step HB.out hb)
 clear HO860
 clear HO865
 clear HO869
 clear BK861
 clear BK862
 clear BK866
 clear BK870
 clear BK871
 clear BK872
 clear HB
 have HO860 := n0_
 have HO865 := n1_
 have HO869 := n2_
 have BK861 := n3_
 have BK862 := n4_
 have BK866 := n5_
 have BK870 := n6_
 have BK871 := n7_
 have BK872 := n8_
 have HB := n9_
 clear n0_ n1_ n2_ n3_ n4_ n5_ n6_ n7_ n8_ n9_
 (try clear hb)
 (try clear hb2)
 (try clear hk)
 (try clear hi)
 refine hK.out _ _ ⟨(blk_cell BK861.out 0).trans rfl, (blk_cell BK861.out 1).trans rfl, (blk_cell BK861.out 2).trans rfl, (blk_cell BK861.out 3).trans rfl, (blk_cell BK862.out 0).trans rfl, (blk_cell BK862.out 1).trans rfl, (blk_cell BK862.out 2).trans rfl, (blk_cell BK862.out 3).trans rfl, (blk_cell BK866.out 0).trans rfl, (blk_cell BK866.out 1).trans rfl, (blk_cell BK866.out 2).trans rfl, (blk_cell BK866.out 3).trans rfl, (blk_cell BK870.out 0).trans rfl, (blk_cell BK870.out 1).trans rfl, (blk_cell BK870.out 2).trans rfl, (blk_cell BK870.out 3).trans rfl, (blk_cell BK871.out 0).trans rfl, (blk_cell BK871.out 1).trans rfl, (blk_cell BK871.out 2).trans rfl, (blk_cell BK871.out 3).trans rfl, (blk_cell BK872.out 0).trans rfl, (blk_cell BK872.out 1).trans rfl, (blk_cell BK872.out 2).trans rfl, (blk_cell BK872.out 3).trans rfl⟩ (fun hHeld => ?_)
 clear hK K
 refine norm_ (a' := ?_) ?_ ?_
 rotate_left
 ·show Act.put _ (some 78) _ = _
  simp only [Act.put, List.setIfInBounds_toArray, List.set_cons_zero, List.set_cons_succ, i64_w, i32_w]
  rfl
 refine pure_ (i := 24) (N := some 79) (v := ?_) (a' := ?_) #[true, true, true, true, true, true, true, true, true, true, true, true, true, true, true, true, true, true, true, true, true, true, true, true, true, false, false, false, false, false, false, false, false] rfl rfl (any_of HT_.out (by kernel_rfl)) (fun _ _ _ h => h) (Or.inl ⟨by rfl, ?_⟩) ?_ ?_
 rotate_left
 ·intro w'
  go_simp
  with_reducible rfl
 rotate_left
 ·simp only [Act.put, List.setIfInBounds_toArray, List.set_cons_zero, List.set_cons_succ, i64_w, i32_w]
  rfl
 refine pure_ (i := 25) (N := some 80) (v := ?_) (a' := ?_) #[true, true, true, true, true, true, true, true, true, true, true, true, true, true, true, true, true, true, true, true, true, true, true, true, true, true, false, false, false, false, false, false, false] rfl rfl (any_of HT_.out (by kernel_rfl)) (fun _ _ _ h => h) (Or.inl ⟨by rfl, ?_⟩) ?_ ?_
 rotate_left
 ·intro w'
  go_simp
  with_reducible rfl
 rotate_left
 ·simp only [Act.put, List.setIfInBounds_toArray, List.set_cons_zero, List.set_cons_succ, i64_w, i32_w]
  rfl
 refine pure_ (i := 26) (N := some 81) (v := ?_) (a' := ?_) #[true, true, true, true, true, true, true, true, true, true, true, true, true, true, true, true, true, true, true, true, true, true, true, true, true, true, true, false, false, false, false, false, false] rfl rfl (any_of HT_.out (by kernel_rfl)) (fun _ _ _ h => h) (Or.inl ⟨by rfl, ?_⟩) ?_ ?_
 rotate_left
 ·intro w'
  go_simp
  with_reducible rfl
 rotate_left
 ·simp only [Act.put, List.setIfInBounds_toArray, List.set_cons_zero, List.set_cons_succ, i64_w, i32_w]
  rfl
 refine take_ (i := 27) (N := some 82) (v := ?_) (a' := ?_) #[true, true, true, true, true, true, true, true, true, true, true, true, true, true, true, true, true, true, true, true, true, true, true, true, true, true, true, true, false, false, false, false, false] rfl rfl (take_ofW HT_.out HW_.out (by kernel_rfl)) (fun _ _ _ h => h) (Or.inl ⟨by rfl, ?_⟩) hHeld ?_ ?_
 rotate_left
 ·rintro w' ⟨s0, s1, s2, s3, s4, s5, s6, s7, s8, s9, s10, s11, s12, s13, s14, s15, s16, s17, s18, s19, s20, s21, s22, s23⟩
  go_simp
  with_reducible rfl
 rotate_left
 ·simp only [Act.put, List.setIfInBounds_toArray, List.set_cons_zero, List.set_cons_succ, i64_w, i32_w]
  rfl
 refine take_ (i := 28) (N := some 83) (v := ?_) (a' := ?_) #[true, true, true, true, true, true, true, true, true, true, true, true, true, true, true, true, true, true, true, true, true, true, true, true, true, true, true, true, true, false, false, false, false] rfl rfl (take_ofW HT_.out HW_.out (by kernel_rfl)) (fun _ _ _ h => h) (Or.inl ⟨by rfl, ?_⟩) hHeld ?_ ?_
 rotate_left
 ·rintro w' ⟨s0, s1, s2, s3, s4, s5, s6, s7, s8, s9, s10, s11, s12, s13, s14, s15, s16, s17, s18, s19, s20, s21, s22, s23⟩
  go_simp
  with_reducible rfl
 rotate_left
 ·simp only [Act.put, List.setIfInBounds_toArray, List.set_cons_zero, List.set_cons_succ, i64_w, i32_w]
  rfl
 refine one_ (i := 29) (N := some 84) #[true, true, true, true, true, true, true, true, true, true, true, true, true, true, true, true, true, true, true, true, true, true, true, true, true, true, true, true, true, true, false, false, false] rfl rfl (one_of HT_.out (by kernel_rfl)) (by decide) (fun K hK => ?_)
 refine goes_ Try.func20 (by kernel_rfl) rfl #[.agg #[.int .i64 (wrap64 (Int.tmod a4 9)), .string (t857 ++ (⟨#[1, 113]⟩ : ByteArray)), .bool ((Int.tmod a2 2) == 1), .slice Ao26 t858.length co26], .agg #[.int .i64 (wrap64 (Int.tmod a4 9)), .string t857, .bool ((Int.tmod a2 2) == 1), .slice Ao26 t858.length co26]] (by rfl) rfl rfl (by (try simp only [List.map_toArray, List.map_cons, List.map_nil]); first | done | rfl | (simp only [List.length_drop, List.length_take]; rfl)) ?_
 with_reducible refine (action_Same.calls k (wrap64 (Int.tmod a4 9)) (t857 ++ (⟨#[1, 113]⟩ : ByteArray)) ((Int.tmod a2 2) == 1) _ _ t858 (wrap64 (Int.tmod a4 9)) t857 ((Int.tmod a2 2) == 1) _ _ t858 t878 _ ?side1 ?side2 ?side3 ?side4 A22.out).mono ?_
 (case side1 => repeat (first | exact (Kd.R_reads' HO860.out).2.2 | (with_reducible refine Kd.C_alloc ?_ _) | (with_reducible refine Kd.C_drewN ?_ _) | (with_reducible refine Kd.C_drew ?_)))
 (case side2 => exact (Kd.R_reads' HO860.out).2.1)
 (case side3 => repeat (first | exact (Kd.R_reads' HO860.out).2.2 | (with_reducible refine Kd.C_alloc ?_ _) | (with_reducible refine Kd.C_drewN ?_ _) | (with_reducible refine Kd.C_drew ?_)))
 (case side4 => exact (Kd.R_reads' HO860.out).2.1)
 rintro e w83 ⟨rfl, hb⟩
 refine ⟨_, rfl, ?_⟩
 have n0_ := Aside0.mk (Kd.R_below HO860.out hb)
 have n1_ := Aside0.mk (Kd.R_below HO865.out hb)
 have n2_ := Aside0.mk (Kd.R_below HO869.out hb)
 have n3_ := Aside0.mk (blk_below (g := gb861) (o := .cells #[.int .i64 (wrap64 (Int.tmod a4 9)), .string t857, .bool ((Int.tmod a2 2) == 1), .slice Ao26 t858.length co26] 28 (0, 0)) BK861.out hb)
 have n4_ := Aside0.mk (blk_below (g := gb862) (o := .cells #[.int .i64 (wrap64 (Int.tmod a4 9)), .string t857, .bool ((Int.tmod a2 2) == 1), .slice Ao34 y863.length co34] 28 (0, 0)) BK862.out hb)
 have n5_ := Aside0.mk (blk_below (g := gb866) (o := .cells #[.int .i64 (wrap64 (Int.tmod a4 9)), .string t857, .bool ((Int.tmod a2 2) == 1), .slice Ao42 t867.length co42] 28 (0, 0)) BK866.out hb)
 have n6_ := Aside0.mk (blk_below (g := gb870) (o := .cells #[.int .i64 (wrap64 ((wrap64 (Int.tmod a4 9)) + 1)), .string t857, .bool ((Int.tmod a2 2) == 1), .slice Ao26 t858.length co26] 28 (0, 0)) BK870.out hb)
 have n7_ := Aside0.mk (blk_below (g := gb871) (o := .cells #[.int .i64 (wrap64 (Int.tmod a4 9)), .string t857, .bool (!((Int.tmod a2 2) == 1)), .slice Ao26 t858.length co26] 28 (0, 0)) BK871.out hb)
 have n8_ := Aside0.mk (blk_below (g := gb872) (o := .cells #[.int .i64 (wrap64 (Int.tmod a4 9)), .string (t857 ++ (⟨#[1, 113]⟩ : ByteArray)), .bool ((Int.tmod a2 2) == 1), .slice Ao26 t858.length co26] 28 (0, 0)) BK872.out hb)
 have n9_ := Aside0.mk (below_step HB.out hb)
 clear HO860
 clear HO865
 clear HO869
 clear BK861
 clear BK862
 clear BK866
 clear BK870
 clear BK871
 clear BK872
 clear HB
 have HO860 := n0_
 have HO865 := n1_
 have HO869 := n2_
 have BK861 := n3_
 have BK862 := n4_
 have BK866 := n5_
 have BK870 := n6_
 have BK871 := n7_
 have BK872 := n8_
 have HB := n9_
 clear n0_ n1_ n2_ n3_ n4_ n5_ n6_ n7_ n8_ n9_
 (try clear hb)
 (try clear hb2)
 (try clear hk)
 (try clear hi)
 refine hK.out _ _ ⟨(blk_cell BK861.out 0).trans rfl, (blk_cell BK861.out 1).trans rfl, (blk_cell BK861.out 2).trans rfl, (blk_cell BK861.out 3).trans rfl, (blk_cell BK862.out 0).trans rfl, (blk_cell BK862.out 1).trans rfl, (blk_cell BK862.out 2).trans rfl, (blk_cell BK862.out 3).trans rfl, (blk_cell BK866.out 0).trans rfl, (blk_cell BK866.out 1).trans rfl, (blk_cell BK866.out 2).trans rfl, (blk_cell BK866.out 3).trans rfl, (blk_cell BK870.out 0).trans rfl, (blk_cell BK870.out 1).trans rfl, (blk_cell BK870.out 2).trans rfl, (blk_cell BK870.out 3).trans rfl, (blk_cell BK871.out 0).trans rfl, (blk_cell BK871.out 1).trans rfl, (blk_cell BK871.out 2).trans rfl, (blk_cell BK871.out 3).trans rfl, (blk_cell BK872.out 0).trans rfl, (blk_cell BK872.out 1).trans rfl, (blk_cell BK872.out 2).trans rfl, (blk_cell BK872.out 3).trans rfl⟩ (fun hHeld => ?_)
 clear hK K
 refine norm_ (a' := ?_) ?_ ?_
 rotate_left
 ·show Act.put _ (some 84) _ = _
  simp only [Act.put, List.setIfInBounds_toArray, List.set_cons_zero, List.set_cons_succ, i64_w, i32_w]
  rfl
 refine pure_ (i := 30) (N := some 85) (v := ?_) (a' := ?_) #[true, true, true, true, true, true, true, true, true, true, true, true, true, true, true, true, true, true, true, true, true, true, true, true, true, true, true, true, true, true, true, false, false] rfl rfl (any_of HT_.out (by kernel_rfl)) (fun _ _ _ h => h) (Or.inl ⟨by rfl, ?_⟩) ?_ ?_
 rotate_left
 ·intro w'
  go_simp
  with_reducible rfl
 rotate_left
 ·simp only [Act.put, List.setIfInBounds_toArray, List.set_cons_zero, List.set_cons_succ, i64_w, i32_w]
  rfl
 refine pure_ (i := 31) (N := some 86) (v := ?_) (a' := ?_) #[true, true, true, true, true, true, true, true, true, true, true, true, true, true, true, true, true, true, true, true, true, true, true, true, true, true, true, true, true, true, true, true, false] rfl rfl (any_of HT_.out (by kernel_rfl)) (fun _ _ _ h => h) (Or.inl ⟨by rfl, ?_⟩) ?_ ?_
 rotate_left
 ·intro w'
  go_simp
  with_reducible rfl
 rotate_left
 ·simp only [Act.put, List.setIfInBounds_toArray, List.set_cons_zero, List.set_cons_succ, i64_w, i32_w]
  rfl
 refine pure_ (i := 32) (N := some 10) (v := ?_) (a' := ?_) #[true, true, true, true, true, true, true, true, true, true, true, true, true, true, true, true, true, true, true, true, true, true, true, true, true, true, true, true, true, true, true, true, true] rfl rfl (any_of HT_.out (by kernel_rfl)) (fun _ _ _ h => h) (Or.inl ⟨by rfl, ?_⟩) ?_ ?_
 rotate_left
 ·intro w'
  go_simp
  with_reducible rfl
 rotate_left
 ·simp only [Act.put, List.setIfInBounds_toArray, List.set_cons_zero, List.set_cons_succ, i64_w, i32_w]
  rfl
 refine done_ (done_of HT_.out (by kernel_rfl)) ?_
 try go_wp2
 go_ret
 exact ⟨by first | rfl | (simp [errW_none, errW_some] <;> rfl) | (simp [*, errW_none, errW_some] <;> rfl), by repeat (first | (with_reducible first | exact HB.out | apply below_alloc | apply pw_below_drewN | apply below_drew1 | refine below_set ?_ GE861.out | refine below_set ?_ GE862.out | refine below_set ?_ GE866.out | refine below_set ?_ GE870.out | refine below_set ?_ GE871.out | refine below_set ?_ GE872.out) | exact HB.out)⟩

end Go.Proofs.Ytdkjlbbbdjkhbaa.PAll
