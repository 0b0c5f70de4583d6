-- Written by a program of this session (wip/tools/drive.py over the kit's printer): functions, contracts and rows (All).
import Derived.Test.YtdkjlbbbdjkhbaaPAllx0
import Derived.Test.YtdkjlbbbdjkhbaaPAllx9
import Derived.Test.YtdkjlbbbdjkhbaaPAllx10
import Derived.Test.YtdkjlbbbdjkhbaaPAllx11
import Derived.Test.YtdkjlbbbdjkhbaaPAllx12
namespace Go.Proofs.Ytdkjlbbbdjkhbaa.PAll
open Go.RowKit Go.Proofs.YtdkjlbbbdjkhbaaW.PrintWords Go.Proofs.YtdkjlbbbdjkhbaaW.PrintLast Go.Proofs.YtdkjlbbbdjkhbaaW.PrintMore
attribute [local go_sem] max2_int min2_int max_two min_two max_three min_three max_four min_four   -- for this text's walks alone
open Go.Proofs.Ytdkjlbbbdjkhbaa.Hand
set_option linter.unusedVariables false
set_option linter.unusedSimpArgs false

/-! ### reply_Of: function 31 -/
def reply_Of.f (k : Nat) (a0_0 : Int) (a0_1 : Bool) (a0_2 : Int) (a0_3 : Bool) (a0_4 : Bool) (a0_5 : Bool) (a0_6 : Bool) (a0_7 : Int) (a0_8 : ByteArray) (a0_9 : Int) (l0_10 : List (S43)) (l0_11 : List (S43)) (l0_12 : List (S43)) (a0_13 : Int) (a1_0 : Int) (a1_1 : Bool) (a1_2 : Int) (a1_3 : Bool) (a1_4 : Bool) (a1_5 : Bool) (a1_6 : Bool) (a1_7 : Int) (a1_8 : ByteArray) (a1_9 : Int) (l1_10 : List (S43)) (l1_11 : List (S43)) (l1_12 : List (S43)) (a1_13 : Int) (a2_0 : Int) (a2_1 : ByteArray) (a2_2 : Bool) (l2_3 : List (S43)) (a3 : Bool) : Option (Int × Bool × Int × Bool × Bool × Bool × Bool × Int × ByteArray × Int × (List (S43)) × (List (S43)) × (List (S43)) × Int × Bool) := (reply_Base.f a0_0 a0_1 a0_2 a0_3 a0_4 a0_5 a0_6 a0_7 a0_8 a0_9 l0_10 l0_11 l0_12 a0_13 0).bind fun bt162 => (if a2_0 = 3 then (some (0, false, 0, false, false, false, false, 0, (⟨#[]⟩ : ByteArray), 0, ([] : List (S43)), ([] : List (S43)), ([] : List (S43)), 0, false)) else (if a2_0 = 4 then (some (bt162.1, bt162.2.1, bt162.2.2.1, bt162.2.2.2.1, bt162.2.2.2.2.1, bt162.2.2.2.2.2.1, bt162.2.2.2.2.2.2.1, 3, bt162.2.2.2.2.2.2.2.2.1, bt162.2.2.2.2.2.2.2.2.2.1, bt162.2.2.2.2.2.2.2.2.2.2.1, bt162.2.2.2.2.2.2.2.2.2.2.2.1, bt162.2.2.2.2.2.2.2.2.2.2.2.2.1, bt162.2.2.2.2.2.2.2.2.2.2.2.2.2, true)) else (if a2_0 = 5 then (some (bt162.1, bt162.2.1, bt162.2.2.1, bt162.2.2.2.1, bt162.2.2.2.2.1, bt162.2.2.2.2.2.1, bt162.2.2.2.2.2.2.1, bt162.2.2.2.2.2.2.2.1, bt162.2.2.2.2.2.2.2.2.1, bt162.2.2.2.2.2.2.2.2.2.1, bt162.2.2.2.2.2.2.2.2.2.2.1, bt162.2.2.2.2.2.2.2.2.2.2.2.1, bt162.2.2.2.2.2.2.2.2.2.2.2.2.1, bt162.2.2.2.2.2.2.2.2.2.2.2.2.2, true)) else (if a2_0 = 6 then (if a3 = true then ((reply_Passed.f a0_0 a0_1 a0_2 a0_3 a0_4 a0_5 a0_6 a0_7 a0_8 a0_9 l0_10 l0_11 l0_12 a0_13 a1_0 a1_1 a1_2 a1_3 a1_4 a1_5 a1_6 a1_7 a1_8 a1_9 l1_10 l1_11 l1_12 a1_13).bind fun bt183 => (some (bt183.1, bt183.2.1, bt183.2.2.1, bt183.2.2.2.1, bt183.2.2.2.2.1, bt183.2.2.2.2.2.1, bt183.2.2.2.2.2.2.1, bt183.2.2.2.2.2.2.2.1, bt183.2.2.2.2.2.2.2.2.1, bt183.2.2.2.2.2.2.2.2.2.1, bt183.2.2.2.2.2.2.2.2.2.2.1, bt183.2.2.2.2.2.2.2.2.2.2.2.1, bt183.2.2.2.2.2.2.2.2.2.2.2.2.1, bt183.2.2.2.2.2.2.2.2.2.2.2.2.2, true))) else (some (bt162.1, bt162.2.1, bt162.2.2.1, bt162.2.2.2.1, true, bt162.2.2.2.2.2.1, bt162.2.2.2.2.2.2.1, bt162.2.2.2.2.2.2.2.1, bt162.2.2.2.2.2.2.2.2.1, bt162.2.2.2.2.2.2.2.2.2.1, bt162.2.2.2.2.2.2.2.2.2.2.1, bt162.2.2.2.2.2.2.2.2.2.2.2.1, bt162.2.2.2.2.2.2.2.2.2.2.2.2.1, bt162.2.2.2.2.2.2.2.2.2.2.2.2.2, true))) else (if a2_0 = 7 then ((action_Goal.f k a2_0 a2_1 a2_2 l2_3 a0_8).bind fun bt203 => (if bt203.2 = true then (some (bt162.1, bt162.2.1, bt162.2.2.1, bt162.2.2.2.1, bt162.2.2.2.2.1, bt162.2.2.2.2.2.1, bt162.2.2.2.2.2.2.1, bt162.2.2.2.2.2.2.2.1, bt162.2.2.2.2.2.2.2.2.1, bt162.2.2.2.2.2.2.2.2.2.1, (([(⟨a0_8, 5, 60, bt203.1⟩ : S43)] : List (S43))), bt162.2.2.2.2.2.2.2.2.2.2.2.1, bt162.2.2.2.2.2.2.2.2.2.2.2.2.1, bt162.2.2.2.2.2.2.2.2.2.2.2.2.2, true)) else ((reply_Base.f a0_0 a0_1 a0_2 a0_3 a0_4 a0_5 a0_6 a0_7 a0_8 a0_9 l0_10 l0_11 l0_12 a0_13 2).bind fun bt208 => (some (bt208.1, bt208.2.1, bt208.2.2.1, bt208.2.2.2.1, bt208.2.2.2.2.1, bt208.2.2.2.2.2.1, bt208.2.2.2.2.2.2.1, bt208.2.2.2.2.2.2.2.1, bt208.2.2.2.2.2.2.2.2.1, bt208.2.2.2.2.2.2.2.2.2.1, bt208.2.2.2.2.2.2.2.2.2.2.1, bt208.2.2.2.2.2.2.2.2.2.2.2.1, bt208.2.2.2.2.2.2.2.2.2.2.2.2.1, bt208.2.2.2.2.2.2.2.2.2.2.2.2.2, true))))) else (if a2_0 = 8 then ((reply_local.f k a2_0 a2_1 a2_2 l2_3 a0_8 a0_9).bind fun t228 => (some (bt162.1, bt162.2.1, bt162.2.2.1, bt162.2.2.2.1, bt162.2.2.2.2.1, bt162.2.2.2.2.2.1, bt162.2.2.2.2.2.2.1, bt162.2.2.2.2.2.2.2.1, bt162.2.2.2.2.2.2.2.2.1, bt162.2.2.2.2.2.2.2.2.2.1, t228, bt162.2.2.2.2.2.2.2.2.2.2.2.1, bt162.2.2.2.2.2.2.2.2.2.2.2.2.1, bt162.2.2.2.2.2.2.2.2.2.2.2.2.2, true))) else ((reply_Passed.f a0_0 a0_1 a0_2 a0_3 a0_4 a0_5 a0_6 a0_7 a0_8 a0_9 l0_10 l0_11 l0_12 a0_13 a1_0 a1_1 a1_2 a1_3 a1_4 a1_5 a1_6 a1_7 a1_8 a1_9 l1_10 l1_11 l1_12 a1_13).bind fun bt231 => (some (bt231.1, bt231.2.1, bt231.2.2.1, bt231.2.2.2.1, bt231.2.2.2.2.1, bt231.2.2.2.2.2.1, bt231.2.2.2.2.2.2.1, bt231.2.2.2.2.2.2.2.1, bt231.2.2.2.2.2.2.2.2.1, bt231.2.2.2.2.2.2.2.2.2.1, bt231.2.2.2.2.2.2.2.2.2.2.1, bt231.2.2.2.2.2.2.2.2.2.2.2.1, bt231.2.2.2.2.2.2.2.2.2.2.2.2.1, bt231.2.2.2.2.2.2.2.2.2.2.2.2.2, true)))))))))
theorem reply_Of.mono : ∀ a0 a1 a2 a3 a4 a5 a6 a7 a8 a9 a10 a11 a12 a13 a14 a15 a16 a17 a18 a19 a20 a21 a22 a23 a24 a25 a26 a27 a28 a29 a30 a31 a32 k, LeO (reply_Of.f k a0 a1 a2 a3 a4 a5 a6 a7 a8 a9 a10 a11 a12 a13 a14 a15 a16 a17 a18 a19 a20 a21 a22 a23 a24 a25 a26 a27 a28 a29 a30 a31 a32) (reply_Of.f (k + 1) a0 a1 a2 a3 a4 a5 a6 a7 a8 a9 a10 a11 a12 a13 a14 a15 a16 a17 a18 a19 a20 a21 a22 a23 a24 a25 a26 a27 a28 a29 a30 a31 a32) := by
  intro a0 a1 a2 a3 a4 a5 a6 a7 a8 a9 a10 a11 a12 a13 a14 a15 a16 a17 a18 a19 a20 a21 a22 a23 a24 a25 a26 a27 a28 a29 a30 a31 a32 k
  unfold reply_Of.f
  repeat' first
      | (with_reducible exact action_Goal.mono _ _ _ _ _ _)
      | (with_reducible exact reply_local.mono _ _ _ _ _ _ _)
      | (with_reducible exact LeO.refl _)
      | (with_reducible exact LeO.none _)
      | (with_reducible refine LeO.ite ?_ ?_)
      | (with_reducible refine LeO.bind ?_ (fun _ => ?_))
      | exact action_Goal.mono _ _ _ _ _ _
      | exact reply_local.mono _ _ _ _ _ _ _
      | exact LeO.none _
      | refine LeO.ite ?_ ?_
      | refine LeO.bind ?_ (fun _ => ?_)
end Go.Proofs.Ytdkjlbbbdjkhbaa.PAll

