/- rank.Better, Zone, Step, Length: walked, for ranks that are whole numbers. -/
import Derived.Test.YtiaageolmkplbaaFltA
import Derived.Test.YtiaageolmkplbaaPBase0x4
import Derived.Test.YtiaageolmkplbaaPBase0x5
import Derived.Test.YtiaageolmkplbaaPBase0x19
set_option linter.unusedVariables false
namespace Go.Proofs.Ytiaageolmkplbaa.Hand
open Go.RowKit Go.Proofs.YtiaageolmkplbaaW.PrintWords Go.Proofs.YtiaageolmkplbaaW.PrintLast Go.Proofs.Ytiaageolmkplbaa.PBase0 Go.Proofs.Ytiaageolmkplbaa.Flt
abbrev cx (a b : Int) : Value := .complex .f64 (floatOfInt .f64 a) (floatOfInt .f64 b)
abbrev Sm (a : Int) : Prop := a.natAbs < 2 ^ 53
def betterB (a b c d : Int) : Bool := if a = c then decide (b < d) else decide (a < c)
theorem rank_Better.any (a b c d : Int) (ha : Sm a) (hb : Sm b) (hc : Sm c) (hd : Sm d) (w : World) :
    Calls Try.prog 15 #[cx a b, cx c d] w fun e w' => e = .returned (.bool (betterB a b c d)) ∧ w' = w := by
  have e1 := fl_ne a c ha hc
  have e2 := fl_lt a c ha hc
  have e3 := fl_lt b d hb hd
  unfold betterB
  by_cases h : a = c
  · rw [decide_eq_false (by simpa using h)] at e1
    rw [if_pos h]
    clear h e2
    go_enter Try.func15, Try.ntmps15
    go_wp2
    go_ret
    exact ⟨rfl, rfl⟩
  · rw [decide_eq_true h] at e1
    rw [if_neg h]
    clear h e3
    go_enter Try.func15, Try.ntmps15
    go_wp2
    go_ret
    exact ⟨rfl, rfl⟩
theorem rank_Zone.any (a b : Int) (ha : Sm a) (w : World) : Calls Try.prog 11 #[cx a b] w fun e w' => e = .returned (.int .i64 a) ∧ w' = w := by
  have kc := fun W => run_convert_float_int (P := Try.prog) W 34 3 .f64 .i64 (fl a) a (by kernel_rfl) Try.underlying3 (cut_fl a ha)
  go_enter Try.func11, Try.ntmps11
  go_wp2
  go_ret
  exact ⟨rfl, rfl⟩
theorem rank_Step.any (a b : Int) (hb : Sm b) (h0 : 0 ≤ b) (w : World) : Calls Try.prog 12 #[cx a b] w fun e w' => e = .returned (.int .i64 (b / 256)) ∧ w' = w := by
  have kc := fun W => run_convert_float_int (P := Try.prog) W 34 3 .f64 .i64 (fl b) b (by kernel_rfl) Try.underlying3 (cut_fl b hb)
  go_enter Try.func12, Try.ntmps12
  go_wp2
  go_ret
  exact ⟨rfl, rfl⟩
theorem rank_Length.any (a b : Int) (hb : Sm b) (h0 : 0 ≤ b) (w : World) : Calls Try.prog 13 #[cx a b] w fun e w' => e = .returned (.int .i64 (255 - b % 256)) ∧ w' = w := by
  have kc := fun W => run_convert_float_int (P := Try.prog) W 34 3 .f64 .i64 (fl b) b (by kernel_rfl) Try.underlying3 (cut_fl b hb)
  go_enter Try.func13, Try.ntmps13
  go_wp2
  go_ret
  exact ⟨rfl, rfl⟩
end Go.Proofs.Ytiaageolmkplbaa.Hand
