/- What the examples of chapter 21 give: they hold. -/
import Derived.Test.YtdkjlbbbdjkhbaaPAllx21
set_option linter.unusedVariables false
namespace Go.Proofs.Ytdkjlbbbdjkhbaa.RepA
open Go.RowKit Go.Proofs.Ytdkjlbbbdjkhbaa.PAll Go.Proofs.Ytdkjlbbbdjkhbaa.Hand Go.Proofs.YtdkjlbbbdjkhbaaW.PrintWords Go.Proofs.YtdkjlbbbdjkhbaaW.PrintLast
theorem awake_at : bolterlaw21_awake.f 12 = some true := by decide +kernel
end Go.Proofs.Ytdkjlbbbdjkhbaa.RepA
