-- Written by a program of this session (wip/tools/drive.py over the kit's printer): functions, contracts and rows (Base0).
import Derived.Test.YtiaageolmkplbaaProg
import Derived.Below
import Derived.Deep.Draws
import Derived.Deep.AppendLies
import Derived.Maps.AppendAt
import Derived.OwnWalk
import Derived.Laws.BytesArg
import Derived.Laws.MakeOwn
import Derived.Laws.OwnMore
import Derived.Deep.OwnRows
import Derived.Tactics
import Derived.Lib.ConvBytes
import Derived.Laws.Slices
import Derived.WalkKit
import Derived.KernelRfl
import Derived.RowKit3
import Derived.Deep.LoopGhost
import Derived.Deep.QuietTactic
import Derived.BigQuiet
import Derived.WideLaws
import Derived.Deep.DeepCutAuto
import Derived.Deep.CutBlock
import Derived.Deep.RegionHeld3
import Derived.Laws.Rows
import Derived.Lib.AppendStr
import Derived.ArgAppend
import Derived.Laws.IdiomCopy
import Derived.OrdersHeld
import Derived.Laws.BitsLemmas
import Derived.RowKit
import Derived.Test.YtiaageolmkplbaaHandM
import Derived.Test.YtiaageolmkplbaaHandC
import Derived.Test.YtiaageolmkplbaaWWords
import Derived.Test.YtiaageolmkplbaaWLast
import Derived.Test.YtiaageolmkplbaaWTab
import Derived.Test.YtiaageolmkplbaaWFour
import Derived.Test.YtiaageolmkplbaaWQPut
import Derived.Test.YtiaageolmkplbaaWApart
import Derived.Test.YtiaageolmkplbaaWArr
import Derived.Test.YtiaageolmkplbaaWZeros
import Derived.Test.YtiaageolmkplbaaWFoot
import Derived.Test.YtiaageolmkplbaaWKept
import Derived.Test.YtiaageolmkplbaaWShare
import Derived.Test.YtiaageolmkplbaaWN
import Derived.Test.YtiaageolmkplbaaWFootNe
import Derived.Test.YtiaageolmkplbaaWAt
import Derived.Test.YtiaageolmkplbaaWEqStruct
import Derived.Test.YtiaageolmkplbaaWRepsOne
import Derived.Test.YtiaageolmkplbaaWInv
import Derived.Test.YtiaageolmkplbaaWInvWords
import Derived.Test.YtiaageolmkplbaaWGuard
import Derived.Test.YtiaageolmkplbaaWNEv
import Derived.Test.YtiaageolmkplbaaWMore
namespace Go.Proofs.Ytiaageolmkplbaa.PBase0
open Go.RowKit Go.Proofs.YtiaageolmkplbaaW.PrintWords Go.Proofs.YtiaageolmkplbaaW.PrintLast Go.Proofs.YtiaageolmkplbaaW.PrintMore
attribute [local go_sem] max2_int min2_int max_two min_two max_three min_three max_four min_four   -- for this text's walks alone
open Go.Proofs.Ytiaageolmkplbaa.Hand
set_option linter.unusedVariables false
set_option linter.unusedSimpArgs false



def errW : Option Int → Value
  | none => .nilIface
  | some c => .iface 0 (.int .i64 c)
theorem errW_none : errW none = .nilIface := rfl
theorem errW_some (c : Int) : errW (some c) = .iface 0 (.int .i64 c) := rfl

theorem info5 : (Try.prog.info? 5).map (fun i => (i.zero, i.size, i.bytes)) = some (some (.int .u8 0), 1, 1) := by kernel_rfl
theorem info9 : (Try.prog.info? 9).map (fun i => (i.zero, i.size, i.bytes)) = some (some (.string ⟨#[]⟩), 1, 16) := by kernel_rfl
theorem info25 : (Try.prog.info? 25).map (fun i => (i.zero, i.size, i.bytes)) = some (some (.int .i64 0), 1, 8) := by kernel_rfl
-- the values' own types

end Go.Proofs.Ytiaageolmkplbaa.PBase0
