-- Written by a program of this session (wip/tools/drive.py over the kit's printer): functions, contracts and rows (Nam).
import Derived.Test.YtihlimbdgipdeaaProg
import Derived.Below
import Derived.Deep.Draws
import Derived.Deep.AppendLies
import Derived.Maps.AppendAt
import Derived.OwnWalk
import Derived.Laws.BytesArg
import Derived.Laws.MakeOwn
import Derived.Laws.OwnMore
import Derived.Deep.OwnRows
import Derived.Tactics
import Derived.Lib.ConvBytes
import Derived.Laws.Slices
import Derived.WalkKit
import Derived.KernelRfl
import Derived.RowKit3
import Derived.Deep.LoopGhost
import Derived.Deep.QuietTactic
import Derived.BigQuiet
import Derived.WideLaws
import Derived.Deep.DeepCutAuto
import Derived.Deep.CutBlock
import Derived.Deep.RegionHeld3
import Derived.Laws.Rows
import Derived.Lib.AppendStr
import Derived.ArgAppend
import Derived.Laws.IdiomCopy
import Derived.OrdersHeld
import Derived.Laws.BitsLemmas
import Derived.RowKit
import Derived.Test.YtihlimbdgipdeaaHandT
import Derived.Test.YtihlimbdgipdeaaWWords
import Derived.Test.YtihlimbdgipdeaaWLast
import Derived.Test.YtihlimbdgipdeaaWTab
import Derived.Test.YtihlimbdgipdeaaWFour
import Derived.Test.YtihlimbdgipdeaaWQPut
import Derived.Test.YtihlimbdgipdeaaWApart
import Derived.Test.YtihlimbdgipdeaaWArr
import Derived.Test.YtihlimbdgipdeaaWZeros
import Derived.Test.YtihlimbdgipdeaaWFoot
import Derived.Test.YtihlimbdgipdeaaWKept
import Derived.Test.YtihlimbdgipdeaaWShare
import Derived.Test.YtihlimbdgipdeaaWN
import Derived.Test.YtihlimbdgipdeaaWFootNe
import Derived.Test.YtihlimbdgipdeaaWAt
import Derived.Test.YtihlimbdgipdeaaWEqStruct
import Derived.Test.YtihlimbdgipdeaaWRepsOne
import Derived.Test.YtihlimbdgipdeaaWInv
import Derived.Test.YtihlimbdgipdeaaWInvWords
import Derived.Test.YtihlimbdgipdeaaWGuard
import Derived.Test.YtihlimbdgipdeaaWNEv
import Derived.Test.YtihlimbdgipdeaaWMore
namespace Go.Proofs.Ytihlimbdgipdeaa.PNam
open Go.RowKit Go.Proofs.YtihlimbdgipdeaaW.PrintWords Go.Proofs.YtihlimbdgipdeaaW.PrintLast Go.Proofs.YtihlimbdgipdeaaW.PrintMore
attribute [local go_sem] max2_int min2_int max_two min_two max_three min_three max_four min_four   -- for this text's walks alone
open Go.Proofs.Ytihlimbdgipdeaa.Hand Go.Proofs.Ytihlimbdgipdeaa.PBase0
set_option linter.unusedVariables false
set_option linter.unusedSimpArgs false



def errW : Option Int → Value
  | none => .nilIface
  | some c => .iface 0 (.int .i64 c)
theorem errW_none : errW none = .nilIface := rfl
theorem errW_some (c : Int) : errW (some c) = .iface 0 (.int .i64 c) := rfl

theorem info5 : (Try.prog.info? 5).map (fun i => (i.zero, i.size, i.bytes)) = some (some (.int .u8 0), 1, 1) := by kernel_rfl
theorem info9 : (Try.prog.info? 9).map (fun i => (i.zero, i.size, i.bytes)) = some (some (.string ⟨#[]⟩), 1, 16) := by kernel_rfl
-- the values' own types

end Go.Proofs.Ytihlimbdgipdeaa.PNam
