-- Written by a program of this session (wip/tools/drive.py over the kit's printer): functions, contracts and rows (Base0).
import Derived.Test.YtihlimbdgipdeaaPBase0x0
namespace Go.Proofs.Ytihlimbdgipdeaa.PBase0
open Go.RowKit Go.Proofs.YtihlimbdgipdeaaW.PrintWords Go.Proofs.YtihlimbdgipdeaaW.PrintLast Go.Proofs.YtihlimbdgipdeaaW.PrintMore
attribute [local go_sem] max2_int min2_int max_two min_two max_three min_three max_four min_four   -- for this text's walks alone
open Go.Proofs.Ytihlimbdgipdeaa.Hand
set_option linter.unusedVariables false
set_option linter.unusedSimpArgs false

-- by hand: name_folded

end Go.Proofs.Ytihlimbdgipdeaa.PBase0
