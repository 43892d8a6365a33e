-- Lines by a program of this session's (wip/gprint.py over the kit's printing program): the walks of plain functions. Not trusted: Lean checks it.
import Derived.Test.YtmgafakahbanaaaDoorHb
import Derived.Test.YtmgafakahbanaaaDoorPax
import Derived.Test.YtmgafakahbanaaaDoorPbx
import Derived.Test.YtmgafakahbanaaaDoorProg
import Derived.Below
import Derived.Deep.Draws
import Derived.Deep.AppendLies
import Derived.Maps.AppendAt
import Derived.OwnWalk
import Derived.Laws.BytesArg
import Derived.Laws.MakeOwn
import Derived.Laws.OwnMore
import Derived.Deep.OwnRows
import Derived.Tactics
import Derived.Lib.ConvBytes
import Derived.Laws.Slices
import Derived.WalkKit
import Derived.KernelRfl
import Derived.RowKit3
import Derived.Deep.LoopGhost
import Derived.Deep.QuietTactic
import Derived.BigQuiet
import Derived.WideLaws
import Derived.Deep.DeepCutAuto
import Derived.Deep.CutBlock
import Derived.Deep.RegionHeld3
import Derived.Laws.Rows
import Derived.Lib.AppendStr
import Derived.ArgAppend
import Derived.Laws.IdiomCopy
import Derived.OrdersHeld
import Derived.Laws.BitsLemmas
import Derived.RowKit
import Derived.Test.YtmgafakahbanaaaDoorWWords
import Derived.Test.YtmgafakahbanaaaDoorWLast
import Derived.Test.YtmgafakahbanaaaDoorWTab
import Derived.Test.YtmgafakahbanaaaDoorWFour
import Derived.Test.YtmgafakahbanaaaDoorWQPut
import Derived.Test.YtmgafakahbanaaaDoorWApart
import Derived.Test.YtmgafakahbanaaaDoorWArr
import Derived.Test.YtmgafakahbanaaaDoorWZeros
import Derived.Test.YtmgafakahbanaaaDoorWFoot
import Derived.Test.YtmgafakahbanaaaDoorWKept
import Derived.Test.YtmgafakahbanaaaDoorWShare
import Derived.Test.YtmgafakahbanaaaDoorWN
import Derived.Test.YtmgafakahbanaaaDoorWFootNe
import Derived.Test.YtmgafakahbanaaaDoorWAt
import Derived.Test.YtmgafakahbanaaaDoorWEqStruct
import Derived.Test.YtmgafakahbanaaaDoorWRepsOne
import Derived.Test.YtmgafakahbanaaaDoorWInv
import Derived.Test.YtmgafakahbanaaaDoorWInvWords
import Derived.Test.YtmgafakahbanaaaDoorWGuard
import Derived.Test.YtmgafakahbanaaaDoorWNEv
import Derived.Test.YtmgafakahbanaaaDoorWMore
namespace Go.Proofs.YtmgafakahbanaaaDoor.Pa
open Go.RowKit Go.Proofs.YtmgafakahbanaaaDoorW.PrintWords Go.Proofs.YtmgafakahbanaaaDoorW.PrintLast Go.Proofs.YtmgafakahbanaaaDoorW.PrintMore
attribute [local go_sem] max2_int min2_int max_two min_two max_three min_three max_four min_four   -- for this text's walks alone
set_option linter.unusedVariables false
set_option linter.unusedSimpArgs false



-- the values' own types
/-! #### struct type 48 -/
end Go.Proofs.YtmgafakahbanaaaDoor.Pa
