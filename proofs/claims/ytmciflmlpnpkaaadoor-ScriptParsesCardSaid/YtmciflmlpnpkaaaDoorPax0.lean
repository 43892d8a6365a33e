-- Lines by a program of this session's (wip/gprint.py over the kit's printing program): the walks of plain functions. Not trusted: Lean checks it.
import Derived.Test.YtmciflmlpnpkaaaDoorProg
import Derived.Below
import Derived.Deep.Draws
import Derived.Deep.AppendLies
import Derived.Maps.AppendAt
import Derived.OwnWalk
import Derived.Laws.BytesArg
import Derived.Laws.MakeOwn
import Derived.Laws.OwnMore
import Derived.Deep.OwnRows
import Derived.Tactics
import Derived.Lib.ConvBytes
import Derived.Laws.Slices
import Derived.WalkKit
import Derived.KernelRfl
import Derived.RowKit3
import Derived.Deep.LoopGhost
import Derived.Deep.QuietTactic
import Derived.BigQuiet
import Derived.WideLaws
import Derived.Deep.DeepCutAuto
import Derived.Deep.CutBlock
import Derived.Deep.RegionHeld3
import Derived.Laws.Rows
import Derived.Lib.AppendStr
import Derived.ArgAppend
import Derived.Laws.IdiomCopy
import Derived.OrdersHeld
import Derived.Laws.BitsLemmas
import Derived.RowKit
import Derived.Test.YtmciflmlpnpkaaaDoorWWords
import Derived.Test.YtmciflmlpnpkaaaDoorWLast
import Derived.Test.YtmciflmlpnpkaaaDoorWTab
import Derived.Test.YtmciflmlpnpkaaaDoorWFour
import Derived.Test.YtmciflmlpnpkaaaDoorWQPut
import Derived.Test.YtmciflmlpnpkaaaDoorWApart
import Derived.Test.YtmciflmlpnpkaaaDoorWArr
import Derived.Test.YtmciflmlpnpkaaaDoorWZeros
import Derived.Test.YtmciflmlpnpkaaaDoorWFoot
import Derived.Test.YtmciflmlpnpkaaaDoorWKept
import Derived.Test.YtmciflmlpnpkaaaDoorWShare
import Derived.Test.YtmciflmlpnpkaaaDoorWN
import Derived.Test.YtmciflmlpnpkaaaDoorWFootNe
import Derived.Test.YtmciflmlpnpkaaaDoorWAt
import Derived.Test.YtmciflmlpnpkaaaDoorWEqStruct
import Derived.Test.YtmciflmlpnpkaaaDoorWRepsOne
import Derived.Test.YtmciflmlpnpkaaaDoorWInv
import Derived.Test.YtmciflmlpnpkaaaDoorWInvWords
import Derived.Test.YtmciflmlpnpkaaaDoorWGuard
import Derived.Test.YtmciflmlpnpkaaaDoorWNEv
import Derived.Test.YtmciflmlpnpkaaaDoorWMore
namespace Go.Proofs.YtmciflmlpnpkaaaDoor.Pa
open Go.RowKit Go.Proofs.YtmciflmlpnpkaaaDoorW.PrintWords Go.Proofs.YtmciflmlpnpkaaaDoorW.PrintLast Go.Proofs.YtmciflmlpnpkaaaDoorW.PrintMore
attribute [local go_sem] max2_int min2_int max_two min_two max_three min_three max_four min_four   -- for this text's walks alone
set_option linter.unusedVariables false
set_option linter.unusedSimpArgs false



def errW : Option Int → Value
  | none => .nilIface
  | some c => .iface 0 (.int .i64 c)
theorem errW_none : errW none = .nilIface := rfl
theorem errW_some (c : Int) : errW (some c) = .iface 0 (.int .i64 c) := rfl

theorem info5 : (Tryd.prog.info? 5).map (fun i => (i.zero, i.size, i.bytes)) = some (some (.int .u8 0), 1, 1) := by kernel_rfl
theorem info9 : (Tryd.prog.info? 9).map (fun i => (i.zero, i.size, i.bytes)) = some (some (.string ⟨#[]⟩), 1, 16) := by kernel_rfl
-- the values' own types

end Go.Proofs.YtmciflmlpnpkaaaDoor.Pa
