-- Lines by a program of this session's (wip/gprint.py over the kit's printing program): the walks of plain functions. Not trusted: Lean checks it.
import Derived.Test.YtmciflmlpnpkaaaDoorPax0
import Derived.Test.YtmciflmlpnpkaaaDoorPax1
import Derived.Test.YtmciflmlpnpkaaaDoorPax2
import Derived.Test.YtmciflmlpnpkaaaDoorPax3
import Derived.Test.YtmciflmlpnpkaaaDoorPax4
import Derived.Test.YtmciflmlpnpkaaaDoorPax5
namespace Go.Proofs.YtmciflmlpnpkaaaDoor.Pa
open Go.RowKit Go.Proofs.YtmciflmlpnpkaaaDoorW.PrintWords Go.Proofs.YtmciflmlpnpkaaaDoorW.PrintLast Go.Proofs.YtmciflmlpnpkaaaDoorW.PrintMore
attribute [local go_sem] max2_int min2_int max_two min_two max_three min_three max_four min_four   -- for this text's walks alone
set_option linter.unusedVariables false
set_option linter.unusedSimpArgs false

end Go.Proofs.YtmciflmlpnpkaaaDoor.Pa
