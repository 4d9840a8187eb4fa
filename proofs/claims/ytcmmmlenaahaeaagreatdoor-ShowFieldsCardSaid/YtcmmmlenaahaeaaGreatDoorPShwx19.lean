-- Written by a program of this session (gprint.py) over the kit's print.
import Derived.Test.YtcmmmlenaahaeaaGreatDoorPShwx0
import Derived.Test.YtcmmmlenaahaeaaGreatDoorPShwx1
import Derived.Test.YtcmmmlenaahaeaaGreatDoorPShwx3
import Derived.Test.YtcmmmlenaahaeaaGreatDoorPShwx4
import Derived.Test.YtcmmmlenaahaeaaGreatDoorPShwx6
import Derived.Test.YtcmmmlenaahaeaaGreatDoorPShwx8
import Derived.Test.YtcmmmlenaahaeaaGreatDoorPShwx11
import Derived.Test.YtcmmmlenaahaeaaGreatDoorPShwx13
import Derived.Test.YtcmmmlenaahaeaaGreatDoorPShwx14
import Derived.Test.YtcmmmlenaahaeaaGreatDoorPShwx18
namespace Go.Proofs.YtcmmmlenaahaeaaGreatDoor.PShw
open Go.RowKit Go.Proofs.YtcmmmlenaahaeaaGreatDoorW.PrintWords Go.Proofs.YtcmmmlenaahaeaaGreatDoorW.PrintLast Go.Proofs.YtcmmmlenaahaeaaGreatDoorW.PrintMore
attribute [local go_sem] max2_int min2_int max_two min_two max_three min_three max_four min_four
set_option linter.unusedVariables false
set_option linter.unusedSimpArgs false
attribute [local go_sem high] eqA24
end Go.Proofs.YtcmmmlenaahaeaaGreatDoor.PShw
