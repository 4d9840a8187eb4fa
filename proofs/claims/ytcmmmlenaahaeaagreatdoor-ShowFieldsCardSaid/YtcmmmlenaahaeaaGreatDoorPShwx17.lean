-- Written by a program of this session (gprint.py) over the kit's print.
import Derived.Test.YtcmmmlenaahaeaaGreatDoorPShwx0
import Derived.Test.YtcmmmlenaahaeaaGreatDoorPShwx11
import Derived.Test.YtcmmmlenaahaeaaGreatDoorPShwx14
import Derived.Test.YtcmmmlenaahaeaaGreatDoorPShwx15
import Derived.Test.YtcmmmlenaahaeaaGreatDoorPShwx16
namespace Go.Proofs.YtcmmmlenaahaeaaGreatDoor.PShw
open Go.RowKit Go.Proofs.YtcmmmlenaahaeaaGreatDoorW.PrintWords Go.Proofs.YtcmmmlenaahaeaaGreatDoorW.PrintLast Go.Proofs.YtcmmmlenaahaeaaGreatDoorW.PrintMore
attribute [local go_sem] max2_int min2_int max_two min_two max_three min_three max_four min_four
set_option linter.unusedVariables false
set_option linter.unusedSimpArgs false
end Go.Proofs.YtcmmmlenaahaeaaGreatDoor.PShw
