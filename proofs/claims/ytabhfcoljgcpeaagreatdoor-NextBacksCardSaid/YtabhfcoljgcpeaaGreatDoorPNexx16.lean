-- Written by a program of this session (gprint.py) over the kit's print.
import Derived.Test.YtabhfcoljgcpeaaGreatDoorPNexx0
import Derived.Test.YtabhfcoljgcpeaaGreatDoorPNexx1
import Derived.Test.YtabhfcoljgcpeaaGreatDoorPNexx8
import Derived.Test.YtabhfcoljgcpeaaGreatDoorPNexx13
import Derived.Test.YtabhfcoljgcpeaaGreatDoorPNexx14
import Derived.Test.YtabhfcoljgcpeaaGreatDoorPNexx15
namespace Go.Proofs.YtabhfcoljgcpeaaGreatDoor.PNex
open Go.RowKit Go.Proofs.YtabhfcoljgcpeaaGreatDoorW.PrintWords Go.Proofs.YtabhfcoljgcpeaaGreatDoorW.PrintLast Go.Proofs.YtabhfcoljgcpeaaGreatDoorW.PrintMore
attribute [local go_sem] max2_int min2_int max_two min_two max_three min_three max_four min_four
set_option linter.unusedVariables false
set_option linter.unusedSimpArgs false
end Go.Proofs.YtabhfcoljgcpeaaGreatDoor.PNex
