-- Written by a program of this session (prune.py): what these texts want of the print's words.
import Derived.Test.YtcmmmlenaahaeaaGreatDoorWInv
import Derived.Test.YtcmmmlenaahaeaaGreatDoorWFootNe
namespace Go.Proofs.YtcmmmlenaahaeaaGreatDoorW.PrintWords
open Go.RowKit
end Go.Proofs.YtcmmmlenaahaeaaGreatDoorW.PrintWords
namespace Go.Proofs.YtcmmmlenaahaeaaGreatDoorW.PrintLast
section
variable {ops:Array Oper} {a:Act} {o og:Oper} {g:Nat} {t:Tmp} {u:Bool}
end
end Go.Proofs.YtcmmmlenaahaeaaGreatDoorW.PrintLast
