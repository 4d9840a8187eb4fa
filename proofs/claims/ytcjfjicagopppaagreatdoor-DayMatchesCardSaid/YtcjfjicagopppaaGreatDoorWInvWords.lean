-- Written by a program of this session (prune.py): what these texts want of the print's words.
import Derived.Test.YtcjfjicagopppaaGreatDoorWInv
import Derived.Test.YtcjfjicagopppaaGreatDoorWFootNe
namespace Go.Proofs.YtcjfjicagopppaaGreatDoorW.PrintWords
open Go.RowKit
end Go.Proofs.YtcjfjicagopppaaGreatDoorW.PrintWords
namespace Go.Proofs.YtcjfjicagopppaaGreatDoorW.PrintLast
section
variable {ops : Array Oper} {a : Act} {o og : Oper} {g : Nat} {t : Tmp} {u : Bool}
end
end Go.Proofs.YtcjfjicagopppaaGreatDoorW.PrintLast
