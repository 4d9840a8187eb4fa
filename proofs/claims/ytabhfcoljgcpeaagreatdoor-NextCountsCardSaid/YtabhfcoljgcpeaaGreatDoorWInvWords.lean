-- Written by a program of this session (prune.py): what these texts want of the print's words.
import Derived.Test.YtabhfcoljgcpeaaGreatDoorWInv
import Derived.Test.YtabhfcoljgcpeaaGreatDoorWFootNe
namespace Go.Proofs.YtabhfcoljgcpeaaGreatDoorW.PrintWords
open Go.RowKit
end Go.Proofs.YtabhfcoljgcpeaaGreatDoorW.PrintWords
namespace Go.Proofs.YtabhfcoljgcpeaaGreatDoorW.PrintLast
section
variable {ops:Array Oper} {a:Act} {o og:Oper} {g:Nat} {t:Tmp} {u:Bool}
end
end Go.Proofs.YtabhfcoljgcpeaaGreatDoorW.PrintLast
