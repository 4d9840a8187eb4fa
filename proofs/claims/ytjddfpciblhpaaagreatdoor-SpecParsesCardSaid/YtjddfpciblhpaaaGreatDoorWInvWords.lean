-- Written by a program of this session (prune.py): what these texts want of the print's words.
import Derived.Test.YtjddfpciblhpaaaGreatDoorWInv
import Derived.Test.YtjddfpciblhpaaaGreatDoorWFootNe
namespace Go.Proofs.YtjddfpciblhpaaaGreatDoorW.PrintWords
open Go.RowKit
end Go.Proofs.YtjddfpciblhpaaaGreatDoorW.PrintWords
namespace Go.Proofs.YtjddfpciblhpaaaGreatDoorW.PrintLast
section
variable {ops : Array Oper} {a : Act} {o og : Oper} {g : Nat} {t : Tmp} {u : Bool}
end
end Go.Proofs.YtjddfpciblhpaaaGreatDoorW.PrintLast
