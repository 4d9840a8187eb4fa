-- Written by a program of this session (prune.py): what these texts want of the print's words.
import Derived.Test.YtcjfjicagopppaaGreatDoorWWords
/-! ### 58. A guarded operation whose guard is known to want it: the same goal without the guard -/
namespace Go.Proofs.YtcjfjicagopppaaGreatDoorW.PrintWords
open Go.RowKit
section
variable {P : Program} {ops : Array Oper} {rest : List Oper} {o : Oper} {a : Act} {Q : Exit → Act → World → Prop} {W : World}
end
end Go.Proofs.YtcjfjicagopppaaGreatDoorW.PrintWords
