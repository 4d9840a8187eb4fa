-- Written by a program of this session (prune.py): what these texts want of the print's words.
import Derived.Test.YtcmmmlenaahaeaaGreatDoorWTab
namespace Go.Proofs.YtcmmmlenaahaeaaGreatDoorW.PrintLast
section
variable {P:Program} {ops:Array Oper} {Q:Exit→Act→World→Prop} {md:Region.Mode} {S:World→Prop} {ds:List Nat} {T:Bool × List (List Nat × List Nat)}
end
end Go.Proofs.YtcmmmlenaahaeaaGreatDoorW.PrintLast
