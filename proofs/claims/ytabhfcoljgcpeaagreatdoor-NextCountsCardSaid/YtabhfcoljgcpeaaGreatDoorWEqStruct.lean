-- Written by a program of this session (prune.py): what these texts want of the print's words.
import Derived.Test.YtabhfcoljgcpeaaGreatDoorWWords
import Derived.Laws.StructEq
namespace Go.Proofs.YtabhfcoljgcpeaaGreatDoorW.PrintWords
open Go.RowKit
section
variable {P:Program} {d:Nat} {xs ys:Array Value} {f:Field} {fs:List Field} {a b:Value} {r s:Bool} {w:World}
end
end Go.Proofs.YtabhfcoljgcpeaaGreatDoorW.PrintWords
