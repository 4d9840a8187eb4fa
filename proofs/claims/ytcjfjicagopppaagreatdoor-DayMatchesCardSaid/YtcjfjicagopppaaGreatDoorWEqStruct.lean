-- Written by a program of this session (prune.py): what these texts want of the print's words.
import Derived.Test.YtcjfjicagopppaaGreatDoorWWords
import Derived.Laws.StructEq
/-! ### 53. '==' of structs as_ one Bool -/
namespace Go.Proofs.YtcjfjicagopppaaGreatDoorW.PrintWords
open Go.RowKit
section
variable {P : Program} {d : Nat} {xs ys : Array Value} {f : Field} {fs : List Field} {a b : Value} {r s : Bool} {w : World}
end
end Go.Proofs.YtcjfjicagopppaaGreatDoorW.PrintWords
