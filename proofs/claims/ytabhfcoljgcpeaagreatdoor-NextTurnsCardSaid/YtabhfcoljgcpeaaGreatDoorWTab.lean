-- Written by a program of this session (prune.py): what these texts want of the print's words.
import Derived.Test.YtabhfcoljgcpeaaGreatDoorWLast
import Derived.Test.YtabhfcoljgcpeaaGreatDoorWWords
namespace Go.Proofs.YtabhfcoljgcpeaaGreatDoorW.PrintLast
open Go.Proofs.YtabhfcoljgcpeaaGreatDoorW.PrintWords (Aside0)
section
variable {md : Region.Mode} {ops : Array Oper} {T : Bool × List (List Nat × List Nat)} {l l' li lj lk : Array Bool} {ds : List Nat} {i j k : Nat}
end
end Go.Proofs.YtabhfcoljgcpeaaGreatDoorW.PrintLast
