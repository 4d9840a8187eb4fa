-- Written by a program of this session (prune.py): what these texts want of the print's words.
import Derived.Test.YtabhfcoljgcpeaaGreatDoorWN
namespace Go.Proofs.YtabhfcoljgcpeaaGreatDoorW.PrintWords
open Go.RowKit
namespace Kd
section
variable {α:Type} {d:Kd α} {W:World} {g n:Nat} {S ok:Nat→Prop} {A:Option Addr} {ad:Addr} {xs:List α}
end
end Kd
end Go.Proofs.YtabhfcoljgcpeaaGreatDoorW.PrintWords
