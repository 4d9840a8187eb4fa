-- Written by a program of this session (prune.py): what these texts want of the print's words.
import Derived.Test.YtcmmmlenaahaeaaGreatDoorWN
namespace Go.Proofs.YtcmmmlenaahaeaaGreatDoorW.PrintWords
open Go.RowKit
namespace Kd
section
variable {α:Type} {d:Kd α} {W:World} {g n:Nat} {S ok:Nat→Prop} {A:Option Addr} {ad:Addr} {xs:List α}
end
end Kd
end Go.Proofs.YtcmmmlenaahaeaaGreatDoorW.PrintWords
