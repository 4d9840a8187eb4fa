-- Written by a program of this session (gprint.py) over the kit's print.
import Derived.Test.YtfkhifbllpibjaaDoorProg
import Derived.Below
import Derived.Deep.Draws
import Derived.Deep.AppendLies
import Derived.Maps.AppendAt
import Derived.OwnWalk
import Derived.Laws.BytesArg
import Derived.Laws.MakeOwn
import Derived.Laws.OwnMore
import Derived.Deep.OwnRows
import Derived.Tactics
import Derived.Lib.ConvBytes
import Derived.Laws.Slices
import Derived.WalkKit
import Derived.KernelRfl
import Derived.RowKit3
import Derived.Deep.LoopGhost
import Derived.Deep.QuietTactic
import Derived.BigQuiet
import Derived.WideLaws
import Derived.Deep.DeepCutAuto
import Derived.Deep.CutBlock
import Derived.Deep.RegionHeld3
import Derived.Laws.Rows
import Derived.Lib.AppendStr
import Derived.ArgAppend
import Derived.Laws.IdiomCopy
import Derived.OrdersHeld
import Derived.Laws.BitsLemmas
import Derived.RowKit
import Derived.Lib.Hide
import Derived.Lib.OthersKept
import Derived.Laws.EntriesVeiled
import Derived.LaidEql
import Derived.Stop.Asserts
import Derived.RowKitTokens
import Derived.LoopN
import Derived.Shelf.Strings.Split
import Derived.Shelf.Strings.Cut
import Derived.Shelf.Strings.Search3
import Derived.RangeFuncNested
import Derived.RangeFuncBound
import Derived.RangeFuncCalls
import Derived.RangeFuncLeaves
import Derived.Shelf.Abstract
import Derived.Shelf.RegionOpen
import Derived.OwnWalkIn
import Derived.TacticsInMore
import Derived.LoopNIn
import Derived.LoopIn
import Derived.Test.YtfkhifbllpibjaaDoorWWords
import Derived.Test.YtfkhifbllpibjaaDoorWLast
import Derived.Test.YtfkhifbllpibjaaDoorWTab
import Derived.Test.YtfkhifbllpibjaaDoorWFour
import Derived.Test.YtfkhifbllpibjaaDoorWQPut
import Derived.Test.YtfkhifbllpibjaaDoorWApart
import Derived.Test.YtfkhifbllpibjaaDoorWArr
import Derived.Test.YtfkhifbllpibjaaDoorWZeros
import Derived.Test.YtfkhifbllpibjaaDoorWFoot
import Derived.Test.YtfkhifbllpibjaaDoorWKept
import Derived.Test.YtfkhifbllpibjaaDoorWShare
import Derived.Test.YtfkhifbllpibjaaDoorWN
import Derived.Test.YtfkhifbllpibjaaDoorWFootNe
import Derived.Test.YtfkhifbllpibjaaDoorWAt
import Derived.Test.YtfkhifbllpibjaaDoorWEqStruct
import Derived.Test.YtfkhifbllpibjaaDoorWRepsOne
import Derived.Test.YtfkhifbllpibjaaDoorWInv
import Derived.Test.YtfkhifbllpibjaaDoorWInvWords
import Derived.Test.YtfkhifbllpibjaaDoorWGuard
import Derived.Test.YtfkhifbllpibjaaDoorWNEv
import Derived.Test.YtfkhifbllpibjaaDoorWMore
namespace Go.Proofs.YtfkhifbllpibjaaDoor.PFpa
open Go.RowKit Go.Proofs.YtfkhifbllpibjaaDoorW.PrintWords Go.Proofs.YtfkhifbllpibjaaDoorW.PrintLast Go.Proofs.YtfkhifbllpibjaaDoorW.PrintMore
attribute [local go_sem] max2_int min2_int max_two min_two max_three min_three max_four min_four   -- for this text's walks alone
set_option linter.unusedVariables false
set_option linter.unusedSimpArgs false



def errW : Option Int → Value
  | none => .nilIface
  | some c => .iface 0 (.int .i64 c)
theorem errW_none : errW none = .nilIface := rfl
theorem errW_some (c : Int) : errW (some c) = .iface 0 (.int .i64 c) := rfl

theorem info5 : (Tryd.prog.info? 5).map (fun i => (i.zero, i.size, i.bytes)) = some (some (.int .u8 0), 1, 1) := by kernel_rfl
theorem info9 : (Tryd.prog.info? 9).map (fun i => (i.zero, i.size, i.bytes)) = some (some (.string ⟨#[]⟩), 1, 16) := by kernel_rfl
-- the values' own types

end Go.Proofs.YtfkhifbllpibjaaDoor.PFpa
