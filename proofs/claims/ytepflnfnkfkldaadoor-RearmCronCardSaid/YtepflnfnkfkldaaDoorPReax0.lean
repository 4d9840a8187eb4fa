-- Written by a program of this session (gprint.py) over the kit's print.
import Derived.Test.YtepflnfnkfkldaaDoorProg
import Derived.Below
import Derived.Deep.Draws
import Derived.Deep.AppendLies
import Derived.Maps.AppendAt
import Derived.OwnWalk
import Derived.Laws.BytesArg
import Derived.Laws.MakeOwn
import Derived.Laws.OwnMore
import Derived.Deep.OwnRows
import Derived.Tactics
import Derived.Lib.ConvBytes
import Derived.Laws.Slices
import Derived.WalkKit
import Derived.KernelRfl
import Derived.RowKit3
import Derived.Deep.LoopGhost
import Derived.Deep.QuietTactic
import Derived.BigQuiet
import Derived.WideLaws
import Derived.Deep.DeepCutAuto
import Derived.Deep.CutBlock
import Derived.Deep.RegionHeld3
import Derived.Laws.Rows
import Derived.Lib.AppendStr
import Derived.ArgAppend
import Derived.Laws.IdiomCopy
import Derived.OrdersHeld
import Derived.Laws.BitsLemmas
import Derived.RowKit
import Derived.Lib.Hide
import Derived.Lib.OthersKept
import Derived.Laws.EntriesVeiled
import Derived.Shelf.Strings.FieldsFuncAny
import Derived.LaidEql
import Derived.Stop.Asserts
import Derived.RowKitTokens
import Derived.LoopN
import Derived.Shelf.Strings.Split
import Derived.Shelf.Strings.Cut
import Derived.Shelf.Strings.Search3
import Derived.RangeFuncNested
import Derived.RangeFuncBound
import Derived.RangeFuncCalls
import Derived.RangeFuncLeaves
import Derived.Shelf.Abstract
import Derived.Shelf.RegionOpen
import Derived.OwnWalkIn
import Derived.TacticsInMore
import Derived.LoopNIn
import Derived.LoopIn
import Derived.Deep.RegionHeld3
import Derived.Deep.DeepCutAuto
import Derived.Deep.CutBlock
import Derived.Deep.RegionWith
import Derived.StillTailTactics
import Derived.Deep.DrawnRows
import Derived.Lib.BitFns
import Derived.Lib.Walk
import Derived.Scope
import Derived.Shelf.Spec.BitsCarry
import Derived.Maps.OwnSet
import Derived.Test.YtepflnfnkfkldaaDoorWWords
import Derived.Test.YtepflnfnkfkldaaDoorWLast
import Derived.Test.YtepflnfnkfkldaaDoorWTab
import Derived.Test.YtepflnfnkfkldaaDoorWFour
import Derived.Test.YtepflnfnkfkldaaDoorWQPut
import Derived.Test.YtepflnfnkfkldaaDoorWApart
import Derived.Test.YtepflnfnkfkldaaDoorWArr
import Derived.Test.YtepflnfnkfkldaaDoorWZeros
import Derived.Test.YtepflnfnkfkldaaDoorWFoot
import Derived.Test.YtepflnfnkfkldaaDoorWKept
import Derived.Test.YtepflnfnkfkldaaDoorWShare
import Derived.Test.YtepflnfnkfkldaaDoorWN
import Derived.Test.YtepflnfnkfkldaaDoorWFootNe
import Derived.Test.YtepflnfnkfkldaaDoorWAt
import Derived.Test.YtepflnfnkfkldaaDoorWEqStruct
import Derived.Test.YtepflnfnkfkldaaDoorWRepsOne
import Derived.Test.YtepflnfnkfkldaaDoorWInv
import Derived.Test.YtepflnfnkfkldaaDoorWInvWords
import Derived.Test.YtepflnfnkfkldaaDoorWGuard
import Derived.Test.YtepflnfnkfkldaaDoorWNEv
import Derived.Test.YtepflnfnkfkldaaDoorWMore
namespace Go.Proofs.YtepflnfnkfkldaaDoor.PRea
open Go.RowKit Go.Proofs.YtepflnfnkfkldaaDoorW.PrintWords Go.Proofs.YtepflnfnkfkldaaDoorW.PrintLast Go.Proofs.YtepflnfnkfkldaaDoorW.PrintMore
attribute [local go_sem] max2_int min2_int max_two min_two max_three min_three max_four min_four
set_option linter.unusedVariables false
set_option linter.unusedSimpArgs false
def errW:Option Int→Value
 | none=>.nilIface
 | some c=>.iface 0 (.int .i64 c)
theorem errW_none:errW none=.nilIface:=rfl
theorem errW_some (c:Int):errW (some c)=.iface 0 (.int .i64 c):=rfl
-- the values' own types
/-! #### struct type 24 -/
structure S24 where
 f0:Int
 f1:Bool
abbrev T_:Bool:=true
abbrev F_:Bool:=false
end Go.Proofs.YtepflnfnkfkldaaDoor.PRea
