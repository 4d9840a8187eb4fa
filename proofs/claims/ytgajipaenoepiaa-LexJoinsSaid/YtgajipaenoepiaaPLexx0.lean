-- Written by a program of this session (gprint.py) over the kit's print.
import Derived.Test.YtgajipaenoepiaaProg
import Derived.Below
import Derived.Deep.Draws
import Derived.Deep.AppendLies
import Derived.Maps.AppendAt
import Derived.OwnWalk
import Derived.Laws.BytesArg
import Derived.Laws.MakeOwn
import Derived.Laws.OwnMore
import Derived.Deep.OwnRows
import Derived.Tactics
import Derived.Lib.ConvBytes
import Derived.Laws.Slices
import Derived.WalkKit
import Derived.KernelRfl
import Derived.RowKit3
import Derived.Deep.LoopGhost
import Derived.Deep.QuietTactic
import Derived.BigQuiet
import Derived.WideLaws
import Derived.Deep.DeepCutAuto
import Derived.Deep.CutBlock
import Derived.Deep.RegionHeld3
import Derived.Laws.Rows
import Derived.Lib.AppendStr
import Derived.ArgAppend
import Derived.Laws.IdiomCopy
import Derived.OrdersHeld
import Derived.Laws.BitsLemmas
import Derived.RowKit
import Derived.Lib.Hide
import Derived.Lib.OthersKept
import Derived.Laws.EntriesVeiled
import Derived.Shelf.Strings.FieldsFuncAny
import Derived.Test.YtgajipaenoepiaaWWords
import Derived.Test.YtgajipaenoepiaaWLast
import Derived.Test.YtgajipaenoepiaaWTab
import Derived.Test.YtgajipaenoepiaaWFour
import Derived.Test.YtgajipaenoepiaaWQPut
import Derived.Test.YtgajipaenoepiaaWApart
import Derived.Test.YtgajipaenoepiaaWArr
import Derived.Test.YtgajipaenoepiaaWZeros
import Derived.Test.YtgajipaenoepiaaWFoot
import Derived.Test.YtgajipaenoepiaaWKept
import Derived.Test.YtgajipaenoepiaaWShare
import Derived.Test.YtgajipaenoepiaaWN
import Derived.Test.YtgajipaenoepiaaWFootNe
import Derived.Test.YtgajipaenoepiaaWAt
import Derived.Test.YtgajipaenoepiaaWEqStruct
import Derived.Test.YtgajipaenoepiaaWRepsOne
import Derived.Test.YtgajipaenoepiaaWInv
import Derived.Test.YtgajipaenoepiaaWInvWords
import Derived.Test.YtgajipaenoepiaaWGuard
import Derived.Test.YtgajipaenoepiaaWNEv
import Derived.Test.YtgajipaenoepiaaWMore
namespace Go.Proofs.Ytgajipaenoepiaa.PLex
open Go.RowKit Go.Proofs.YtgajipaenoepiaaW.PrintWords Go.Proofs.YtgajipaenoepiaaW.PrintLast Go.Proofs.YtgajipaenoepiaaW.PrintMore
attribute [local go_sem] max2_int min2_int max_two min_two max_three min_three max_four min_four   -- for this text's walks alone
set_option linter.unusedVariables false
set_option linter.unusedSimpArgs false



def errW : Option Int → Value
  | none => .nilIface
  | some c => .iface 0 (.int .i64 c)
theorem errW_none : errW none = .nilIface := rfl
theorem errW_some (c : Int) : errW (some c) = .iface 0 (.int .i64 c) := rfl

theorem info5 : (Try.prog.info? 5).map (fun i => (i.zero, i.size, i.bytes)) = some (some (.int .u8 0), 1, 1) := by kernel_rfl
theorem info9 : (Try.prog.info? 9).map (fun i => (i.zero, i.size, i.bytes)) = some (some (.string ⟨#[]⟩), 1, 16) := by kernel_rfl
-- the values' own types

end Go.Proofs.Ytgajipaenoepiaa.PLex
