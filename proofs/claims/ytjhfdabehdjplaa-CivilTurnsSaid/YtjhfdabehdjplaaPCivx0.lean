-- Written by a program of this session (gprint.py) over the kit's print.
import Derived.Test.YtjhfdabehdjplaaProg
import Derived.Below
import Derived.Deep.Draws
import Derived.Deep.AppendLies
import Derived.Maps.AppendAt
import Derived.OwnWalk
import Derived.Laws.BytesArg
import Derived.Laws.MakeOwn
import Derived.Laws.OwnMore
import Derived.Deep.OwnRows
import Derived.Tactics
import Derived.Lib.ConvBytes
import Derived.Laws.Slices
import Derived.WalkKit
import Derived.KernelRfl
import Derived.RowKit3
import Derived.Deep.LoopGhost
import Derived.Deep.QuietTactic
import Derived.BigQuiet
import Derived.WideLaws
import Derived.Deep.DeepCutAuto
import Derived.Deep.CutBlock
import Derived.Deep.RegionHeld3
import Derived.Laws.Rows
import Derived.Lib.AppendStr
import Derived.ArgAppend
import Derived.Laws.IdiomCopy
import Derived.OrdersHeld
import Derived.Laws.BitsLemmas
import Derived.RowKit
import Derived.Lib.Hide
import Derived.Test.YtjhfdabehdjplaaWWords
import Derived.Test.YtjhfdabehdjplaaWLast
import Derived.Test.YtjhfdabehdjplaaWTab
import Derived.Test.YtjhfdabehdjplaaWFour
import Derived.Test.YtjhfdabehdjplaaWQPut
import Derived.Test.YtjhfdabehdjplaaWApart
import Derived.Test.YtjhfdabehdjplaaWArr
import Derived.Test.YtjhfdabehdjplaaWZeros
import Derived.Test.YtjhfdabehdjplaaWFoot
import Derived.Test.YtjhfdabehdjplaaWKept
import Derived.Test.YtjhfdabehdjplaaWShare
import Derived.Test.YtjhfdabehdjplaaWN
import Derived.Test.YtjhfdabehdjplaaWFootNe
import Derived.Test.YtjhfdabehdjplaaWAt
import Derived.Test.YtjhfdabehdjplaaWEqStruct
import Derived.Test.YtjhfdabehdjplaaWRepsOne
import Derived.Test.YtjhfdabehdjplaaWInv
import Derived.Test.YtjhfdabehdjplaaWInvWords
import Derived.Test.YtjhfdabehdjplaaWGuard
import Derived.Test.YtjhfdabehdjplaaWNEv
import Derived.Test.YtjhfdabehdjplaaWMore
namespace Go.Proofs.Ytjhfdabehdjplaa.PCiv
open Go.RowKit Go.Proofs.YtjhfdabehdjplaaW.PrintWords Go.Proofs.YtjhfdabehdjplaaW.PrintLast Go.Proofs.YtjhfdabehdjplaaW.PrintMore
attribute [local go_sem] max2_int min2_int max_two min_two max_three min_three max_four min_four   -- for this text's walks alone
set_option linter.unusedVariables false
set_option linter.unusedSimpArgs false



def errW : Option Int → Value
  | none => .nilIface
  | some c => .iface 0 (.int .i64 c)
theorem errW_none : errW none = .nilIface := rfl
theorem errW_some (c : Int) : errW (some c) = .iface 0 (.int .i64 c) := rfl

-- the values' own types

end Go.Proofs.Ytjhfdabehdjplaa.PCiv
