/- What the rows' list of package variables gives to the walks, and a world for the witnesses. No condition. -/
import Derived.Test.YtepflnfnkfkldaaDoorPReax8
import Derived.Test.YtepflnfnkfkldaaDoorTie
import Derived.Test.YtepflnfnkfkldaaDoorCards
import Derived.WalkKit
import Derived.ProofKit
import Derived.OpenShut
import Derived.Deep.DeepHandedRow
import Derived.Deep.DeepWitnessRowRef
import Derived.Lib.LaidTab
import Derived.LaidHandle
import Derived.LaidLaws
import Derived.Shelf.LaysM
import Derived.SevenTiedAt
namespace Go.Proofs.YtepflnfnkfkldaaDoor.Laid
open Go.ChangeShapes Go.WideShapes Go.ChangeAt Go.RowKit
abbrev L:List (String × DataW Unit):=[("math/bits.deBruijn64tab",Rows.laid_math_bits_deBruijn64tab)]
noncomputable def base (os:Os):World:=World.holding Tryd.prog os ⟨#[],#[],[]⟩
noncomputable def world (os:Os):World:={ base os with heap:=((base os).heap.modify 0 fun | .cells _ t frozen=>.cells #[.int .u8 0,.int .u8 1,.int .u8 56,.int .u8 2,.int .u8 57,.int .u8 49,.int .u8 28,.int .u8 3,.int .u8 61,.int .u8 58,.int .u8 42,.int .u8 50,.int .u8 38,.int .u8 29,.int .u8 17,.int .u8 4,.int .u8 62,.int .u8 47,.int .u8 59,.int .u8 36,.int .u8 45,.int .u8 43,.int .u8 51,.int .u8 22,.int .u8 53,.int .u8 39,.int .u8 33,.int .u8 30,.int .u8 24,.int .u8 18,.int .u8 12,.int .u8 5,.int .u8 63,.int .u8 55,.int .u8 48,.int .u8 27,.int .u8 60,.int .u8 41,.int .u8 37,.int .u8 16,.int .u8 46,.int .u8 35,.int .u8 44,.int .u8 21,.int .u8 52,.int .u8 32,.int .u8 23,.int .u8 11,.int .u8 54,.int .u8 26,.int .u8 40,.int .u8 15,.int .u8 34,.int .u8 20,.int .u8 31,.int .u8 10,.int .u8 25,.int .u8 14,.int .u8 19,.int .u8 9,.int .u8 13,.int .u8 8,.int .u8 7,.int .u8 6] t frozen | o=>o) }
set_option maxRecDepth 1000000 in
theorem met (os:Os)(args:Array Value):laidMetH Tryd.prog L ((world os).forCall (fun _ _=>0) ⟨#[],args,[]⟩).memory:=
  laidMetH_of_parts (laidMet_of_run' 8 (by kernel_rfl) (by kernel_rfl)) (by kernel_rfl)
theorem gTab:Tryd.prog.globalNamed "math/bits.deBruijn64tab" = some 0:=by kernel_rfl
theorem gTabType:(Tryd.prog.globals[0]?).map (·.type)=some 126:=by kernel_rfl
theorem cA:Tryd.prog.cellsOf 126=64:=by kernel_rfl
theorem cE:Tryd.prog.cellsOf 5=1:=by kernel_rfl
theorem table {W:World}(h:laidMet Tryd.prog (("math/bits.deBruijn64tab",Rows.laid_math_bits_deBruijn64tab) :: []) W):Lib.TabIs Tryd.prog W "math/bits.deBruijn64tab" .u8 [0,1,56,2,57,49,28,3,61,58,42,50,38,29,17,4,62,47,59,36,45,43,51,22,53,39,33,30,24,18,12,5,63,55,48,27,60,41,37,16,46,35,44,21,52,32,23,11,54,26,40,15,34,20,31,10,25,14,19,9,13,8,7,6]:=
  Lib.tabIs_of_head (rest:=[]) gTab gTabType Tryd.underlying126 Tryd.underlying5 cE cA h
theorem tab {W:World}(h:laidMetH Tryd.prog L W)(_hs:W.ShapedOpen Tryd.prog):PRea.Tab W:=by
  exact ⟨fun i hi=>(table h).cell gTab i (by simpa using hi),trivial⟩
end Go.Proofs.YtepflnfnkfkldaaDoor.Laid
