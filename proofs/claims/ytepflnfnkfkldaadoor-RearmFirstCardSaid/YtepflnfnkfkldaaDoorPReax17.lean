-- Written by a program of this session (gprint.py) over the kit's print.
import Derived.Test.YtepflnfnkfkldaaDoorPReax0
import Derived.Test.YtepflnfnkfkldaaDoorPReax14
namespace Go.Proofs.YtepflnfnkfkldaaDoor.PRea
open Go.RowKit Go.Proofs.YtepflnfnkfkldaaDoorW.PrintWords Go.Proofs.YtepflnfnkfkldaaDoorW.PrintLast Go.Proofs.YtepflnfnkfkldaaDoorW.PrintMore
attribute [local go_sem] max2_int min2_int max_two min_two max_three min_three max_four min_four
set_option linter.unusedVariables false
set_option linter.unusedSimpArgs false
def complineref01_After.f (a0:Int)(a1:Int)(a2:Int):Option (Int × Int):=if a1=0 then (some (a0,0)) else (if a0 > a2 then ((complineref01_Add.f a0 a1).bind fun bt220=>(some (bt220.1,0))) else ((complineref01_Add.f (IntKind.u64.wrap (a2 - (Int.tmod (IntKind.u64.wrap (a2 - a0)) a1))) a1).bind fun bt222=>(some (bt222.1,IntKind.u64.wrap (Int.tdiv (IntKind.u64.wrap ((IntKind.u64.wrap (a2 - a0)) - (Int.tmod (IntKind.u64.wrap (a2 - a0)) a1))) a1)))))
end Go.Proofs.YtepflnfnkfkldaaDoor.PRea
