-- Written by a program of this session (gprint.py) over the kit's print.
import Derived.Test.YtepflnfnkfkldaaDoorPReax0
import Derived.Test.YtepflnfnkfkldaaDoorPReax3
import Derived.Test.YtepflnfnkfkldaaDoorPReax11
import Derived.Test.YtepflnfnkfkldaaDoorPReax13
import Derived.Test.YtepflnfnkfkldaaDoorPReax14
namespace Go.Proofs.YtepflnfnkfkldaaDoor.PRea
open Go.RowKit Go.Proofs.YtepflnfnkfkldaaDoorW.PrintWords Go.Proofs.YtepflnfnkfkldaaDoorW.PrintLast Go.Proofs.YtepflnfnkfkldaaDoorW.PrintMore
attribute [local go_sem] max2_int min2_int max_two min_two max_three min_three max_four min_four
set_option linter.unusedVariables false
set_option linter.unusedSimpArgs false
/-! This session's own: the document's next, by its own steps. -/
def R22.up (is:Bool)(atf:Int→Option Bool)(D:Int):Nat→Int→Option (Option Int)
 | 0,_=>none
 | k+1,t=>if is=true∧t < 1440 then (atf t).bind fun m=>if m=true then some (some (wrap64 (wrap64 (D*1440)+t))) else R22.up is atf D k (wrap64 (t+1)) else some none
def R22.next (onf:Int→Int→Int→Int→Option Bool)(atf:Int→Option Bool)(aft:Int→Int→Int→Int→Option (Int × Int × Int × Int)):Nat→Int→Int→Int→Int→Int→Option (Int × Int)
 | 0,_,_,_,_,_=>none
 | k+1,t,D,y,m,d=>if D≤376199 then (onf D y m d).bind fun is=>(R22.up is atf D 1500 t).bind fun o=>match o with
   | some r=>some (r,0)
   | none=>(aft D y m d).bind fun q=>R22.next onf atf aft k 0 q.1 q.2.1 q.2.2.1 q.2.2.2
  else some (0,11)
def R22.count (onf:Int→Int→Int→Int→Option Bool)(tms:Int→Int→Option Int)(aft:Int→Int→Int→Int→Option (Int × Int × Int × Int))(fr tu wh:Int):Nat→Int→Int→Int→Int→Int→Option Int
 | 0,_,_,_,_,_=>none
 | k + 1, n, D, y, m, d => if wrap64 (D * 1440) < tu then (onf D y m d).bind fun is => (if is = true then
    (if mx (wrap64 (fr - wrap64 (D*1440))) 0=0∧mn (wrap64 (tu - wrap64 (D*1440))) 1440=1440 then some (wrap64 (n+wh)) else (tms (mx (wrap64 (fr - wrap64 (D*1440))) 0) (mn (wrap64 (tu - wrap64 (D*1440))) 1440)).bind fun v=>some (wrap64 (n+v))) else some n).bind fun n'=>
   (aft D y m d).bind fun q=>R22.count onf tms aft fr tu wh k n' q.1 q.2.1 q.2.2.1 q.2.2.2
  else some n
end Go.Proofs.YtepflnfnkfkldaaDoor.PRea
