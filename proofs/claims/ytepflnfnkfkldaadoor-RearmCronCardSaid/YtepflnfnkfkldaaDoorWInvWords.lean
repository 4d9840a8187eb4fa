-- Written by a program of this session (prune.py): what these texts want of the print's words.
import Derived.Test.YtepflnfnkfkldaaDoorWInv
import Derived.Test.YtepflnfnkfkldaaDoorWFootNe
namespace Go.Proofs.YtepflnfnkfkldaaDoorW.PrintWords
open Go.RowKit
end Go.Proofs.YtepflnfnkfkldaaDoorW.PrintWords
namespace Go.Proofs.YtepflnfnkfkldaaDoorW.PrintLast
section
variable {ops:Array Oper} {a:Act} {o og:Oper} {g:Nat} {t:Tmp} {u:Bool}
end
end Go.Proofs.YtepflnfnkfkldaaDoorW.PrintLast
