-- Written by a program of this session (prune.py): what these texts want of the print's words.
import Derived.Test.YtepflnfnkfkldaaDoorWWords
namespace Go.Proofs.YtepflnfnkfkldaaDoorW.PrintWords
open Go.RowKit
section
variable {P:Program} {ops:Array Oper} {rest:List Oper} {o:Oper} {a:Act} {Q:Exit→Act→World→Prop} {W:World}
end
end Go.Proofs.YtepflnfnkfkldaaDoorW.PrintWords
