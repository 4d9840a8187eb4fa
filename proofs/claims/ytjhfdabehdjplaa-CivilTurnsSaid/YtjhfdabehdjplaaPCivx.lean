-- Written by a program of this session (gprint.py) over the kit's print.
import Derived.Test.YtjhfdabehdjplaaPCivx0
import Derived.Test.YtjhfdabehdjplaaPCivx1
import Derived.Test.YtjhfdabehdjplaaPCivx2
import Derived.Test.YtjhfdabehdjplaaPCivx3
import Derived.Test.YtjhfdabehdjplaaPCivx4
import Derived.Test.YtjhfdabehdjplaaPCivx5
import Derived.Test.YtjhfdabehdjplaaPCivx6
namespace Go.Proofs.Ytjhfdabehdjplaa.PCiv
open Go.RowKit Go.Proofs.YtjhfdabehdjplaaW.PrintWords Go.Proofs.YtjhfdabehdjplaaW.PrintLast Go.Proofs.YtjhfdabehdjplaaW.PrintMore
attribute [local go_sem] max2_int min2_int max_two min_two max_three min_three max_four min_four   -- for this text's walks alone
set_option linter.unusedVariables false
set_option linter.unusedSimpArgs false

end Go.Proofs.Ytjhfdabehdjplaa.PCiv
