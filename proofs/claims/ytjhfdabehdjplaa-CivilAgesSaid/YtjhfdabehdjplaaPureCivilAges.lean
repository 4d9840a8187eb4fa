/- The law CivilAges, over numbers: its printed function answers true at every input. -/
import Derived.Test.YtjhfdabehdjplaaCiv
namespace Go.Proofs.Ytjhfdabehdjplaa.Pure
open Go.RowKit Go.Proofs.YtjhfdabehdjplaaW.PrintWords Go.Proofs.YtjhfdabehdjplaaW.PrintLast Go.Proofs.YtjhfdabehdjplaaW.PrintMore Go.Proofs.Ytjhfdabehdjplaa.PCiv
theorem CivilAges : complinelaw16_CivilAges.Pure := CivilAges_p
end Go.Proofs.Ytjhfdabehdjplaa.Pure
