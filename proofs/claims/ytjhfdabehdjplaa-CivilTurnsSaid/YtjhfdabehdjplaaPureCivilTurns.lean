/- The law CivilTurns, over numbers: its printed function answers true at every input. -/
import Derived.Test.YtjhfdabehdjplaaCiv
namespace Go.Proofs.Ytjhfdabehdjplaa.Pure
open Go.RowKit Go.Proofs.YtjhfdabehdjplaaW.PrintWords Go.Proofs.YtjhfdabehdjplaaW.PrintLast Go.Proofs.YtjhfdabehdjplaaW.PrintMore Go.Proofs.Ytjhfdabehdjplaa.PCiv
theorem CivilTurns : ∀ (a0 : Int) (a1_0 : Int) (a1_1 : Int) (a1_2 : Int) (a1_3 : Int) (a1_4 : Int) (a1_5 : Int), (Lit.int .i64 a0).wf = true → (Lit.int .i64 a1_0).wf = true → (Lit.int .i64 a1_1).wf = true → (Lit.int .i64 a1_2).wf = true → (Lit.int .i64 a1_3).wf = true → (Lit.int .i64 a1_4).wf = true → (Lit.int .i64 a1_5).wf = true → ∃ k, complinelaw16_CivilTurns.f k a0 a1_0 a1_1 a1_2 a1_3 a1_4 a1_5 = some true := fun a0 a1_0 a1_1 a1_2 a1_3 a1_4 a1_5 _ _ _ _ _ _ _ => CivilTurns_p a0 a1_0 a1_1 a1_2 a1_3 a1_4 a1_5
end Go.Proofs.Ytjhfdabehdjplaa.Pure
