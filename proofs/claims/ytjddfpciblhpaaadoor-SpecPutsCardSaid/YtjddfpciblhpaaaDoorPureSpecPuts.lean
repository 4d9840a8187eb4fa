/- The law SpecPuts: its walk answers true at every input. No condition. -/
import Derived.Test.YtjddfpciblhpaaaDoorSpcPuts
namespace Go.Proofs.YtjddfpciblhpaaaDoor.Pure
open Go.RowKit Go.Proofs.YtjddfpciblhpaaaDoorW.PrintWords Go.Proofs.YtjddfpciblhpaaaDoorW.PrintLast Go.Proofs.YtjddfpciblhpaaaDoorW.PrintMore Go.Proofs.YtjddfpciblhpaaaDoor.PSpc
set_option linter.unusedVariables false
theorem SpecPuts : ∀ (a0_0 : Int) (a0_1 : Bool) (a0_2 : Int) (a0_3 : Bool) (a0_4 : Int) (a0_5 : Bool) (a0_6 : Int) (a0_7 : Bool) (a0_8 : Int) (a0_9 : Bool) (a1 : Int) (a2 : Int) (a3_0 : Int) (a3_1 : Bool), (Lit.int .u64 a0_0).wf = true → (Lit.int .u64 a0_2).wf = true → (Lit.int .u64 a0_4).wf = true → (Lit.int .u64 a0_6).wf = true → (Lit.int .u64 a0_8).wf = true → (Lit.int .i64 a1).wf = true → (Lit.int .i64 a2).wf = true → (Lit.int .u64 a3_0).wf = true → complinelaw19_SpecPuts.f a0_0 a0_1 a0_2 a0_3 a0_4 a0_5 a0_6 a0_7 a0_8 a0_9 a1 a2 a3_0 a3_1 = some true := by intros; rfl
end Go.Proofs.YtjddfpciblhpaaaDoor.Pure
