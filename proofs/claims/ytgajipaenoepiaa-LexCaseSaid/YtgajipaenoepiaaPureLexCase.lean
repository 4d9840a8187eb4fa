/- The law LexCase, over numbers: its printed function answers true at every input. -/
import Derived.Test.YtgajipaenoepiaaLex
namespace Go.Proofs.Ytgajipaenoepiaa.Pure
open Go.RowKit Go.Proofs.YtgajipaenoepiaaW.PrintWords Go.Proofs.YtgajipaenoepiaaW.PrintLast Go.Proofs.YtgajipaenoepiaaW.PrintMore Go.Proofs.Ytgajipaenoepiaa.PLex
theorem LexCase : complinelaw17_LexCase.Pure := LexCase_p
end Go.Proofs.Ytgajipaenoepiaa.Pure
