/- The law LexDigits, over numbers: its printed function answers true at every input. -/
import Derived.Test.YtgajipaenoepiaaLex
namespace Go.Proofs.Ytgajipaenoepiaa.Pure
open Go.RowKit Go.Proofs.YtgajipaenoepiaaW.PrintWords Go.Proofs.YtgajipaenoepiaaW.PrintLast Go.Proofs.YtgajipaenoepiaaW.PrintMore Go.Proofs.Ytgajipaenoepiaa.PLex
theorem LexDigits : complinelaw17_LexDigits.Pure := LexDigits_p
end Go.Proofs.Ytgajipaenoepiaa.Pure
