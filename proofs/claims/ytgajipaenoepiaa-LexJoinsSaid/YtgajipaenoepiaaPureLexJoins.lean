/- The law LexJoins, over numbers: its printed function answers true at every input. -/
import Derived.Test.YtgajipaenoepiaaLex
namespace Go.Proofs.Ytgajipaenoepiaa.Pure
open Go.RowKit Go.Proofs.YtgajipaenoepiaaW.PrintWords Go.Proofs.YtgajipaenoepiaaW.PrintLast Go.Proofs.YtgajipaenoepiaaW.PrintMore Go.Proofs.Ytgajipaenoepiaa.PLex
theorem LexJoins : ∀ (l0 : List ByteArray) (l1 : List Int), (∀ w ∈ l0, w.size ≤ 140737488351232) → ∃ k, complinelaw17_LexJoins.f k l0 l1 = some true
 := LexJoins_p
end Go.Proofs.Ytgajipaenoepiaa.Pure
