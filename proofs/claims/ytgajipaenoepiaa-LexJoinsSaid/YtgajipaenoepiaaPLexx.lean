-- Written by a program of this session (gprint.py) over the kit's print.
import Derived.Test.YtgajipaenoepiaaPLexx0
import Derived.Test.YtgajipaenoepiaaPLexx1
import Derived.Test.YtgajipaenoepiaaPLexx2
import Derived.Test.YtgajipaenoepiaaPLexx3
import Derived.Test.YtgajipaenoepiaaPLexx4
import Derived.Test.YtgajipaenoepiaaPLexx5
import Derived.Test.YtgajipaenoepiaaPLexx6
import Derived.Test.YtgajipaenoepiaaPLexx7
namespace Go.Proofs.Ytgajipaenoepiaa.PLex
open Go.RowKit Go.Proofs.YtgajipaenoepiaaW.PrintWords Go.Proofs.YtgajipaenoepiaaW.PrintLast Go.Proofs.YtgajipaenoepiaaW.PrintMore
attribute [local go_sem] max2_int min2_int max_two min_two max_three min_three max_four min_four   -- for this text's walks alone
set_option linter.unusedVariables false
set_option linter.unusedSimpArgs false

end Go.Proofs.Ytgajipaenoepiaa.PLex
