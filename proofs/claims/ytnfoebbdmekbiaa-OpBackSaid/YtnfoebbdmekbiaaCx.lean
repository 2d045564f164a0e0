-- Written by a program of this session (wip/tools: patched print) for this claim. Not trusted: Lean checks it.
import Derived.Test.YtnfoebbdmekbiaaCx0
import Derived.Test.YtnfoebbdmekbiaaCx1
import Derived.Test.YtnfoebbdmekbiaaCx2
import Derived.Test.YtnfoebbdmekbiaaCx3
namespace Go.Proofs.Ytnfoebbdmekbiaa.C
open Go.RowKit Go.Proofs.YtnfoebbdmekbiaaW.PrintWords Go.Proofs.YtnfoebbdmekbiaaW.PrintLast Go.Proofs.YtnfoebbdmekbiaaW.PrintMore
attribute [local go_sem] max2_int min2_int max_two min_two max_three min_three max_four min_four   -- for this text's walks alone
set_option linter.unusedVariables false
set_option linter.unusedSimpArgs false

end Go.Proofs.Ytnfoebbdmekbiaa.C
