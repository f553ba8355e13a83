/- The Go functions that this law reaches, each as a Lean function with the same answers (the law itself where it answers true), and the proof that the code comes to them; conditions: those of each theorem. Laid by a program of this session over the print. -/
import Derived.Test.YtnjnmegjbcgajaaPCostSumsx0
import Derived.Test.YtnjnmegjbcgajaaPCostSumsx1
import Derived.Test.YtnjnmegjbcgajaaPCostSumsx2
import Derived.Test.YtnjnmegjbcgajaaPCostSumsx3
import Derived.Test.YtnjnmegjbcgajaaPCostSumsx4
namespace Go.Proofs.Ytnjnmegjbcgajaa.PCostSums
open Go.RowKit Go.Proofs.YtnjnmegjbcgajaaW.PrintWords Go.Proofs.YtnjnmegjbcgajaaW.PrintLast Go.Proofs.YtnjnmegjbcgajaaW.PrintMore
attribute [local go_sem] max2_int min2_int max_two min_two max_three min_three max_four min_four   -- for this text's walks alone
set_option linter.unusedVariables false
set_option linter.unusedSimpArgs false

end Go.Proofs.Ytnjnmegjbcgajaa.PCostSums
