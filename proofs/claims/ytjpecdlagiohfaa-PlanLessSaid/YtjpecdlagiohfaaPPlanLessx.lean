/- The Go functions that this law reaches, each as a Lean function with the same answers (the law itself where it answers true), and the proof that the code comes to them; conditions: those of each theorem. Laid by a program of this session over the print. -/
import Derived.Test.YtjpecdlagiohfaaPPlanLessx0
import Derived.Test.YtjpecdlagiohfaaPPlanLessx1
import Derived.Test.YtjpecdlagiohfaaPPlanLessx2
import Derived.Test.YtjpecdlagiohfaaPPlanLessx3
namespace Go.Proofs.Ytjpecdlagiohfaa.PPlanLess
open Go.RowKit Go.Proofs.YtjpecdlagiohfaaW.PrintWords Go.Proofs.YtjpecdlagiohfaaW.PrintLast Go.Proofs.YtjpecdlagiohfaaW.PrintMore
attribute [local go_sem] max2_int min2_int max_two min_two max_three min_three max_four min_four   -- for this text's walks alone
set_option linter.unusedVariables false
set_option linter.unusedSimpArgs false

end Go.Proofs.Ytjpecdlagiohfaa.PPlanLess
