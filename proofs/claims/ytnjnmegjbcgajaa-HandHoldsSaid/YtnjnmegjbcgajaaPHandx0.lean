/- The Go functions that these laws reach, each as a Lean function with the same answers (a law itself where it answers true), and the proof that the code comes to them; conditions: those of each theorem. Laid by a program of this session over the print. -/
import Derived.Test.YtnjnmegjbcgajaaProg
import Derived.Test.YtnjnmegjbcgajaaOrd
import Derived.Below
import Derived.Deep.Draws
import Derived.Deep.AppendLies
import Derived.Maps.AppendAt
import Derived.OwnWalk
import Derived.Laws.BytesArg
import Derived.Laws.MakeOwn
import Derived.Laws.OwnMore
import Derived.Deep.OwnRows
import Derived.Tactics
import Derived.Lib.ConvBytes
import Derived.Laws.Slices
import Derived.WalkKit
import Derived.KernelRfl
import Derived.RowKit3
import Derived.Deep.LoopGhost
import Derived.Deep.QuietTactic
import Derived.BigQuiet
import Derived.WideLaws
import Derived.Deep.DeepCutAuto
import Derived.Deep.CutBlock
import Derived.Deep.RegionHeld3
import Derived.Laws.Rows
import Derived.Lib.AppendStr
import Derived.ArgAppend
import Derived.Laws.IdiomCopy
import Derived.OrdersHeld
import Derived.Laws.BitsLemmas
import Derived.RowKit
import Derived.Laws.CopyOwn
import Derived.Test.YtnjnmegjbcgajaaWWords
import Derived.Test.YtnjnmegjbcgajaaWLast
import Derived.Test.YtnjnmegjbcgajaaWTab
import Derived.Test.YtnjnmegjbcgajaaWFour
import Derived.Test.YtnjnmegjbcgajaaWQPut
import Derived.Test.YtnjnmegjbcgajaaWApart
import Derived.Test.YtnjnmegjbcgajaaWArr
import Derived.Test.YtnjnmegjbcgajaaWZeros
import Derived.Test.YtnjnmegjbcgajaaWFoot
import Derived.Test.YtnjnmegjbcgajaaWKept
import Derived.Test.YtnjnmegjbcgajaaWShare
import Derived.Test.YtnjnmegjbcgajaaWN
import Derived.Test.YtnjnmegjbcgajaaWFootNe
import Derived.Test.YtnjnmegjbcgajaaWAt
import Derived.Test.YtnjnmegjbcgajaaWEqStruct
import Derived.Test.YtnjnmegjbcgajaaWRepsOne
import Derived.Test.YtnjnmegjbcgajaaWInv
import Derived.Test.YtnjnmegjbcgajaaWInvWords
import Derived.Test.YtnjnmegjbcgajaaWGuard
import Derived.Test.YtnjnmegjbcgajaaWNEv
import Derived.Test.YtnjnmegjbcgajaaWMore
namespace Go.Proofs.Ytnjnmegjbcgajaa.PHand
open Go.RowKit Go.Proofs.YtnjnmegjbcgajaaW.PrintWords Go.Proofs.YtnjnmegjbcgajaaW.PrintLast Go.Proofs.YtnjnmegjbcgajaaW.PrintMore
attribute [local go_sem] max2_int min2_int max_two min_two max_three min_three max_four min_four   -- for this text's walks alone
set_option linter.unusedVariables false
set_option linter.unusedSimpArgs false



def errW : Option Int → Value
  | none => .nilIface
  | some c => .iface 0 (.int .i64 c)
theorem errW_none : errW none = .nilIface := rfl
theorem errW_some (c : Int) : errW (some c) = .iface 0 (.int .i64 c) := rfl

theorem info3 : (Try.prog.info? 3).map (fun i => (i.zero, i.size, i.bytes)) = some (some (.int .i64 0), 1, 8) := by kernel_rfl
theorem info4 : (Try.prog.info? 4).map (fun i => (i.zero, i.size, i.bytes)) = some (some (.bool false), 1, 1) := by kernel_rfl
-- the values' own types

end Go.Proofs.Ytnjnmegjbcgajaa.PHand
