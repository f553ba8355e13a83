/-
  No cell of these rows narrows 'for every input' (looked for: loops, veiled, ifaces, maps, wideKeys, modest, calm, conditions, laid).
  DERIVED. THE GIVEN ROWS OF THIS SEAT. 8 by the template 'for every input the law returns true; each argument reads behind the call as it read before'; 0 by the template 'total and deterministic' (their statements: YtnjnmegjbcgajaaTotals.lean).
  GIVEN WITH THE SEED: the statements are not yours to turn. If you find one false, say at which input.
  Laid BY PROGRAM, IN A SANDBOX (cutbox-rows.mjs): the forced cells as the released guide's own fill.sh prints them over the translation 341208b3191fecce… (all of the seat's roots in one cut). By AI agents, Wed Nov 11 2026. No macro, syntax, notation, axiom, sorry.
-/
import Derived.Test.YtnjnmegjbcgajaaChecked
import GoSem.Claim
import GoSem.ClaimJoined
import GoSem.ClaimMapViews
import Derived.JoinedTies
import Derived.KernelRfl
namespace Go.Proofs.Ytnjnmegjbcgajaa
/- THE CELL 'sum', in the pinned program and in every row, IS THE sha256 OF THE DUMP (.gsa) THAT YtnjnmegjbcgajaaProg.lean LOADS. Nothing in Lean hashes anything: it is a label: what it is worth is what the hold of that sum in a sandbox is worth. -/
noncomputable def Try.pinned : Pinned := { name := "ytnjnmegjbcgajaa", sum := "341208b3191fecce8c0f3db1f18847922e9175b8038d6158b6d81c1bd4475ef6", checked := Try.checked }
namespace Rows
def none {H : Type} : Left H := { results := [], args := [] }

/-- 'potsherdlaw24.CostSteps': WHATEVER THE INPUT: true; the input reads as it did. -/
def costStepsSpec : ChangeSpec := { name := "costSteps", fn := fun _ => fun
  | [d1, d2] => { results := [.lit (.bool true)], args := [d1, d2] }
  | _ => none }
def costStepsRow : OpenClaim := { program := "ytnjnmegjbcgajaa", sum := "341208b3191fecce8c0f3db1f18847922e9175b8038d6158b6d81c1bd4475ef6", func := "potsherd/potsherdlaw24.CostSteps", spec := "costSteps", apart := false }
def CostStepsSaid : Prop := costStepsRow.holds Try.pinned (OpenSpec.ofChange costStepsSpec)

/-- ITS FALSE NEIGHBOUR: 'it returns false'. Refute it at one input. -/
def costStepsWrong : ChangeSpec := { name := "costSteps", fn := fun _ => fun
  | [d1, d2] => { results := [.lit (.bool false)], args := [d1, d2] }
  | _ => none }
def CostStepsWrongFalsely : Prop := costStepsRow.holds Try.pinned (OpenSpec.ofChange costStepsWrong)

/-- 'potsherdlaw24.CostForms': WHATEVER THE INPUT: true; the input reads as it did. -/
def costFormsSpec : ChangeSpec := { name := "costForms", fn := fun _ => fun
  | [d1, d2, d3, d4, d5, d6, d7] => { results := [.lit (.bool true)], args := [d1, d2, d3, d4, d5, d6, d7] }
  | _ => none }
def costFormsRow : OpenClaim := { program := "ytnjnmegjbcgajaa", sum := "341208b3191fecce8c0f3db1f18847922e9175b8038d6158b6d81c1bd4475ef6", func := "potsherd/potsherdlaw24.CostForms", spec := "costForms", apart := false }
def CostFormsSaid : Prop := costFormsRow.holds Try.pinned (OpenSpec.ofChange costFormsSpec)

/-- ITS FALSE NEIGHBOUR: 'it returns false'. Refute it at one input. -/
def costFormsWrong : ChangeSpec := { name := "costForms", fn := fun _ => fun
  | [d1, d2, d3, d4, d5, d6, d7] => { results := [.lit (.bool false)], args := [d1, d2, d3, d4, d5, d6, d7] }
  | _ => none }
def CostFormsWrongFalsely : Prop := costFormsRow.holds Try.pinned (OpenSpec.ofChange costFormsWrong)

/-- 'potsherdlaw24.CostSums': WHATEVER THE INPUT: true; the input reads as it did. -/
def costSumsSpec : ChangeSpec := { name := "costSums", fn := fun _ => fun
  | [d1, d2, d3, d4, d5] => { results := [.lit (.bool true)], args := [d1, d2, d3, d4, d5] }
  | _ => none }
def costSumsRow : OpenClaim := { program := "ytnjnmegjbcgajaa", sum := "341208b3191fecce8c0f3db1f18847922e9175b8038d6158b6d81c1bd4475ef6", func := "potsherd/potsherdlaw24.CostSums", spec := "costSums", apart := false }
def CostSumsSaid : Prop := costSumsRow.holds Try.pinned (OpenSpec.ofChange costSumsSpec)

/-- ITS FALSE NEIGHBOUR: 'it returns false'. Refute it at one input. -/
def costSumsWrong : ChangeSpec := { name := "costSums", fn := fun _ => fun
  | [d1, d2, d3, d4, d5] => { results := [.lit (.bool false)], args := [d1, d2, d3, d4, d5] }
  | _ => none }
def CostSumsWrongFalsely : Prop := costSumsRow.holds Try.pinned (OpenSpec.ofChange costSumsWrong)

/-- 'potsherdlaw24.CostHangs': WHATEVER THE INPUT: true; the input reads as it did. -/
def costHangsSpec : ChangeSpec := { name := "costHangs", fn := fun _ => fun
  | [d1, d2, d3, d4] => { results := [.lit (.bool true)], args := [d1, d2, d3, d4] }
  | _ => none }
def costHangsRow : OpenClaim := { program := "ytnjnmegjbcgajaa", sum := "341208b3191fecce8c0f3db1f18847922e9175b8038d6158b6d81c1bd4475ef6", func := "potsherd/potsherdlaw24.CostHangs", spec := "costHangs", apart := false }
def CostHangsSaid : Prop := costHangsRow.holds Try.pinned (OpenSpec.ofChange costHangsSpec)

/-- ITS FALSE NEIGHBOUR: 'it returns false'. Refute it at one input. -/
def costHangsWrong : ChangeSpec := { name := "costHangs", fn := fun _ => fun
  | [d1, d2, d3, d4] => { results := [.lit (.bool false)], args := [d1, d2, d3, d4] }
  | _ => none }
def CostHangsWrongFalsely : Prop := costHangsRow.holds Try.pinned (OpenSpec.ofChange costHangsWrong)

/-- 'potsherdlaw21.HandForms': WHATEVER THE INPUT: true; the input reads as it did. -/
def handFormsSpec : ChangeSpec := { name := "handForms", fn := fun _ => fun
  | [d1, d2, d3] => { results := [.lit (.bool true)], args := [d1, d2, d3] }
  | _ => none }
def handFormsRow : OpenClaim := { program := "ytnjnmegjbcgajaa", sum := "341208b3191fecce8c0f3db1f18847922e9175b8038d6158b6d81c1bd4475ef6", func := "potsherd/potsherdlaw21.HandForms", spec := "handForms", unfollowed := true, recurses := true, apart := false }
def HandFormsSaid : Prop := handFormsRow.holds Try.pinned (OpenSpec.ofChange handFormsSpec)

/-- ITS FALSE NEIGHBOUR: 'it returns false'. Refute it at one input. -/
def handFormsWrong : ChangeSpec := { name := "handForms", fn := fun _ => fun
  | [d1, d2, d3] => { results := [.lit (.bool false)], args := [d1, d2, d3] }
  | _ => none }
def HandFormsWrongFalsely : Prop := handFormsRow.holds Try.pinned (OpenSpec.ofChange handFormsWrong)

/-- 'potsherdlaw21.HandHolds': WHATEVER THE INPUT: true; the input reads as it did. -/
def handHoldsSpec : ChangeSpec := { name := "handHolds", fn := fun _ => fun
  | [d] => { results := [.lit (.bool true)], args := [d] }
  | _ => none }
def handHoldsRow : OpenClaim := { program := "ytnjnmegjbcgajaa", sum := "341208b3191fecce8c0f3db1f18847922e9175b8038d6158b6d81c1bd4475ef6", func := "potsherd/potsherdlaw21.HandHolds", spec := "handHolds", unfollowed := true, recurses := true, apart := false }
def HandHoldsSaid : Prop := handHoldsRow.holds Try.pinned (OpenSpec.ofChange handHoldsSpec)

/-- ITS FALSE NEIGHBOUR: 'it returns false'. Refute it at one input. -/
def handHoldsWrong : ChangeSpec := { name := "handHolds", fn := fun _ => fun
  | [d] => { results := [.lit (.bool false)], args := [d] }
  | _ => none }
def HandHoldsWrongFalsely : Prop := handHoldsRow.holds Try.pinned (OpenSpec.ofChange handHoldsWrong)

/-- 'potsherdlaw21.HandFull': WHATEVER THE INPUT: true; the input reads as it did. -/
def handFullSpec : ChangeSpec := { name := "handFull", fn := fun _ => fun
  | [d1, d2] => { results := [.lit (.bool true)], args := [d1, d2] }
  | _ => none }
def handFullRow : OpenClaim := { program := "ytnjnmegjbcgajaa", sum := "341208b3191fecce8c0f3db1f18847922e9175b8038d6158b6d81c1bd4475ef6", func := "potsherd/potsherdlaw21.HandFull", spec := "handFull", unfollowed := true, recurses := true, apart := false }
def HandFullSaid : Prop := handFullRow.holds Try.pinned (OpenSpec.ofChange handFullSpec)

/-- ITS FALSE NEIGHBOUR: 'it returns false'. Refute it at one input. -/
def handFullWrong : ChangeSpec := { name := "handFull", fn := fun _ => fun
  | [d1, d2] => { results := [.lit (.bool false)], args := [d1, d2] }
  | _ => none }
def HandFullWrongFalsely : Prop := handFullRow.holds Try.pinned (OpenSpec.ofChange handFullWrong)

/-- 'potsherdlaw21.HandBack': WHATEVER THE INPUT: true; the input reads as it did. -/
def handBackSpec : ChangeSpec := { name := "handBack", fn := fun _ => fun
  | [d1, d2] => { results := [.lit (.bool true)], args := [d1, d2] }
  | _ => none }
def handBackRow : OpenClaim := { program := "ytnjnmegjbcgajaa", sum := "341208b3191fecce8c0f3db1f18847922e9175b8038d6158b6d81c1bd4475ef6", func := "potsherd/potsherdlaw21.HandBack", spec := "handBack", unfollowed := true, recurses := true, apart := false }
def HandBackSaid : Prop := handBackRow.holds Try.pinned (OpenSpec.ofChange handBackSpec)

/-- ITS FALSE NEIGHBOUR: 'it returns false'. Refute it at one input. -/
def handBackWrong : ChangeSpec := { name := "handBack", fn := fun _ => fun
  | [d1, d2] => { results := [.lit (.bool false)], args := [d1, d2] }
  | _ => none }
def HandBackWrongFalsely : Prop := handBackRow.holds Try.pinned (OpenSpec.ofChange handBackWrong)

/- THE SECOND FORM. 'bulk': how many values and letters a reading holds, each counted each time it is reached (what is shared counts as often as it is met; a slice's spare places count too). A statement '..UptoSaid' is the law's where the arguments, and the package variables that the reading takes, are together of bulk at most 1048576: NARROWER than '..Said'. Prove '..Said' where nothing that the law and all that it calls make is longer than what came in: it says more and counts as full. Else prove '..UptoSaid'. A law counts once. -/
mutual
def uptoBulk {H : Type} : DataW H → Nat
  | .lit (.string bytes) => bytes.length + 1
  | .lit _ => 1
  | .nil => 1
  | .ptr d => uptoBulk d + 1
  | .slice elems spare => uptoBulkAll elems + uptoBulkAll spare + 1
  | .agg parts => uptoBulkAll parts + 1
  | .iface _ d => uptoBulk d + 1
  | .map entries => uptoBulkEntries entries + 1
  | .held _ => 1
def uptoBulkAll {H : Type} : List (DataW H) → Nat
  | [] => 0
  | d :: r => uptoBulk d + uptoBulkAll r
def uptoBulkEntries {H : Type} : List (Lit × DataW H) → Nat
  | [] => 0
  | x :: r => uptoBulkEntry x + uptoBulkEntries r
def uptoBulkEntry {H : Type} : Lit × DataW H → Nat
  | (.string bytes, d) => bytes.length + uptoBulk d + 1
  | (_, d) => uptoBulk d + 1
 end
def uptoSmall : (H : Type) → List (DataW H) → Bool := fun _ ds => decide (uptoBulkAll ds ≤ 1048576)
def OpenSpec.upto (s : _root_.Go.ChangeSpec) : _root_.Go.OpenSpec := { _root_.Go.OpenSpec.ofChange s with cond := some uptoSmall }

/-- 'potsherdlaw24.CostSteps', WHERE WHAT IT READS IS OF BULK AT MOST 1048576: true; the input reads as it did. -/
def costStepsUptoRow : OpenClaim := { program := "ytnjnmegjbcgajaa", sum := "341208b3191fecce8c0f3db1f18847922e9175b8038d6158b6d81c1bd4475ef6", func := "potsherd/potsherdlaw24.CostSteps", spec := "costSteps", apart := false, narrowed := true }
def CostStepsUptoSaid : Prop := costStepsUptoRow.holds Try.pinned (OpenSpec.upto costStepsSpec)

/-- 'potsherdlaw24.CostForms', WHERE WHAT IT READS IS OF BULK AT MOST 1048576: true; the input reads as it did. -/
def costFormsUptoRow : OpenClaim := { program := "ytnjnmegjbcgajaa", sum := "341208b3191fecce8c0f3db1f18847922e9175b8038d6158b6d81c1bd4475ef6", func := "potsherd/potsherdlaw24.CostForms", spec := "costForms", apart := false, narrowed := true }
def CostFormsUptoSaid : Prop := costFormsUptoRow.holds Try.pinned (OpenSpec.upto costFormsSpec)

/-- 'potsherdlaw24.CostSums', WHERE WHAT IT READS IS OF BULK AT MOST 1048576: true; the input reads as it did. -/
def costSumsUptoRow : OpenClaim := { program := "ytnjnmegjbcgajaa", sum := "341208b3191fecce8c0f3db1f18847922e9175b8038d6158b6d81c1bd4475ef6", func := "potsherd/potsherdlaw24.CostSums", spec := "costSums", apart := false, narrowed := true }
def CostSumsUptoSaid : Prop := costSumsUptoRow.holds Try.pinned (OpenSpec.upto costSumsSpec)

/-- 'potsherdlaw24.CostHangs', WHERE WHAT IT READS IS OF BULK AT MOST 1048576: true; the input reads as it did. -/
def costHangsUptoRow : OpenClaim := { program := "ytnjnmegjbcgajaa", sum := "341208b3191fecce8c0f3db1f18847922e9175b8038d6158b6d81c1bd4475ef6", func := "potsherd/potsherdlaw24.CostHangs", spec := "costHangs", apart := false, narrowed := true }
def CostHangsUptoSaid : Prop := costHangsUptoRow.holds Try.pinned (OpenSpec.upto costHangsSpec)

/-- 'potsherdlaw21.HandForms', WHERE WHAT IT READS IS OF BULK AT MOST 1048576: true; the input reads as it did. -/
def handFormsUptoRow : OpenClaim := { program := "ytnjnmegjbcgajaa", sum := "341208b3191fecce8c0f3db1f18847922e9175b8038d6158b6d81c1bd4475ef6", func := "potsherd/potsherdlaw21.HandForms", spec := "handForms", unfollowed := true, recurses := true, apart := false, narrowed := true }
def HandFormsUptoSaid : Prop := handFormsUptoRow.holds Try.pinned (OpenSpec.upto handFormsSpec)

/-- 'potsherdlaw21.HandHolds', WHERE WHAT IT READS IS OF BULK AT MOST 1048576: true; the input reads as it did. -/
def handHoldsUptoRow : OpenClaim := { program := "ytnjnmegjbcgajaa", sum := "341208b3191fecce8c0f3db1f18847922e9175b8038d6158b6d81c1bd4475ef6", func := "potsherd/potsherdlaw21.HandHolds", spec := "handHolds", unfollowed := true, recurses := true, apart := false, narrowed := true }
def HandHoldsUptoSaid : Prop := handHoldsUptoRow.holds Try.pinned (OpenSpec.upto handHoldsSpec)

/-- 'potsherdlaw21.HandFull', WHERE WHAT IT READS IS OF BULK AT MOST 1048576: true; the input reads as it did. -/
def handFullUptoRow : OpenClaim := { program := "ytnjnmegjbcgajaa", sum := "341208b3191fecce8c0f3db1f18847922e9175b8038d6158b6d81c1bd4475ef6", func := "potsherd/potsherdlaw21.HandFull", spec := "handFull", unfollowed := true, recurses := true, apart := false, narrowed := true }
def HandFullUptoSaid : Prop := handFullUptoRow.holds Try.pinned (OpenSpec.upto handFullSpec)

/-- 'potsherdlaw21.HandBack', WHERE WHAT IT READS IS OF BULK AT MOST 1048576: true; the input reads as it did. -/
def handBackUptoRow : OpenClaim := { program := "ytnjnmegjbcgajaa", sum := "341208b3191fecce8c0f3db1f18847922e9175b8038d6158b6d81c1bd4475ef6", func := "potsherd/potsherdlaw21.HandBack", spec := "handBack", unfollowed := true, recurses := true, apart := false, narrowed := true }
def HandBackUptoSaid : Prop := handBackUptoRow.holds Try.pinned (OpenSpec.upto handBackSpec)

end Rows
end Go.Proofs.Ytnjnmegjbcgajaa
