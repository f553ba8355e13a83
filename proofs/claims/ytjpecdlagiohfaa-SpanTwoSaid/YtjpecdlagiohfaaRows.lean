/-
  No cell of these rows narrows 'for every input' (looked for: loops, veiled, ifaces, maps, wideKeys, modest, calm, conditions, laid).
  DERIVED. THE GIVEN ROWS OF THIS SEAT. 10 by the template 'for every input the law returns true; each argument reads behind the call as it read before'; 0 by the template 'total and deterministic' (their statements: YtjpecdlagiohfaaTotals.lean).
  GIVEN WITH THE SEED: the statements are not yours to turn. If you find one false, say at which input.
  Laid BY PROGRAM, IN A SANDBOX (cutbox-rows.mjs): the forced cells as the released guide's own fill.sh prints them over the translation 16395dabdd8da1c9… (all of the seat's roots in one cut). By AI agents, Wed Nov 11 2026. No macro, syntax, notation, axiom, sorry.
-/
import Derived.Test.YtjpecdlagiohfaaChecked
import GoSem.Claim
import GoSem.ClaimJoined
import GoSem.ClaimMapViews
import Derived.JoinedTies
import Derived.KernelRfl
namespace Go.Proofs.Ytjpecdlagiohfaa
/- THE CELL 'sum', in the pinned program and in every row, IS THE sha256 OF THE DUMP (.gsa) THAT YtjpecdlagiohfaaProg.lean LOADS. Nothing in Lean hashes anything: it is a label: what it is worth is what the hold of that sum in a sandbox is worth. -/
noncomputable def Try.pinned : Pinned := { name := "ytjpecdlagiohfaa", sum := "16395dabdd8da1c96eef90c82e6d487ad27b9dd45413281ac778b90844d1679b", checked := Try.checked }
namespace Rows
def none {H : Type} : Left H := { results := [], args := [] }

/-- 'potsherdlaw16.SpanForms': WHATEVER THE INPUT: true; the input reads as it did. -/
def spanFormsSpec : ChangeSpec := { name := "spanForms", fn := fun _ => fun
  | [d1, d2, d3] => { results := [.lit (.bool true)], args := [d1, d2, d3] }
  | _ => none }
def spanFormsRow : OpenClaim := { program := "ytjpecdlagiohfaa", sum := "16395dabdd8da1c96eef90c82e6d487ad27b9dd45413281ac778b90844d1679b", func := "potsherd/potsherdlaw16.SpanForms", spec := "spanForms", apart := false }
def SpanFormsSaid : Prop := spanFormsRow.holds Try.pinned (OpenSpec.ofChange spanFormsSpec)

/-- ITS FALSE NEIGHBOUR: 'it returns false'. Refute it at one input. -/
def spanFormsWrong : ChangeSpec := { name := "spanForms", fn := fun _ => fun
  | [d1, d2, d3] => { results := [.lit (.bool false)], args := [d1, d2, d3] }
  | _ => none }
def SpanFormsWrongFalsely : Prop := spanFormsRow.holds Try.pinned (OpenSpec.ofChange spanFormsWrong)

/-- 'potsherdlaw16.SpanSides': WHATEVER THE INPUT: true; the input reads as it did. -/
def spanSidesSpec : ChangeSpec := { name := "spanSides", fn := fun _ => fun
  | [d1, d2] => { results := [.lit (.bool true)], args := [d1, d2] }
  | _ => none }
def spanSidesRow : OpenClaim := { program := "ytjpecdlagiohfaa", sum := "16395dabdd8da1c96eef90c82e6d487ad27b9dd45413281ac778b90844d1679b", func := "potsherd/potsherdlaw16.SpanSides", spec := "spanSides", apart := false }
def SpanSidesSaid : Prop := spanSidesRow.holds Try.pinned (OpenSpec.ofChange spanSidesSpec)

/-- ITS FALSE NEIGHBOUR: 'it returns false'. Refute it at one input. -/
def spanSidesWrong : ChangeSpec := { name := "spanSides", fn := fun _ => fun
  | [d1, d2] => { results := [.lit (.bool false)], args := [d1, d2] }
  | _ => none }
def SpanSidesWrongFalsely : Prop := spanSidesRow.holds Try.pinned (OpenSpec.ofChange spanSidesWrong)

/-- 'potsherdlaw16.SpanCuts': WHATEVER THE INPUT: true; the input reads as it did. -/
def spanCutsSpec : ChangeSpec := { name := "spanCuts", fn := fun _ => fun
  | [d1, d2, d3] => { results := [.lit (.bool true)], args := [d1, d2, d3] }
  | _ => none }
def spanCutsRow : OpenClaim := { program := "ytjpecdlagiohfaa", sum := "16395dabdd8da1c96eef90c82e6d487ad27b9dd45413281ac778b90844d1679b", func := "potsherd/potsherdlaw16.SpanCuts", spec := "spanCuts", apart := false }
def SpanCutsSaid : Prop := spanCutsRow.holds Try.pinned (OpenSpec.ofChange spanCutsSpec)

/-- ITS FALSE NEIGHBOUR: 'it returns false'. Refute it at one input. -/
def spanCutsWrong : ChangeSpec := { name := "spanCuts", fn := fun _ => fun
  | [d1, d2, d3] => { results := [.lit (.bool false)], args := [d1, d2, d3] }
  | _ => none }
def SpanCutsWrongFalsely : Prop := spanCutsRow.holds Try.pinned (OpenSpec.ofChange spanCutsWrong)

/-- 'potsherdlaw16.SpanAll': WHATEVER THE INPUT: true; the input reads as it did. -/
def spanAllSpec : ChangeSpec := { name := "spanAll", fn := fun _ => fun
  | [d1, d2] => { results := [.lit (.bool true)], args := [d1, d2] }
  | _ => none }
def spanAllRow : OpenClaim := { program := "ytjpecdlagiohfaa", sum := "16395dabdd8da1c96eef90c82e6d487ad27b9dd45413281ac778b90844d1679b", func := "potsherd/potsherdlaw16.SpanAll", spec := "spanAll", apart := false }
def SpanAllSaid : Prop := spanAllRow.holds Try.pinned (OpenSpec.ofChange spanAllSpec)

/-- ITS FALSE NEIGHBOUR: 'it returns false'. Refute it at one input. -/
def spanAllWrong : ChangeSpec := { name := "spanAll", fn := fun _ => fun
  | [d1, d2] => { results := [.lit (.bool false)], args := [d1, d2] }
  | _ => none }
def SpanAllWrongFalsely : Prop := spanAllRow.holds Try.pinned (OpenSpec.ofChange spanAllWrong)

/-- 'potsherdlaw16.SpanTwo': WHATEVER THE INPUT: true; the input reads as it did. -/
def spanTwoSpec : ChangeSpec := { name := "spanTwo", fn := fun _ => fun
  | [d1, d2, d3] => { results := [.lit (.bool true)], args := [d1, d2, d3] }
  | _ => none }
def spanTwoRow : OpenClaim := { program := "ytjpecdlagiohfaa", sum := "16395dabdd8da1c96eef90c82e6d487ad27b9dd45413281ac778b90844d1679b", func := "potsherd/potsherdlaw16.SpanTwo", spec := "spanTwo", apart := false }
def SpanTwoSaid : Prop := spanTwoRow.holds Try.pinned (OpenSpec.ofChange spanTwoSpec)

/-- ITS FALSE NEIGHBOUR: 'it returns false'. Refute it at one input. -/
def spanTwoWrong : ChangeSpec := { name := "spanTwo", fn := fun _ => fun
  | [d1, d2, d3] => { results := [.lit (.bool false)], args := [d1, d2, d3] }
  | _ => none }
def SpanTwoWrongFalsely : Prop := spanTwoRow.holds Try.pinned (OpenSpec.ofChange spanTwoWrong)

/-- 'potsherdlaw6.PlanForms': WHATEVER THE INPUT: true; the input reads as it did. -/
def planFormsSpec : ChangeSpec := { name := "planForms", fn := fun _ => fun
  | [d1, d2] => { results := [.lit (.bool true)], args := [d1, d2] }
  | _ => none }
def planFormsRow : OpenClaim := { program := "ytjpecdlagiohfaa", sum := "16395dabdd8da1c96eef90c82e6d487ad27b9dd45413281ac778b90844d1679b", func := "potsherd/potsherdlaw6.PlanForms", spec := "planForms", apart := false }
def PlanFormsSaid : Prop := planFormsRow.holds Try.pinned (OpenSpec.ofChange planFormsSpec)

/-- ITS FALSE NEIGHBOUR: 'it returns false'. Refute it at one input. -/
def planFormsWrong : ChangeSpec := { name := "planForms", fn := fun _ => fun
  | [d1, d2] => { results := [.lit (.bool false)], args := [d1, d2] }
  | _ => none }
def PlanFormsWrongFalsely : Prop := planFormsRow.holds Try.pinned (OpenSpec.ofChange planFormsWrong)

/-- 'potsherdlaw6.PlanLess': WHATEVER THE INPUT: true; the input reads as it did. -/
def planLessSpec : ChangeSpec := { name := "planLess", fn := fun _ => fun
  | [d1, d2] => { results := [.lit (.bool true)], args := [d1, d2] }
  | _ => none }
def planLessRow : OpenClaim := { program := "ytjpecdlagiohfaa", sum := "16395dabdd8da1c96eef90c82e6d487ad27b9dd45413281ac778b90844d1679b", func := "potsherd/potsherdlaw6.PlanLess", spec := "planLess", apart := false }
def PlanLessSaid : Prop := planLessRow.holds Try.pinned (OpenSpec.ofChange planLessSpec)

/-- ITS FALSE NEIGHBOUR: 'it returns false'. Refute it at one input. -/
def planLessWrong : ChangeSpec := { name := "planLess", fn := fun _ => fun
  | [d1, d2] => { results := [.lit (.bool false)], args := [d1, d2] }
  | _ => none }
def PlanLessWrongFalsely : Prop := planLessRow.holds Try.pinned (OpenSpec.ofChange planLessWrong)

/-- 'potsherdlaw6.PlanStays': WHATEVER THE INPUT: true; the input reads as it did. -/
def planStaysSpec : ChangeSpec := { name := "planStays", fn := fun _ => fun
  | [d1, d2, d3] => { results := [.lit (.bool true)], args := [d1, d2, d3] }
  | _ => none }
def planStaysRow : OpenClaim := { program := "ytjpecdlagiohfaa", sum := "16395dabdd8da1c96eef90c82e6d487ad27b9dd45413281ac778b90844d1679b", func := "potsherd/potsherdlaw6.PlanStays", spec := "planStays", apart := false }
def PlanStaysSaid : Prop := planStaysRow.holds Try.pinned (OpenSpec.ofChange planStaysSpec)

/-- ITS FALSE NEIGHBOUR: 'it returns false'. Refute it at one input. -/
def planStaysWrong : ChangeSpec := { name := "planStays", fn := fun _ => fun
  | [d1, d2, d3] => { results := [.lit (.bool false)], args := [d1, d2, d3] }
  | _ => none }
def PlanStaysWrongFalsely : Prop := planStaysRow.holds Try.pinned (OpenSpec.ofChange planStaysWrong)

/-- 'potsherdlaw6.PlanLeast': WHATEVER THE INPUT: true; the input reads as it did. -/
def planLeastSpec : ChangeSpec := { name := "planLeast", fn := fun _ => fun
  | [d1, d2] => { results := [.lit (.bool true)], args := [d1, d2] }
  | _ => none }
def planLeastRow : OpenClaim := { program := "ytjpecdlagiohfaa", sum := "16395dabdd8da1c96eef90c82e6d487ad27b9dd45413281ac778b90844d1679b", func := "potsherd/potsherdlaw6.PlanLeast", spec := "planLeast", apart := false }
def PlanLeastSaid : Prop := planLeastRow.holds Try.pinned (OpenSpec.ofChange planLeastSpec)

/-- ITS FALSE NEIGHBOUR: 'it returns false'. Refute it at one input. -/
def planLeastWrong : ChangeSpec := { name := "planLeast", fn := fun _ => fun
  | [d1, d2] => { results := [.lit (.bool false)], args := [d1, d2] }
  | _ => none }
def PlanLeastWrongFalsely : Prop := planLeastRow.holds Try.pinned (OpenSpec.ofChange planLeastWrong)

/-- 'potsherdlaw6.PlanFloor': WHATEVER THE INPUT: true; the input reads as it did. -/
def planFloorSpec : ChangeSpec := { name := "planFloor", fn := fun _ => fun
  | [d1, d2] => { results := [.lit (.bool true)], args := [d1, d2] }
  | _ => none }
def planFloorRow : OpenClaim := { program := "ytjpecdlagiohfaa", sum := "16395dabdd8da1c96eef90c82e6d487ad27b9dd45413281ac778b90844d1679b", func := "potsherd/potsherdlaw6.PlanFloor", spec := "planFloor", apart := false }
def PlanFloorSaid : Prop := planFloorRow.holds Try.pinned (OpenSpec.ofChange planFloorSpec)

/-- ITS FALSE NEIGHBOUR: 'it returns false'. Refute it at one input. -/
def planFloorWrong : ChangeSpec := { name := "planFloor", fn := fun _ => fun
  | [d1, d2] => { results := [.lit (.bool false)], args := [d1, d2] }
  | _ => none }
def PlanFloorWrongFalsely : Prop := planFloorRow.holds Try.pinned (OpenSpec.ofChange planFloorWrong)

/- THE SECOND FORM. 'bulk': how many values and letters a reading holds, each counted each time it is reached (what is shared counts as often as it is met; a slice's spare places count too). A statement '..UptoSaid' is the law's where the arguments, and the package variables that the reading takes, are together of bulk at most 1048576: NARROWER than '..Said'. Prove '..Said' where nothing that the law and all that it calls make is longer than what came in: it says more and counts as full. Else prove '..UptoSaid'. A law counts once. -/
mutual
def uptoBulk {H : Type} : DataW H → Nat
  | .lit (.string bytes) => bytes.length + 1
  | .lit _ => 1
  | .nil => 1
  | .ptr d => uptoBulk d + 1
  | .slice elems spare => uptoBulkAll elems + uptoBulkAll spare + 1
  | .agg parts => uptoBulkAll parts + 1
  | .iface _ d => uptoBulk d + 1
  | .map entries => uptoBulkEntries entries + 1
  | .held _ => 1
def uptoBulkAll {H : Type} : List (DataW H) → Nat
  | [] => 0
  | d :: r => uptoBulk d + uptoBulkAll r
def uptoBulkEntries {H : Type} : List (Lit × DataW H) → Nat
  | [] => 0
  | x :: r => uptoBulkEntry x + uptoBulkEntries r
def uptoBulkEntry {H : Type} : Lit × DataW H → Nat
  | (.string bytes, d) => bytes.length + uptoBulk d + 1
  | (_, d) => uptoBulk d + 1
 end
def uptoSmall : (H : Type) → List (DataW H) → Bool := fun _ ds => decide (uptoBulkAll ds ≤ 1048576)
def OpenSpec.upto (s : _root_.Go.ChangeSpec) : _root_.Go.OpenSpec := { _root_.Go.OpenSpec.ofChange s with cond := some uptoSmall }

/-- 'potsherdlaw16.SpanForms', WHERE WHAT IT READS IS OF BULK AT MOST 1048576: true; the input reads as it did. -/
def spanFormsUptoRow : OpenClaim := { program := "ytjpecdlagiohfaa", sum := "16395dabdd8da1c96eef90c82e6d487ad27b9dd45413281ac778b90844d1679b", func := "potsherd/potsherdlaw16.SpanForms", spec := "spanForms", apart := false, narrowed := true }
def SpanFormsUptoSaid : Prop := spanFormsUptoRow.holds Try.pinned (OpenSpec.upto spanFormsSpec)

/-- 'potsherdlaw16.SpanSides', WHERE WHAT IT READS IS OF BULK AT MOST 1048576: true; the input reads as it did. -/
def spanSidesUptoRow : OpenClaim := { program := "ytjpecdlagiohfaa", sum := "16395dabdd8da1c96eef90c82e6d487ad27b9dd45413281ac778b90844d1679b", func := "potsherd/potsherdlaw16.SpanSides", spec := "spanSides", apart := false, narrowed := true }
def SpanSidesUptoSaid : Prop := spanSidesUptoRow.holds Try.pinned (OpenSpec.upto spanSidesSpec)

/-- 'potsherdlaw16.SpanCuts', WHERE WHAT IT READS IS OF BULK AT MOST 1048576: true; the input reads as it did. -/
def spanCutsUptoRow : OpenClaim := { program := "ytjpecdlagiohfaa", sum := "16395dabdd8da1c96eef90c82e6d487ad27b9dd45413281ac778b90844d1679b", func := "potsherd/potsherdlaw16.SpanCuts", spec := "spanCuts", apart := false, narrowed := true }
def SpanCutsUptoSaid : Prop := spanCutsUptoRow.holds Try.pinned (OpenSpec.upto spanCutsSpec)

/-- 'potsherdlaw16.SpanAll', WHERE WHAT IT READS IS OF BULK AT MOST 1048576: true; the input reads as it did. -/
def spanAllUptoRow : OpenClaim := { program := "ytjpecdlagiohfaa", sum := "16395dabdd8da1c96eef90c82e6d487ad27b9dd45413281ac778b90844d1679b", func := "potsherd/potsherdlaw16.SpanAll", spec := "spanAll", apart := false, narrowed := true }
def SpanAllUptoSaid : Prop := spanAllUptoRow.holds Try.pinned (OpenSpec.upto spanAllSpec)

/-- 'potsherdlaw16.SpanTwo', WHERE WHAT IT READS IS OF BULK AT MOST 1048576: true; the input reads as it did. -/
def spanTwoUptoRow : OpenClaim := { program := "ytjpecdlagiohfaa", sum := "16395dabdd8da1c96eef90c82e6d487ad27b9dd45413281ac778b90844d1679b", func := "potsherd/potsherdlaw16.SpanTwo", spec := "spanTwo", apart := false, narrowed := true }
def SpanTwoUptoSaid : Prop := spanTwoUptoRow.holds Try.pinned (OpenSpec.upto spanTwoSpec)

/-- 'potsherdlaw6.PlanForms', WHERE WHAT IT READS IS OF BULK AT MOST 1048576: true; the input reads as it did. -/
def planFormsUptoRow : OpenClaim := { program := "ytjpecdlagiohfaa", sum := "16395dabdd8da1c96eef90c82e6d487ad27b9dd45413281ac778b90844d1679b", func := "potsherd/potsherdlaw6.PlanForms", spec := "planForms", apart := false, narrowed := true }
def PlanFormsUptoSaid : Prop := planFormsUptoRow.holds Try.pinned (OpenSpec.upto planFormsSpec)

/-- 'potsherdlaw6.PlanLess', WHERE WHAT IT READS IS OF BULK AT MOST 1048576: true; the input reads as it did. -/
def planLessUptoRow : OpenClaim := { program := "ytjpecdlagiohfaa", sum := "16395dabdd8da1c96eef90c82e6d487ad27b9dd45413281ac778b90844d1679b", func := "potsherd/potsherdlaw6.PlanLess", spec := "planLess", apart := false, narrowed := true }
def PlanLessUptoSaid : Prop := planLessUptoRow.holds Try.pinned (OpenSpec.upto planLessSpec)

/-- 'potsherdlaw6.PlanStays', WHERE WHAT IT READS IS OF BULK AT MOST 1048576: true; the input reads as it did. -/
def planStaysUptoRow : OpenClaim := { program := "ytjpecdlagiohfaa", sum := "16395dabdd8da1c96eef90c82e6d487ad27b9dd45413281ac778b90844d1679b", func := "potsherd/potsherdlaw6.PlanStays", spec := "planStays", apart := false, narrowed := true }
def PlanStaysUptoSaid : Prop := planStaysUptoRow.holds Try.pinned (OpenSpec.upto planStaysSpec)

/-- 'potsherdlaw6.PlanLeast', WHERE WHAT IT READS IS OF BULK AT MOST 1048576: true; the input reads as it did. -/
def planLeastUptoRow : OpenClaim := { program := "ytjpecdlagiohfaa", sum := "16395dabdd8da1c96eef90c82e6d487ad27b9dd45413281ac778b90844d1679b", func := "potsherd/potsherdlaw6.PlanLeast", spec := "planLeast", apart := false, narrowed := true }
def PlanLeastUptoSaid : Prop := planLeastUptoRow.holds Try.pinned (OpenSpec.upto planLeastSpec)

/-- 'potsherdlaw6.PlanFloor', WHERE WHAT IT READS IS OF BULK AT MOST 1048576: true; the input reads as it did. -/
def planFloorUptoRow : OpenClaim := { program := "ytjpecdlagiohfaa", sum := "16395dabdd8da1c96eef90c82e6d487ad27b9dd45413281ac778b90844d1679b", func := "potsherd/potsherdlaw6.PlanFloor", spec := "planFloor", apart := false, narrowed := true }
def PlanFloorUptoSaid : Prop := planFloorUptoRow.holds Try.pinned (OpenSpec.upto planFloorSpec)

end Rows
end Go.Proofs.Ytjpecdlagiohfaa
