/-
  No cell of these rows narrows 'for every input' (looked for: loops, veiled, ifaces, maps, wideKeys, modest, calm, conditions, laid).
  DERIVED. THE GIVEN ROWS OF THIS SEAT. 9 by the template 'for every input the law returns true; each argument reads behind the call as it read before'; 0 by the template 'total and deterministic' (their statements: YtbaiicnibiogpaaTotals.lean).
  GIVEN WITH THE SEED: the statements are not yours to turn. If you find one false, say at which input.
  Laid BY PROGRAM, IN A SANDBOX (cutbox-rows.mjs): the forced cells as the released guide's own fill.sh prints them over the translation 0f0460c625f8a405… (all of the seat's roots in one cut). By AI agents, Wed Nov 11 2026. No macro, syntax, notation, axiom, sorry.
-/
import Derived.Test.YtbaiicnibiogpaaChecked
import GoSem.Claim
import GoSem.ClaimJoined
import GoSem.ClaimMapViews
import Derived.JoinedTies
import Derived.KernelRfl
namespace Go.Proofs.Ytbaiicnibiogpaa
/- THE CELL 'sum', in the pinned program and in every row, IS THE sha256 OF THE DUMP (.gsa) THAT YtbaiicnibiogpaaProg.lean LOADS. Nothing in Lean hashes anything: it is a label: what it is worth is what the hold of that sum in a sandbox is worth. -/
noncomputable def Try.pinned : Pinned := { name := "ytbaiicnibiogpaa", sum := "0f0460c625f8a405abc595eca58529024ac0dee245626a1b35863c42d4c69621", checked := Try.checked }
namespace Rows
def none {H : Type} : Left H := { results := [], args := [] }

/-- 'potsherdlaw13.NameOrder': WHATEVER THE INPUT: true; the input reads as it did. -/
def nameOrderSpec : ChangeSpec := { name := "nameOrder", fn := fun _ => fun
  | [d1, d2] => { results := [.lit (.bool true)], args := [d1, d2] }
  | _ => none }
def nameOrderRow : OpenClaim := { program := "ytbaiicnibiogpaa", sum := "0f0460c625f8a405abc595eca58529024ac0dee245626a1b35863c42d4c69621", func := "potsherd/potsherdlaw13.NameOrder", spec := "nameOrder", unfollowed := true, recurses := true, apart := false }
def NameOrderSaid : Prop := nameOrderRow.holds Try.pinned (OpenSpec.ofChange nameOrderSpec)

/-- ITS FALSE NEIGHBOUR: 'it returns false'. Refute it at one input. -/
def nameOrderWrong : ChangeSpec := { name := "nameOrder", fn := fun _ => fun
  | [d1, d2] => { results := [.lit (.bool false)], args := [d1, d2] }
  | _ => none }
def NameOrderWrongFalsely : Prop := nameOrderRow.holds Try.pinned (OpenSpec.ofChange nameOrderWrong)

/-- 'potsherdlaw13.NameForms': WHATEVER THE INPUT: true; the input reads as it did. -/
def nameFormsSpec : ChangeSpec := { name := "nameForms", fn := fun _ => fun
  | [d1, d2, d3] => { results := [.lit (.bool true)], args := [d1, d2, d3] }
  | _ => none }
def nameFormsRow : OpenClaim := { program := "ytbaiicnibiogpaa", sum := "0f0460c625f8a405abc595eca58529024ac0dee245626a1b35863c42d4c69621", func := "potsherd/potsherdlaw13.NameForms", spec := "nameForms", unfollowed := true, recurses := true, apart := false }
def NameFormsSaid : Prop := nameFormsRow.holds Try.pinned (OpenSpec.ofChange nameFormsSpec)

/-- ITS FALSE NEIGHBOUR: 'it returns false'. Refute it at one input. -/
def nameFormsWrong : ChangeSpec := { name := "nameForms", fn := fun _ => fun
  | [d1, d2, d3] => { results := [.lit (.bool false)], args := [d1, d2, d3] }
  | _ => none }
def NameFormsWrongFalsely : Prop := nameFormsRow.holds Try.pinned (OpenSpec.ofChange nameFormsWrong)

/-- 'potsherdlaw13.NameBack': WHATEVER THE INPUT: true; the input reads as it did. -/
def nameBackSpec : ChangeSpec := { name := "nameBack", fn := fun _ => fun
  | [d1, d2, d3] => { results := [.lit (.bool true)], args := [d1, d2, d3] }
  | _ => none }
def nameBackRow : OpenClaim := { program := "ytbaiicnibiogpaa", sum := "0f0460c625f8a405abc595eca58529024ac0dee245626a1b35863c42d4c69621", func := "potsherd/potsherdlaw13.NameBack", spec := "nameBack", unfollowed := true, recurses := true, apart := false }
def NameBackSaid : Prop := nameBackRow.holds Try.pinned (OpenSpec.ofChange nameBackSpec)

/-- ITS FALSE NEIGHBOUR: 'it returns false'. Refute it at one input. -/
def nameBackWrong : ChangeSpec := { name := "nameBack", fn := fun _ => fun
  | [d1, d2, d3] => { results := [.lit (.bool false)], args := [d1, d2, d3] }
  | _ => none }
def NameBackWrongFalsely : Prop := nameBackRow.holds Try.pinned (OpenSpec.ofChange nameBackWrong)

/-- 'potsherdlaw13.NameFinds': WHATEVER THE INPUT: true; the input reads as it did. -/
def nameFindsSpec : ChangeSpec := { name := "nameFinds", fn := fun _ => fun
  | [d1, d2] => { results := [.lit (.bool true)], args := [d1, d2] }
  | _ => none }
def nameFindsRow : OpenClaim := { program := "ytbaiicnibiogpaa", sum := "0f0460c625f8a405abc595eca58529024ac0dee245626a1b35863c42d4c69621", func := "potsherd/potsherdlaw13.NameFinds", spec := "nameFinds", unfollowed := true, recurses := true, apart := false }
def NameFindsSaid : Prop := nameFindsRow.holds Try.pinned (OpenSpec.ofChange nameFindsSpec)

/-- ITS FALSE NEIGHBOUR: 'it returns false'. Refute it at one input. -/
def nameFindsWrong : ChangeSpec := { name := "nameFinds", fn := fun _ => fun
  | [d1, d2] => { results := [.lit (.bool false)], args := [d1, d2] }
  | _ => none }
def NameFindsWrongFalsely : Prop := nameFindsRow.holds Try.pinned (OpenSpec.ofChange nameFindsWrong)

/-- 'potsherdlaw14.NodeForms': WHATEVER THE INPUT: true; the input reads as it did. -/
def nodeFormsSpec : ChangeSpec := { name := "nodeForms", fn := fun _ => fun
  | [d1, d2, d3, d4] => { results := [.lit (.bool true)], args := [d1, d2, d3, d4] }
  | _ => none }
def nodeFormsRow : OpenClaim := { program := "ytbaiicnibiogpaa", sum := "0f0460c625f8a405abc595eca58529024ac0dee245626a1b35863c42d4c69621", func := "potsherd/potsherdlaw14.NodeForms", spec := "nodeForms", apart := false }
def NodeFormsSaid : Prop := nodeFormsRow.holds Try.pinned (OpenSpec.ofChange nodeFormsSpec)

/-- ITS FALSE NEIGHBOUR: 'it returns false'. Refute it at one input. -/
def nodeFormsWrong : ChangeSpec := { name := "nodeForms", fn := fun _ => fun
  | [d1, d2, d3, d4] => { results := [.lit (.bool false)], args := [d1, d2, d3, d4] }
  | _ => none }
def NodeFormsWrongFalsely : Prop := nodeFormsRow.holds Try.pinned (OpenSpec.ofChange nodeFormsWrong)

/-- 'potsherdlaw14.NodeCopies': WHATEVER THE INPUT: true; the input reads as it did. -/
def nodeCopiesSpec : ChangeSpec := { name := "nodeCopies", fn := fun _ => fun
  | [d1, d2] => { results := [.lit (.bool true)], args := [d1, d2] }
  | _ => none }
def nodeCopiesRow : OpenClaim := { program := "ytbaiicnibiogpaa", sum := "0f0460c625f8a405abc595eca58529024ac0dee245626a1b35863c42d4c69621", func := "potsherd/potsherdlaw14.NodeCopies", spec := "nodeCopies", apart := false }
def NodeCopiesSaid : Prop := nodeCopiesRow.holds Try.pinned (OpenSpec.ofChange nodeCopiesSpec)

/-- ITS FALSE NEIGHBOUR: 'it returns false'. Refute it at one input. -/
def nodeCopiesWrong : ChangeSpec := { name := "nodeCopies", fn := fun _ => fun
  | [d1, d2] => { results := [.lit (.bool false)], args := [d1, d2] }
  | _ => none }
def NodeCopiesWrongFalsely : Prop := nodeCopiesRow.holds Try.pinned (OpenSpec.ofChange nodeCopiesWrong)

/-- 'potsherdlaw14.NodeEnds': WHATEVER THE INPUT: true; the input reads as it did. -/
def nodeEndsSpec : ChangeSpec := { name := "nodeEnds", fn := fun _ => fun
  | [d1, d2] => { results := [.lit (.bool true)], args := [d1, d2] }
  | _ => none }
def nodeEndsRow : OpenClaim := { program := "ytbaiicnibiogpaa", sum := "0f0460c625f8a405abc595eca58529024ac0dee245626a1b35863c42d4c69621", func := "potsherd/potsherdlaw14.NodeEnds", spec := "nodeEnds", apart := false }
def NodeEndsSaid : Prop := nodeEndsRow.holds Try.pinned (OpenSpec.ofChange nodeEndsSpec)

/-- ITS FALSE NEIGHBOUR: 'it returns false'. Refute it at one input. -/
def nodeEndsWrong : ChangeSpec := { name := "nodeEnds", fn := fun _ => fun
  | [d1, d2] => { results := [.lit (.bool false)], args := [d1, d2] }
  | _ => none }
def NodeEndsWrongFalsely : Prop := nodeEndsRow.holds Try.pinned (OpenSpec.ofChange nodeEndsWrong)

/-- 'potsherdlaw14.NodeBounds': WHATEVER THE INPUT: true; the input reads as it did. -/
def nodeBoundsSpec : ChangeSpec := { name := "nodeBounds", fn := fun _ => fun
  | [d1, d2, d3, d4] => { results := [.lit (.bool true)], args := [d1, d2, d3, d4] }
  | _ => none }
def nodeBoundsRow : OpenClaim := { program := "ytbaiicnibiogpaa", sum := "0f0460c625f8a405abc595eca58529024ac0dee245626a1b35863c42d4c69621", func := "potsherd/potsherdlaw14.NodeBounds", spec := "nodeBounds", apart := false }
def NodeBoundsSaid : Prop := nodeBoundsRow.holds Try.pinned (OpenSpec.ofChange nodeBoundsSpec)

/-- ITS FALSE NEIGHBOUR: 'it returns false'. Refute it at one input. -/
def nodeBoundsWrong : ChangeSpec := { name := "nodeBounds", fn := fun _ => fun
  | [d1, d2, d3, d4] => { results := [.lit (.bool false)], args := [d1, d2, d3, d4] }
  | _ => none }
def NodeBoundsWrongFalsely : Prop := nodeBoundsRow.holds Try.pinned (OpenSpec.ofChange nodeBoundsWrong)

/-- 'potsherdlaw14.NodeRows': WHATEVER THE INPUT: true; the input reads as it did. -/
def nodeRowsSpec : ChangeSpec := { name := "nodeRows", fn := fun _ => fun
  | [d1, d2, d3, d4] => { results := [.lit (.bool true)], args := [d1, d2, d3, d4] }
  | _ => none }
def nodeRowsRow : OpenClaim := { program := "ytbaiicnibiogpaa", sum := "0f0460c625f8a405abc595eca58529024ac0dee245626a1b35863c42d4c69621", func := "potsherd/potsherdlaw14.NodeRows", spec := "nodeRows", apart := false }
def NodeRowsSaid : Prop := nodeRowsRow.holds Try.pinned (OpenSpec.ofChange nodeRowsSpec)

/-- ITS FALSE NEIGHBOUR: 'it returns false'. Refute it at one input. -/
def nodeRowsWrong : ChangeSpec := { name := "nodeRows", fn := fun _ => fun
  | [d1, d2, d3, d4] => { results := [.lit (.bool false)], args := [d1, d2, d3, d4] }
  | _ => none }
def NodeRowsWrongFalsely : Prop := nodeRowsRow.holds Try.pinned (OpenSpec.ofChange nodeRowsWrong)

/- THE SECOND FORM. 'bulk': how many values and letters a reading holds, each counted each time it is reached (what is shared counts as often as it is met; a slice's spare places count too). A statement '..UptoSaid' is the law's where the arguments, and the package variables that the reading takes, are together of bulk at most 1048576: NARROWER than '..Said'. Prove '..Said' where nothing that the law and all that it calls make is longer than what came in: it says more and counts as full. Else prove '..UptoSaid'. A law counts once. -/
mutual
def uptoBulk {H : Type} : DataW H → Nat
  | .lit (.string bytes) => bytes.length + 1
  | .lit _ => 1
  | .nil => 1
  | .ptr d => uptoBulk d + 1
  | .slice elems spare => uptoBulkAll elems + uptoBulkAll spare + 1
  | .agg parts => uptoBulkAll parts + 1
  | .iface _ d => uptoBulk d + 1
  | .map entries => uptoBulkEntries entries + 1
  | .held _ => 1
def uptoBulkAll {H : Type} : List (DataW H) → Nat
  | [] => 0
  | d :: r => uptoBulk d + uptoBulkAll r
def uptoBulkEntries {H : Type} : List (Lit × DataW H) → Nat
  | [] => 0
  | x :: r => uptoBulkEntry x + uptoBulkEntries r
def uptoBulkEntry {H : Type} : Lit × DataW H → Nat
  | (.string bytes, d) => bytes.length + uptoBulk d + 1
  | (_, d) => uptoBulk d + 1
 end
def uptoSmall : (H : Type) → List (DataW H) → Bool := fun _ ds => decide (uptoBulkAll ds ≤ 1048576)
def OpenSpec.upto (s : _root_.Go.ChangeSpec) : _root_.Go.OpenSpec := { _root_.Go.OpenSpec.ofChange s with cond := some uptoSmall }

/-- 'potsherdlaw13.NameOrder', WHERE WHAT IT READS IS OF BULK AT MOST 1048576: true; the input reads as it did. -/
def nameOrderUptoRow : OpenClaim := { program := "ytbaiicnibiogpaa", sum := "0f0460c625f8a405abc595eca58529024ac0dee245626a1b35863c42d4c69621", func := "potsherd/potsherdlaw13.NameOrder", spec := "nameOrder", unfollowed := true, recurses := true, apart := false, narrowed := true }
def NameOrderUptoSaid : Prop := nameOrderUptoRow.holds Try.pinned (OpenSpec.upto nameOrderSpec)

/-- 'potsherdlaw13.NameForms', WHERE WHAT IT READS IS OF BULK AT MOST 1048576: true; the input reads as it did. -/
def nameFormsUptoRow : OpenClaim := { program := "ytbaiicnibiogpaa", sum := "0f0460c625f8a405abc595eca58529024ac0dee245626a1b35863c42d4c69621", func := "potsherd/potsherdlaw13.NameForms", spec := "nameForms", unfollowed := true, recurses := true, apart := false, narrowed := true }
def NameFormsUptoSaid : Prop := nameFormsUptoRow.holds Try.pinned (OpenSpec.upto nameFormsSpec)

/-- 'potsherdlaw13.NameBack', WHERE WHAT IT READS IS OF BULK AT MOST 1048576: true; the input reads as it did. -/
def nameBackUptoRow : OpenClaim := { program := "ytbaiicnibiogpaa", sum := "0f0460c625f8a405abc595eca58529024ac0dee245626a1b35863c42d4c69621", func := "potsherd/potsherdlaw13.NameBack", spec := "nameBack", unfollowed := true, recurses := true, apart := false, narrowed := true }
def NameBackUptoSaid : Prop := nameBackUptoRow.holds Try.pinned (OpenSpec.upto nameBackSpec)

/-- 'potsherdlaw13.NameFinds', WHERE WHAT IT READS IS OF BULK AT MOST 1048576: true; the input reads as it did. -/
def nameFindsUptoRow : OpenClaim := { program := "ytbaiicnibiogpaa", sum := "0f0460c625f8a405abc595eca58529024ac0dee245626a1b35863c42d4c69621", func := "potsherd/potsherdlaw13.NameFinds", spec := "nameFinds", unfollowed := true, recurses := true, apart := false, narrowed := true }
def NameFindsUptoSaid : Prop := nameFindsUptoRow.holds Try.pinned (OpenSpec.upto nameFindsSpec)

/-- 'potsherdlaw14.NodeForms', WHERE WHAT IT READS IS OF BULK AT MOST 1048576: true; the input reads as it did. -/
def nodeFormsUptoRow : OpenClaim := { program := "ytbaiicnibiogpaa", sum := "0f0460c625f8a405abc595eca58529024ac0dee245626a1b35863c42d4c69621", func := "potsherd/potsherdlaw14.NodeForms", spec := "nodeForms", apart := false, narrowed := true }
def NodeFormsUptoSaid : Prop := nodeFormsUptoRow.holds Try.pinned (OpenSpec.upto nodeFormsSpec)

/-- 'potsherdlaw14.NodeCopies', WHERE WHAT IT READS IS OF BULK AT MOST 1048576: true; the input reads as it did. -/
def nodeCopiesUptoRow : OpenClaim := { program := "ytbaiicnibiogpaa", sum := "0f0460c625f8a405abc595eca58529024ac0dee245626a1b35863c42d4c69621", func := "potsherd/potsherdlaw14.NodeCopies", spec := "nodeCopies", apart := false, narrowed := true }
def NodeCopiesUptoSaid : Prop := nodeCopiesUptoRow.holds Try.pinned (OpenSpec.upto nodeCopiesSpec)

/-- 'potsherdlaw14.NodeEnds', WHERE WHAT IT READS IS OF BULK AT MOST 1048576: true; the input reads as it did. -/
def nodeEndsUptoRow : OpenClaim := { program := "ytbaiicnibiogpaa", sum := "0f0460c625f8a405abc595eca58529024ac0dee245626a1b35863c42d4c69621", func := "potsherd/potsherdlaw14.NodeEnds", spec := "nodeEnds", apart := false, narrowed := true }
def NodeEndsUptoSaid : Prop := nodeEndsUptoRow.holds Try.pinned (OpenSpec.upto nodeEndsSpec)

/-- 'potsherdlaw14.NodeBounds', WHERE WHAT IT READS IS OF BULK AT MOST 1048576: true; the input reads as it did. -/
def nodeBoundsUptoRow : OpenClaim := { program := "ytbaiicnibiogpaa", sum := "0f0460c625f8a405abc595eca58529024ac0dee245626a1b35863c42d4c69621", func := "potsherd/potsherdlaw14.NodeBounds", spec := "nodeBounds", apart := false, narrowed := true }
def NodeBoundsUptoSaid : Prop := nodeBoundsUptoRow.holds Try.pinned (OpenSpec.upto nodeBoundsSpec)

/-- 'potsherdlaw14.NodeRows', WHERE WHAT IT READS IS OF BULK AT MOST 1048576: true; the input reads as it did. -/
def nodeRowsUptoRow : OpenClaim := { program := "ytbaiicnibiogpaa", sum := "0f0460c625f8a405abc595eca58529024ac0dee245626a1b35863c42d4c69621", func := "potsherd/potsherdlaw14.NodeRows", spec := "nodeRows", apart := false, narrowed := true }
def NodeRowsUptoSaid : Prop := nodeRowsUptoRow.holds Try.pinned (OpenSpec.upto nodeRowsSpec)

end Rows
end Go.Proofs.Ytbaiicnibiogpaa
