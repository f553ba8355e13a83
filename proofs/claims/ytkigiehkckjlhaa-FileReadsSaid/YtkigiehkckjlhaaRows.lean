/-
  No cell of these rows narrows 'for every input' (looked for: loops, veiled, ifaces, maps, wideKeys, modest, calm, conditions, laid).
  DERIVED. THE GIVEN ROWS OF THIS SEAT. 10 by the template 'for every input the law returns true; each argument reads behind the call as it read before'; 0 by the template 'total and deterministic' (their statements: YtkigiehkckjlhaaTotals.lean).
  GIVEN WITH THE SEED: the statements are not yours to turn. If you find one false, say at which input.
  Laid BY PROGRAM, IN A SANDBOX (cutbox-rows.mjs): the forced cells as the released guide's own fill.sh prints them over the translation 8dc0a02a8f56d68a… (all of the seat's roots in one cut). By AI agents, Wed Nov 11 2026. No macro, syntax, notation, axiom, sorry.
-/
import Derived.Test.YtkigiehkckjlhaaChecked
import GoSem.Claim
import GoSem.ClaimJoined
import GoSem.ClaimMapViews
import Derived.JoinedTies
import Derived.KernelRfl
namespace Go.Proofs.Ytkigiehkckjlhaa
/- THE CELL 'sum', in the pinned program and in every row, IS THE sha256 OF THE DUMP (.gsa) THAT YtkigiehkckjlhaaProg.lean LOADS. Nothing in Lean hashes anything: it is a label: what it is worth is what the hold of that sum in a sandbox is worth. -/
noncomputable def Try.pinned : Pinned := { name := "ytkigiehkckjlhaa", sum := "8dc0a02a8f56d68a9f59c752c9490ca7479aa7812a38016e7305f0c80e0efaff", checked := Try.checked }
namespace Rows
def none {H : Type} : Left H := { results := [], args := [] }

/-- 'potsherdlaw18.QuotaForms': WHATEVER THE INPUT: true; the input reads as it did. -/
def quotaFormsSpec : ChangeSpec := { name := "quotaForms", fn := fun _ => fun
  | [d1, d2, d3, d4, d5] => { results := [.lit (.bool true)], args := [d1, d2, d3, d4, d5] }
  | _ => none }
def quotaFormsRow : OpenClaim := { program := "ytkigiehkckjlhaa", sum := "8dc0a02a8f56d68a9f59c752c9490ca7479aa7812a38016e7305f0c80e0efaff", func := "potsherd/potsherdlaw18.QuotaForms", spec := "quotaForms", unfollowed := true, recurses := true, apart := false }
def QuotaFormsSaid : Prop := quotaFormsRow.holds Try.pinned (OpenSpec.ofChange quotaFormsSpec)

/-- ITS FALSE NEIGHBOUR: 'it returns false'. Refute it at one input. -/
def quotaFormsWrong : ChangeSpec := { name := "quotaForms", fn := fun _ => fun
  | [d1, d2, d3, d4, d5] => { results := [.lit (.bool false)], args := [d1, d2, d3, d4, d5] }
  | _ => none }
def QuotaFormsWrongFalsely : Prop := quotaFormsRow.holds Try.pinned (OpenSpec.ofChange quotaFormsWrong)

/-- 'potsherdlaw18.QuotaOnce': WHATEVER THE INPUT: true; the input reads as it did. -/
def quotaOnceSpec : ChangeSpec := { name := "quotaOnce", fn := fun _ => fun
  | [d1, d2, d3] => { results := [.lit (.bool true)], args := [d1, d2, d3] }
  | _ => none }
def quotaOnceRow : OpenClaim := { program := "ytkigiehkckjlhaa", sum := "8dc0a02a8f56d68a9f59c752c9490ca7479aa7812a38016e7305f0c80e0efaff", func := "potsherd/potsherdlaw18.QuotaOnce", spec := "quotaOnce", unfollowed := true, recurses := true, apart := false }
def QuotaOnceSaid : Prop := quotaOnceRow.holds Try.pinned (OpenSpec.ofChange quotaOnceSpec)

/-- ITS FALSE NEIGHBOUR: 'it returns false'. Refute it at one input. -/
def quotaOnceWrong : ChangeSpec := { name := "quotaOnce", fn := fun _ => fun
  | [d1, d2, d3] => { results := [.lit (.bool false)], args := [d1, d2, d3] }
  | _ => none }
def QuotaOnceWrongFalsely : Prop := quotaOnceRow.holds Try.pinned (OpenSpec.ofChange quotaOnceWrong)

/-- 'potsherdlaw18.QuotaSums': WHATEVER THE INPUT: true; the input reads as it did. -/
def quotaSumsSpec : ChangeSpec := { name := "quotaSums", fn := fun _ => fun
  | [d1, d2, d3] => { results := [.lit (.bool true)], args := [d1, d2, d3] }
  | _ => none }
def quotaSumsRow : OpenClaim := { program := "ytkigiehkckjlhaa", sum := "8dc0a02a8f56d68a9f59c752c9490ca7479aa7812a38016e7305f0c80e0efaff", func := "potsherd/potsherdlaw18.QuotaSums", spec := "quotaSums", unfollowed := true, recurses := true, apart := false }
def QuotaSumsSaid : Prop := quotaSumsRow.holds Try.pinned (OpenSpec.ofChange quotaSumsSpec)

/-- ITS FALSE NEIGHBOUR: 'it returns false'. Refute it at one input. -/
def quotaSumsWrong : ChangeSpec := { name := "quotaSums", fn := fun _ => fun
  | [d1, d2, d3] => { results := [.lit (.bool false)], args := [d1, d2, d3] }
  | _ => none }
def QuotaSumsWrongFalsely : Prop := quotaSumsRow.holds Try.pinned (OpenSpec.ofChange quotaSumsWrong)

/-- 'potsherdlaw18.QuotaParts': WHATEVER THE INPUT: true; the input reads as it did. -/
def quotaPartsSpec : ChangeSpec := { name := "quotaParts", fn := fun _ => fun
  | [d1, d2, d3, d4] => { results := [.lit (.bool true)], args := [d1, d2, d3, d4] }
  | _ => none }
def quotaPartsRow : OpenClaim := { program := "ytkigiehkckjlhaa", sum := "8dc0a02a8f56d68a9f59c752c9490ca7479aa7812a38016e7305f0c80e0efaff", func := "potsherd/potsherdlaw18.QuotaParts", spec := "quotaParts", unfollowed := true, recurses := true, apart := false }
def QuotaPartsSaid : Prop := quotaPartsRow.holds Try.pinned (OpenSpec.ofChange quotaPartsSpec)

/-- ITS FALSE NEIGHBOUR: 'it returns false'. Refute it at one input. -/
def quotaPartsWrong : ChangeSpec := { name := "quotaParts", fn := fun _ => fun
  | [d1, d2, d3, d4] => { results := [.lit (.bool false)], args := [d1, d2, d3, d4] }
  | _ => none }
def QuotaPartsWrongFalsely : Prop := quotaPartsRow.holds Try.pinned (OpenSpec.ofChange quotaPartsWrong)

/-- 'potsherdlaw18.QuotaLess': WHATEVER THE INPUT: true; the input reads as it did. -/
def quotaLessSpec : ChangeSpec := { name := "quotaLess", fn := fun _ => fun
  | [d1, d2] => { results := [.lit (.bool true)], args := [d1, d2] }
  | _ => none }
def quotaLessRow : OpenClaim := { program := "ytkigiehkckjlhaa", sum := "8dc0a02a8f56d68a9f59c752c9490ca7479aa7812a38016e7305f0c80e0efaff", func := "potsherd/potsherdlaw18.QuotaLess", spec := "quotaLess", unfollowed := true, recurses := true, apart := false }
def QuotaLessSaid : Prop := quotaLessRow.holds Try.pinned (OpenSpec.ofChange quotaLessSpec)

/-- ITS FALSE NEIGHBOUR: 'it returns false'. Refute it at one input. -/
def quotaLessWrong : ChangeSpec := { name := "quotaLess", fn := fun _ => fun
  | [d1, d2] => { results := [.lit (.bool false)], args := [d1, d2] }
  | _ => none }
def QuotaLessWrongFalsely : Prop := quotaLessRow.holds Try.pinned (OpenSpec.ofChange quotaLessWrong)

/-- 'potsherdlaw20.FileSpace': WHATEVER THE INPUT: true; the input reads as it did. -/
def fileSpaceSpec : ChangeSpec := { name := "fileSpace", fn := fun _ => fun
  | [d1, d2, d3, d4] => { results := [.lit (.bool true)], args := [d1, d2, d3, d4] }
  | _ => none }
def fileSpaceRow : OpenClaim := { program := "ytkigiehkckjlhaa", sum := "8dc0a02a8f56d68a9f59c752c9490ca7479aa7812a38016e7305f0c80e0efaff", func := "potsherd/potsherdlaw20.FileSpace", spec := "fileSpace", unfollowed := true, recurses := true, apart := false }
def FileSpaceSaid : Prop := fileSpaceRow.holds Try.pinned (OpenSpec.ofChange fileSpaceSpec)

/-- ITS FALSE NEIGHBOUR: 'it returns false'. Refute it at one input. -/
def fileSpaceWrong : ChangeSpec := { name := "fileSpace", fn := fun _ => fun
  | [d1, d2, d3, d4] => { results := [.lit (.bool false)], args := [d1, d2, d3, d4] }
  | _ => none }
def FileSpaceWrongFalsely : Prop := fileSpaceRow.holds Try.pinned (OpenSpec.ofChange fileSpaceWrong)

/-- 'potsherdlaw20.FileMakes': WHATEVER THE INPUT: true; the input reads as it did. -/
def fileMakesSpec : ChangeSpec := { name := "fileMakes", fn := fun _ => fun
  | [d1, d2] => { results := [.lit (.bool true)], args := [d1, d2] }
  | _ => none }
def fileMakesRow : OpenClaim := { program := "ytkigiehkckjlhaa", sum := "8dc0a02a8f56d68a9f59c752c9490ca7479aa7812a38016e7305f0c80e0efaff", func := "potsherd/potsherdlaw20.FileMakes", spec := "fileMakes", unfollowed := true, recurses := true, apart := false }
def FileMakesSaid : Prop := fileMakesRow.holds Try.pinned (OpenSpec.ofChange fileMakesSpec)

/-- ITS FALSE NEIGHBOUR: 'it returns false'. Refute it at one input. -/
def fileMakesWrong : ChangeSpec := { name := "fileMakes", fn := fun _ => fun
  | [d1, d2] => { results := [.lit (.bool false)], args := [d1, d2] }
  | _ => none }
def FileMakesWrongFalsely : Prop := fileMakesRow.holds Try.pinned (OpenSpec.ofChange fileMakesWrong)

/-- 'potsherdlaw20.FileDone': WHATEVER THE INPUT: true; the input reads as it did. -/
def fileDoneSpec : ChangeSpec := { name := "fileDone", fn := fun _ => fun
  | [d1, d2, d3, d4] => { results := [.lit (.bool true)], args := [d1, d2, d3, d4] }
  | _ => none }
def fileDoneRow : OpenClaim := { program := "ytkigiehkckjlhaa", sum := "8dc0a02a8f56d68a9f59c752c9490ca7479aa7812a38016e7305f0c80e0efaff", func := "potsherd/potsherdlaw20.FileDone", spec := "fileDone", unfollowed := true, recurses := true, apart := false }
def FileDoneSaid : Prop := fileDoneRow.holds Try.pinned (OpenSpec.ofChange fileDoneSpec)

/-- ITS FALSE NEIGHBOUR: 'it returns false'. Refute it at one input. -/
def fileDoneWrong : ChangeSpec := { name := "fileDone", fn := fun _ => fun
  | [d1, d2, d3, d4] => { results := [.lit (.bool false)], args := [d1, d2, d3, d4] }
  | _ => none }
def FileDoneWrongFalsely : Prop := fileDoneRow.holds Try.pinned (OpenSpec.ofChange fileDoneWrong)

/-- 'potsherdlaw20.FileReads': WHATEVER THE INPUT: true; the input reads as it did. -/
def fileReadsSpec : ChangeSpec := { name := "fileReads", fn := fun _ => fun
  | [d1, d2] => { results := [.lit (.bool true)], args := [d1, d2] }
  | _ => none }
def fileReadsRow : OpenClaim := { program := "ytkigiehkckjlhaa", sum := "8dc0a02a8f56d68a9f59c752c9490ca7479aa7812a38016e7305f0c80e0efaff", func := "potsherd/potsherdlaw20.FileReads", spec := "fileReads", unfollowed := true, recurses := true, apart := false }
def FileReadsSaid : Prop := fileReadsRow.holds Try.pinned (OpenSpec.ofChange fileReadsSpec)

/-- ITS FALSE NEIGHBOUR: 'it returns false'. Refute it at one input. -/
def fileReadsWrong : ChangeSpec := { name := "fileReads", fn := fun _ => fun
  | [d1, d2] => { results := [.lit (.bool false)], args := [d1, d2] }
  | _ => none }
def FileReadsWrongFalsely : Prop := fileReadsRow.holds Try.pinned (OpenSpec.ofChange fileReadsWrong)

/-- 'potsherdlaw20.FileGrows': WHATEVER THE INPUT: true; the input reads as it did. -/
def fileGrowsSpec : ChangeSpec := { name := "fileGrows", fn := fun _ => fun
  | [d1, d2, d3, d4, d5] => { results := [.lit (.bool true)], args := [d1, d2, d3, d4, d5] }
  | _ => none }
def fileGrowsRow : OpenClaim := { program := "ytkigiehkckjlhaa", sum := "8dc0a02a8f56d68a9f59c752c9490ca7479aa7812a38016e7305f0c80e0efaff", func := "potsherd/potsherdlaw20.FileGrows", spec := "fileGrows", unfollowed := true, recurses := true, apart := false }
def FileGrowsSaid : Prop := fileGrowsRow.holds Try.pinned (OpenSpec.ofChange fileGrowsSpec)

/-- ITS FALSE NEIGHBOUR: 'it returns false'. Refute it at one input. -/
def fileGrowsWrong : ChangeSpec := { name := "fileGrows", fn := fun _ => fun
  | [d1, d2, d3, d4, d5] => { results := [.lit (.bool false)], args := [d1, d2, d3, d4, d5] }
  | _ => none }
def FileGrowsWrongFalsely : Prop := fileGrowsRow.holds Try.pinned (OpenSpec.ofChange fileGrowsWrong)

/- THE SECOND FORM. 'bulk': how many values and letters a reading holds, each counted each time it is reached (what is shared counts as often as it is met; a slice's spare places count too). A statement '..UptoSaid' is the law's where the arguments, and the package variables that the reading takes, are together of bulk at most 1048576: NARROWER than '..Said'. Prove '..Said' where nothing that the law and all that it calls make is longer than what came in: it says more and counts as full. Else prove '..UptoSaid'. A law counts once. -/
mutual
def uptoBulk {H : Type} : DataW H → Nat
  | .lit (.string bytes) => bytes.length + 1
  | .lit _ => 1
  | .nil => 1
  | .ptr d => uptoBulk d + 1
  | .slice elems spare => uptoBulkAll elems + uptoBulkAll spare + 1
  | .agg parts => uptoBulkAll parts + 1
  | .iface _ d => uptoBulk d + 1
  | .map entries => uptoBulkEntries entries + 1
  | .held _ => 1
def uptoBulkAll {H : Type} : List (DataW H) → Nat
  | [] => 0
  | d :: r => uptoBulk d + uptoBulkAll r
def uptoBulkEntries {H : Type} : List (Lit × DataW H) → Nat
  | [] => 0
  | x :: r => uptoBulkEntry x + uptoBulkEntries r
def uptoBulkEntry {H : Type} : Lit × DataW H → Nat
  | (.string bytes, d) => bytes.length + uptoBulk d + 1
  | (_, d) => uptoBulk d + 1
 end
def uptoSmall : (H : Type) → List (DataW H) → Bool := fun _ ds => decide (uptoBulkAll ds ≤ 1048576)
def OpenSpec.upto (s : _root_.Go.ChangeSpec) : _root_.Go.OpenSpec := { _root_.Go.OpenSpec.ofChange s with cond := some uptoSmall }

/-- 'potsherdlaw18.QuotaForms', WHERE WHAT IT READS IS OF BULK AT MOST 1048576: true; the input reads as it did. -/
def quotaFormsUptoRow : OpenClaim := { program := "ytkigiehkckjlhaa", sum := "8dc0a02a8f56d68a9f59c752c9490ca7479aa7812a38016e7305f0c80e0efaff", func := "potsherd/potsherdlaw18.QuotaForms", spec := "quotaForms", unfollowed := true, recurses := true, apart := false, narrowed := true }
def QuotaFormsUptoSaid : Prop := quotaFormsUptoRow.holds Try.pinned (OpenSpec.upto quotaFormsSpec)

/-- 'potsherdlaw18.QuotaOnce', WHERE WHAT IT READS IS OF BULK AT MOST 1048576: true; the input reads as it did. -/
def quotaOnceUptoRow : OpenClaim := { program := "ytkigiehkckjlhaa", sum := "8dc0a02a8f56d68a9f59c752c9490ca7479aa7812a38016e7305f0c80e0efaff", func := "potsherd/potsherdlaw18.QuotaOnce", spec := "quotaOnce", unfollowed := true, recurses := true, apart := false, narrowed := true }
def QuotaOnceUptoSaid : Prop := quotaOnceUptoRow.holds Try.pinned (OpenSpec.upto quotaOnceSpec)

/-- 'potsherdlaw18.QuotaSums', WHERE WHAT IT READS IS OF BULK AT MOST 1048576: true; the input reads as it did. -/
def quotaSumsUptoRow : OpenClaim := { program := "ytkigiehkckjlhaa", sum := "8dc0a02a8f56d68a9f59c752c9490ca7479aa7812a38016e7305f0c80e0efaff", func := "potsherd/potsherdlaw18.QuotaSums", spec := "quotaSums", unfollowed := true, recurses := true, apart := false, narrowed := true }
def QuotaSumsUptoSaid : Prop := quotaSumsUptoRow.holds Try.pinned (OpenSpec.upto quotaSumsSpec)

/-- 'potsherdlaw18.QuotaParts', WHERE WHAT IT READS IS OF BULK AT MOST 1048576: true; the input reads as it did. -/
def quotaPartsUptoRow : OpenClaim := { program := "ytkigiehkckjlhaa", sum := "8dc0a02a8f56d68a9f59c752c9490ca7479aa7812a38016e7305f0c80e0efaff", func := "potsherd/potsherdlaw18.QuotaParts", spec := "quotaParts", unfollowed := true, recurses := true, apart := false, narrowed := true }
def QuotaPartsUptoSaid : Prop := quotaPartsUptoRow.holds Try.pinned (OpenSpec.upto quotaPartsSpec)

/-- 'potsherdlaw18.QuotaLess', WHERE WHAT IT READS IS OF BULK AT MOST 1048576: true; the input reads as it did. -/
def quotaLessUptoRow : OpenClaim := { program := "ytkigiehkckjlhaa", sum := "8dc0a02a8f56d68a9f59c752c9490ca7479aa7812a38016e7305f0c80e0efaff", func := "potsherd/potsherdlaw18.QuotaLess", spec := "quotaLess", unfollowed := true, recurses := true, apart := false, narrowed := true }
def QuotaLessUptoSaid : Prop := quotaLessUptoRow.holds Try.pinned (OpenSpec.upto quotaLessSpec)

/-- 'potsherdlaw20.FileSpace', WHERE WHAT IT READS IS OF BULK AT MOST 1048576: true; the input reads as it did. -/
def fileSpaceUptoRow : OpenClaim := { program := "ytkigiehkckjlhaa", sum := "8dc0a02a8f56d68a9f59c752c9490ca7479aa7812a38016e7305f0c80e0efaff", func := "potsherd/potsherdlaw20.FileSpace", spec := "fileSpace", unfollowed := true, recurses := true, apart := false, narrowed := true }
def FileSpaceUptoSaid : Prop := fileSpaceUptoRow.holds Try.pinned (OpenSpec.upto fileSpaceSpec)

/-- 'potsherdlaw20.FileMakes', WHERE WHAT IT READS IS OF BULK AT MOST 1048576: true; the input reads as it did. -/
def fileMakesUptoRow : OpenClaim := { program := "ytkigiehkckjlhaa", sum := "8dc0a02a8f56d68a9f59c752c9490ca7479aa7812a38016e7305f0c80e0efaff", func := "potsherd/potsherdlaw20.FileMakes", spec := "fileMakes", unfollowed := true, recurses := true, apart := false, narrowed := true }
def FileMakesUptoSaid : Prop := fileMakesUptoRow.holds Try.pinned (OpenSpec.upto fileMakesSpec)

/-- 'potsherdlaw20.FileDone', WHERE WHAT IT READS IS OF BULK AT MOST 1048576: true; the input reads as it did. -/
def fileDoneUptoRow : OpenClaim := { program := "ytkigiehkckjlhaa", sum := "8dc0a02a8f56d68a9f59c752c9490ca7479aa7812a38016e7305f0c80e0efaff", func := "potsherd/potsherdlaw20.FileDone", spec := "fileDone", unfollowed := true, recurses := true, apart := false, narrowed := true }
def FileDoneUptoSaid : Prop := fileDoneUptoRow.holds Try.pinned (OpenSpec.upto fileDoneSpec)

/-- 'potsherdlaw20.FileReads', WHERE WHAT IT READS IS OF BULK AT MOST 1048576: true; the input reads as it did. -/
def fileReadsUptoRow : OpenClaim := { program := "ytkigiehkckjlhaa", sum := "8dc0a02a8f56d68a9f59c752c9490ca7479aa7812a38016e7305f0c80e0efaff", func := "potsherd/potsherdlaw20.FileReads", spec := "fileReads", unfollowed := true, recurses := true, apart := false, narrowed := true }
def FileReadsUptoSaid : Prop := fileReadsUptoRow.holds Try.pinned (OpenSpec.upto fileReadsSpec)

/-- 'potsherdlaw20.FileGrows', WHERE WHAT IT READS IS OF BULK AT MOST 1048576: true; the input reads as it did. -/
def fileGrowsUptoRow : OpenClaim := { program := "ytkigiehkckjlhaa", sum := "8dc0a02a8f56d68a9f59c752c9490ca7479aa7812a38016e7305f0c80e0efaff", func := "potsherd/potsherdlaw20.FileGrows", spec := "fileGrows", unfollowed := true, recurses := true, apart := false, narrowed := true }
def FileGrowsUptoSaid : Prop := fileGrowsUptoRow.holds Try.pinned (OpenSpec.upto fileGrowsSpec)

end Rows
end Go.Proofs.Ytkigiehkckjlhaa
