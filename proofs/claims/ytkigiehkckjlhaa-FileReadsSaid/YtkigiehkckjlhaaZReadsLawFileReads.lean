/- The statement FileReads as it is given, out of the law's plain proof and the proved walk; no condition. -/
import Derived.Test.YtkigiehkckjlhaaRows
import Derived.Test.YtkigiehkckjlhaaZReadsReadsWalk
import Derived.Test.YtkigiehkckjlhaaZReadsOpens
import Derived.WalkKit
import Derived.ProofKit
import Derived.OpenShut
import Derived.ShutString
import Derived.ChangeOld
import Derived.Below
import Derived.SizedLaws
import Derived.Carry
namespace Go.Proofs.Ytkigiehkckjlhaa.fileReads
open Go.ChangeShapes Go.WideShapes Go.ChangeAt Go.RowKit Go.Proofs.Ytkigiehkckjlhaa.Opens Go.Proofs.YtkigiehkckjlhaaW.PrintWords
open Go.ChangeMaps (open_string shut_string)
set_option linter.unusedVariables false
theorem own : ownKnob Try.prog.godebug = none := by kernel_rfl
theorem laidOut : laidOutB Try.prog = true := by kernel_rfl
set_option maxRecDepth 100000 in
theorem op_i64 : Opn Try.prog 3 (Kd.int .i64) (fun z => (Lit.int .i64 z).wf = true) := op_int Try.underlying3 (by kernel_rfl)
set_option maxRecDepth 100000 in
theorem op_u8 : Opn Try.prog 5 (Kd.int .u8) (fun z => (Lit.int .u8 z).wf = true) := op_int Try.underlying5 (by kernel_rfl)
set_option maxRecDepth 100000 in
theorem op_bs : Opn Try.prog 50 (Kd.slice 5 (Kd.int .u8)) (fun xs => xs.length * 1 ≤ 140737488351232 ∧ ∀ x ∈ xs, (Lit.int .u8 x).wf = true) := op_slice Try.underlying50 (by kernel_rfl) (by kernel_rfl) op_u8
open Go.Proofs.Ytkigiehkckjlhaa.ReadsWalk
set_option maxRecDepth 100000 in
theorem op_x67 : Opn Try.prog 67 k67 (fun x => (Lit.int .i64 x.f0).wf = true ∧ (Lit.int .i64 x.f1).wf = true ∧ (x.f2.length * 1 ≤ 140737488351232 ∧ ∀ z ∈ x.f2, (Lit.int .u8 z).wf = true)) :=
  op_struct (fun x : S67 => (x.f0, x.f1, x.f2)) (fun p => ⟨p.1, p.2.1, p.2.2⟩) (fun _ => rfl) Try.underlying67 (by kernel_rfl) (opL_cons rfl (op_int Try.underlying3 (by kernel_rfl)) (opL_cons rfl (op_int Try.underlying3 (by kernel_rfl)) (opL_one rfl op_bs)))
set_option maxRecDepth 100000 in
theorem op_st : Opn Try.prog 64 (Kd.slice 67 k67) (fun xs => xs.length * 40 ≤ 140737488351232 ∧ ∀ x ∈ xs, (Lit.int .i64 x.f0).wf = true ∧ (Lit.int .i64 x.f1).wf = true ∧ (x.f2.length * 1 ≤ 140737488351232 ∧ ∀ z ∈ x.f2, (Lit.int .u8 z).wf = true)) := op_slice Try.underlying64 (by kernel_rfl) (by kernel_rfl) op_x67
set_option maxRecDepth 100000 in
theorem lifted (os : Os) (started : os.Started) (H : Type) (enc : TypeId × Value → H) :
    ReturnsInHanded {} Try.checked os 11 .any (Rows.fileReadsSpec.pre6 enc Try.prog Try.f11 Rows.fileReadsRow.domain false) (Rows.fileReadsSpec.post enc Try.prog Try.f11 false true false false) := by
  refine returnsInHanded_of_change_sized (C := Try.checked) own started (by kernel_rfl) Try.func11
    (ChangeSpec.witness6 (enc := enc) (C := Try.checked) false ⟨#[], #[.int .i64 0, .slice none 0 0], []⟩ 8 (by kernel_rfl) (by kernel_rfl) (by kernel_rfl) (by kernel_rfl)) ?_
  intro W base args ds gs before hval0 hW hcnd hsz0 _
  have hsz : (DataW.weightsEach Try.prog (Try.f11.params.toList ++ Rows.fileReadsSpec.plain.varTypes Try.prog) (ds ++ gs)).all (· ≤ reachBytes) = true := hsz0
  have hval : ∀ (j : Nat) t v, Try.f11.params[j]? = some t → args[j]? = some v → Value.okWide Try.prog W .any base t v := hval0
  have hW' := hW
  obtain ⟨p, q, hA0, hV, rfl, hfz, hnd⟩ := hW
  have hA : DataW.TrodAll enc Try.prog W 0 (fun _ => true) true Try.f11.params.toList args.toList ds p := hA0
  have hlt : ∀ x ∈ p, x.block < W.heap.size := hA.lt
  rw [Try.params11] at hA hval hsz
  obtain ⟨v0, vs0, d0, ds0, p0, q0, hargs, rfl, rfl, h0, r0⟩ := trodAll_cons hA
  obtain ⟨v1, vs1, d1, ds1, p1, q1, rfl, rfl, rfl, h1, r1⟩ := trodAll_cons r0
  obtain ⟨rfl, rfl, rfl⟩ := trodAll_nil r1
  obtain rfl : args = #[v0, v1] := by cases args; simp_all
  obtain ⟨rfl, rfl⟩ := trodVars_none hV
  have hlt0 : ∀ x ∈ p0, x.block < W.heap.size := fun x hx => hlt x (by simp [hx])
  have hlt1 : ∀ x ∈ p1, x.block < W.heap.size := fun x hx => hlt x (by simp [hx])
  obtain ⟨y0, hK0, hG0⟩ := Opn.arg op_i64 hsz (j := 0) rfl rfl h0
  obtain ⟨y1, hK1, hG1⟩ := Opn.arg op_st hsz (j := 1) rfl rfl h1
  obtain ⟨cs0, rfl⟩ := okWide_int Try.underlying3 (hval 0 _ _ rfl rfl)
  obtain rfl : y0 = cs0 := by have := hK0; simp [Value.cells, Kd.int, Kd.scalar] at this; exact this.symm
  obtain ⟨A1, n1, c1, rfl⟩ := okWide_slice Try.underlying64 (hval 1 _ _ rfl rfl)
  obtain ⟨A1_, c1_, e1, hc1, hr1⟩ := hK1
  obtain ⟨rfl, rfl, rfl⟩ : A1 = A1_ ∧ n1 = y1.length ∧ c1 = c1_ := by simpa [Value.cells] using e1
  clear hA0 hval0 hsz0 hsz
  refine (ReadsWalk.reads_walk y0 A1 c1 y1 W hr1 hc1 (fun x hx => (hG1.2 x hx).2.1)).mono fun e W' ⟨he, bel⟩ => ?_
  subst he
  have t1 := Below.trod laidOut (by kernel_rfl) (of_decide_eq_true (by kernel_rfl)) h1 bel hlt1
  have t0 := Below.trod laidOut (by kernel_rfl) (of_decide_eq_true (by kernel_rfl)) h0 bel hlt0
  exact ⟨_, rfl, _, _, _, [], _, [], hW', trodAll_mk1 (shut_bool Try.underlying4 _), (trodAll_cons_mk t0 (trodAll_cons_mk t1 trodAll_mk0)), rfl, bel.frame _, fun h => by cases h⟩
theorem over : Rows.fileReadsRow.holds Try.pinned (OpenSpec.ofChange Rows.fileReadsSpec) :=
  OpenClaim.holds_of_wide 11 Try.f11 rfl rfl rfl rfl rfl rfl rfl ⟨rfl, rfl, rfl, rfl, rfl⟩ rfl rfl rfl rfl rfl (by kernel_rfl) Try.func11 (by kernel_rfl)
    (of_decide_eq_true (by kernel_rfl)) (by unfold Func.isWrapper; first | (rw [if_pos (by decide +kernel)]; kernel_rfl) | (rw [if_neg (by decide +kernel)]; exact ⟨rfl, rfl⟩))
    (fun os started H enc _ => lifted os started H enc)
theorem proved : Rows.FileReadsSaid := over
#print axioms proved
end Go.Proofs.Ytkigiehkckjlhaa.fileReads
namespace Go.Proofs.Ytkigiehkckjlhaa
theorem fileReads_holds : Rows.FileReadsSaid := fileReads.proved
end Go.Proofs.Ytkigiehkckjlhaa
