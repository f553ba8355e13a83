/- The statement FileMakes as it is given, out of the law's plain proof and the proved walk; no condition. -/
import Derived.Test.YtkigiehkckjlhaaRows
import Derived.Test.YtkigiehkckjlhaaZMakesPMakesx26
import Derived.Test.YtkigiehkckjlhaaZMakesPureFileMakes
import Derived.Test.YtkigiehkckjlhaaZMakesOpens
import Derived.WalkKit
import Derived.ProofKit
import Derived.OpenShut
import Derived.ShutString
import Derived.ChangeOld
import Derived.Below
import Derived.SizedLaws
import Derived.Carry
namespace Go.Proofs.Ytkigiehkckjlhaa.fileMakes
open Go.ChangeShapes Go.WideShapes Go.ChangeAt Go.RowKit Go.Proofs.Ytkigiehkckjlhaa.Opens Go.Proofs.YtkigiehkckjlhaaW.PrintWords
open Go.ChangeMaps (open_string shut_string)
set_option linter.unusedVariables false
theorem own : ownKnob Try.prog.godebug = none := by kernel_rfl
theorem laidOut : laidOutB Try.prog = true := by kernel_rfl
set_option maxRecDepth 100000 in
theorem op_i64 : Opn Try.prog 3 (Kd.int .i64) (fun z => (Lit.int .i64 z).wf = true) := op_int Try.underlying3 (by kernel_rfl)
set_option maxRecDepth 100000 in
theorem op_u8 : Opn Try.prog 5 (Kd.int .u8) (fun z => (Lit.int .u8 z).wf = true) := op_int Try.underlying5 (by kernel_rfl)
set_option maxRecDepth 100000 in
theorem op_bs : Opn Try.prog 50 (Kd.slice 5 (Kd.int .u8)) (fun xs => xs.length * 1 ≤ 140737488351232 ∧ ∀ x ∈ xs, (Lit.int .u8 x).wf = true) := op_slice Try.underlying50 (by kernel_rfl) (by kernel_rfl) op_u8
set_option maxRecDepth 100000 in
theorem op_todo : Opn Try.prog 60 (Kd.iso (Kd.pair (Kd.int .i64) (Kd.pair (Kd.int .i64) (Kd.pair (Kd.int .i64) (Kd.pair (Kd.int .i64) (Kd.pair (Kd.int .i64) (Kd.slice 5 (Kd.int .u8))))))) (fun x : Int × Int × Int × Int × Int × List Int => x)) (fun x => (Lit.int .i64 x.1).wf = true ∧ (Lit.int .i64 x.2.1).wf = true ∧ (Lit.int .i64 x.2.2.1).wf = true ∧ (Lit.int .i64 x.2.2.2.1).wf = true ∧ (Lit.int .i64 x.2.2.2.2.1).wf = true ∧ (x.2.2.2.2.2.length * 1 ≤ 140737488351232 ∧ ∀ z ∈ x.2.2.2.2.2, (fun z => (Lit.int .u8 z).wf = true) z)) :=
  op_struct (fun x => x) (fun x => x) (fun _ => rfl) Try.underlying60 (by kernel_rfl) (opL_cons rfl (op_int Try.underlying3 (by kernel_rfl)) (opL_cons rfl (op_int Try.underlying3 (by kernel_rfl)) (opL_cons rfl (op_int Try.underlying3 (by kernel_rfl)) (opL_cons rfl (op_int Try.underlying3 (by kernel_rfl)) (opL_cons rfl (op_int Try.underlying3 (by kernel_rfl)) (opL_one rfl (op_slice Try.underlying50 (by kernel_rfl) (by kernel_rfl) op_u8)))))))
set_option maxRecDepth 100000 in
theorem lifted (os : Os) (started : os.Started) (H : Type) (enc : TypeId × Value → H) :
    ReturnsInHanded {} Try.checked os 9 .any (Rows.fileMakesSpec.pre6 enc Try.prog Try.f9 Rows.fileMakesRow.domain false) (Rows.fileMakesSpec.post enc Try.prog Try.f9 false true false false) := by
  refine returnsInHanded_of_change_sized (C := Try.checked) own started (by kernel_rfl) Try.func9
    (ChangeSpec.witness6 (enc := enc) (C := Try.checked) false ⟨#[], #[.slice none 0 0, .agg #[.int .i64 0, .int .i64 0, .int .i64 0, .int .i64 0, .int .i64 0, .slice none 0 0]], []⟩ 8 (by kernel_rfl) (by kernel_rfl) (by kernel_rfl) (by kernel_rfl)) ?_
  intro W base args ds gs before hval0 hW hcnd hsz0 _
  have hsz : (DataW.weightsEach Try.prog (Try.f9.params.toList ++ Rows.fileMakesSpec.plain.varTypes Try.prog) (ds ++ gs)).all (· ≤ reachBytes) = true := hsz0
  have hval : ∀ (j : Nat) t v, Try.f9.params[j]? = some t → args[j]? = some v → Value.okWide Try.prog W .any base t v := hval0
  have hW' := hW
  obtain ⟨p, q, hA0, hV, rfl, hfz, hnd⟩ := hW
  have hA : DataW.TrodAll enc Try.prog W 0 (fun _ => true) true Try.f9.params.toList args.toList ds p := hA0
  have hlt : ∀ x ∈ p, x.block < W.heap.size := hA.lt
  rw [Try.params9] at hA hval hsz
  obtain ⟨v0, vs0, d0, ds0, p0, q0, hargs, rfl, rfl, h0, r0⟩ := trodAll_cons hA
  obtain ⟨v1, vs1, d1, ds1, p1, q1, rfl, rfl, rfl, h1, r1⟩ := trodAll_cons r0
  obtain ⟨rfl, rfl, rfl⟩ := trodAll_nil r1
  obtain rfl : args = #[v0, v1] := by cases args; simp_all
  obtain ⟨rfl, rfl⟩ := trodVars_none hV
  have hlt0 : ∀ x ∈ p0, x.block < W.heap.size := fun x hx => hlt x (by simp [hx])
  have hlt1 : ∀ x ∈ p1, x.block < W.heap.size := fun x hx => hlt x (by simp [hx])
  obtain ⟨y0, hK0, hG0⟩ := Opn.arg op_bs hsz (j := 0) rfl rfl h0
  obtain ⟨y1, hK1, hG1⟩ := Opn.arg op_todo hsz (j := 1) rfl rfl h1
  obtain ⟨A0, n0, c0, rfl⟩ := okWide_slice Try.underlying50 (hval 0 _ _ rfl rfl)
  obtain ⟨A0_, c0_, e0, hc0, hr0⟩ := hK0
  obtain ⟨rfl, rfl, rfl⟩ : A0 = A0_ ∧ n0 = y0.length ∧ c0 = c0_ := by simpa [Value.cells] using e0
  obtain ⟨cs1, rfl, _⟩ := okWide_struct Try.underlying60 (hval 1 _ _ rfl rfl)
  obtain ⟨a1_0, a1_1, a1_2, a1_3, a1_4, a1_5⟩ := y1
  obtain ⟨_, _, e1, rfl, ⟨_, _, rfl, rfl, ⟨_, _, rfl, rfl, ⟨_, _, rfl, rfl, ⟨_, _, rfl, rfl, ⟨A1_5, c1_5, rfl, hc1_5, hr1_5⟩⟩⟩⟩⟩⟩ := hK1
  obtain rfl : cs1 = #[.int .i64 a1_0, .int .i64 a1_1, .int .i64 a1_2, .int .i64 a1_3, .int .i64 a1_4, .slice A1_5 a1_5.length c1_5] := by obtain ⟨l⟩ := cs1; simpa [Value.cells] using e1
  obtain ⟨g1_0, g1_1, g1_2, g1_3, g1_4, g1_5⟩ := hG1
  clear hA0 hval0 hsz0 hsz
  obtain ⟨k, hk⟩ := PureFileMakes.FileMakes y0 a1_0 a1_1 a1_2 a1_3 a1_4 a1_5 (Plain.wf64 g1_4)
  refine (PMakes.potsherdlaw20_FileMakes.calls k A0 c0 y0 a1_0 a1_1 a1_2 a1_3 a1_4 (fun _ => True) A1_5 c1_5 a1_5 W hr0 hc0 (PureFileMakes.V_came hr1_5 hc1_5) hk).mono fun e W' ⟨he, bel⟩ => ?_
  subst he
  have t1 := Below.trod laidOut (by kernel_rfl) (of_decide_eq_true (by kernel_rfl)) h1 bel hlt1
  have t0 := Below.trod laidOut (by kernel_rfl) (of_decide_eq_true (by kernel_rfl)) h0 bel hlt0
  exact ⟨_, rfl, _, _, _, [], _, [], hW', trodAll_mk1 (shut_bool Try.underlying4 _), (trodAll_cons_mk t0 (trodAll_cons_mk t1 trodAll_mk0)), rfl, bel.frame _, fun h => by cases h⟩
theorem over : Rows.fileMakesRow.holds Try.pinned (OpenSpec.ofChange Rows.fileMakesSpec) :=
  OpenClaim.holds_of_wide 9 Try.f9 rfl rfl rfl rfl rfl rfl rfl ⟨rfl, rfl, rfl, rfl, rfl⟩ rfl rfl rfl rfl rfl (by kernel_rfl) Try.func9 (by kernel_rfl)
    (of_decide_eq_true (by kernel_rfl)) (by unfold Func.isWrapper; first | (rw [if_pos (by decide +kernel)]; kernel_rfl) | (rw [if_neg (by decide +kernel)]; exact ⟨rfl, rfl⟩))
    (fun os started H enc _ => lifted os started H enc)
theorem proved : Rows.FileMakesSaid := over
#print axioms proved
end Go.Proofs.Ytkigiehkckjlhaa.fileMakes
namespace Go.Proofs.Ytkigiehkckjlhaa
/-- The row, under a short name, for the claim. -/
theorem fileMakes_holds : Rows.FileMakesSaid := fileMakes.proved
end Go.Proofs.Ytkigiehkckjlhaa
