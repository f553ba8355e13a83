/- The statement FileDone as it is given, out of the law's plain proof and the proved walk; no condition. -/
import Derived.Test.YtkigiehkckjlhaaRows
import Derived.Test.YtkigiehkckjlhaaZDonePDonex36
import Derived.Test.YtkigiehkckjlhaaZDonePureFileDone
import Derived.Test.YtkigiehkckjlhaaZDoneOpens
import Derived.WalkKit
import Derived.ProofKit
import Derived.OpenShut
import Derived.ShutString
import Derived.ChangeOld
import Derived.Below
import Derived.SizedLaws
import Derived.Carry
namespace Go.Proofs.Ytkigiehkckjlhaa.fileDone
open Go.ChangeShapes Go.WideShapes Go.ChangeAt Go.RowKit Go.Proofs.Ytkigiehkckjlhaa.Opens Go.Proofs.YtkigiehkckjlhaaW.PrintWords
open Go.ChangeMaps (open_string shut_string)
set_option linter.unusedVariables false
theorem own : ownKnob Try.prog.godebug = none := by kernel_rfl
theorem laidOut : laidOutB Try.prog = true := by kernel_rfl
set_option maxRecDepth 100000 in
theorem op_i64 : Opn Try.prog 3 (Kd.int .i64) (fun z => (Lit.int .i64 z).wf = true) := op_int Try.underlying3 (by kernel_rfl)
open Go.Proofs.Ytkigiehkckjlhaa.PDone
set_option maxRecDepth 100000 in
theorem op_ent : Opn Try.prog 78 k78 (fun z => z.f0.size ≤ 140737488351232 ∧ (Lit.int .i64 z.f1).wf = true) :=
  op_struct (fun x : S78 => (x.f0, x.f1)) (fun p => ⟨p.1, p.2⟩) (fun _ => rfl) Try.underlying78 (by kernel_rfl) (opL_cons rfl (op_string Try.underlying9 (by kernel_rfl)) (opL_one rfl (op_int Try.underlying3 (by kernel_rfl))))
set_option maxRecDepth 100000 in
theorem op_x28 : Opn Try.prog 28 k28 (fun x => (Lit.int .i64 x.f0).wf = true ∧ (Lit.int .i64 x.f1).wf = true ∧ (Lit.int .i64 x.f2).wf = true ∧ (x.f3.length * 8 ≤ 140737488351232 ∧ ∀ z ∈ x.f3, (Lit.int .i64 z).wf = true) ∧ (x.f4.length * 24 ≤ 140737488351232 ∧ ∀ z ∈ x.f4, (fun z => z.f0.size ≤ 140737488351232 ∧ (Lit.int .i64 z.f1).wf = true) z)) :=
  op_struct (fun x : S28 => (x.f0, x.f1, x.f2, x.f3, x.f4)) (fun p => ⟨p.1, p.2.1, p.2.2.1, p.2.2.2.1, p.2.2.2.2⟩) (fun _ => rfl) Try.underlying28 (by kernel_rfl) (opL_cons rfl (op_int Try.underlying3 (by kernel_rfl)) (opL_cons rfl (op_int Try.underlying3 (by kernel_rfl)) (opL_cons rfl (op_int Try.underlying3 (by kernel_rfl)) (opL_cons rfl (op_slice Try.underlying25 (by kernel_rfl) (by kernel_rfl) op_i64) (opL_one rfl (op_slice Try.underlying26 (by kernel_rfl) (by kernel_rfl) op_ent))))))
set_option maxRecDepth 100000 in
theorem op_tree : Opn Try.prog 24 (Kd.iso (Kd.slice 28 k28) (fun x : List S28 => x)) (fun x => (x.length * 72 ≤ 140737488351232 ∧ ∀ z ∈ x, (fun x => (Lit.int .i64 x.f0).wf = true ∧ (Lit.int .i64 x.f1).wf = true ∧ (Lit.int .i64 x.f2).wf = true ∧ (x.f3.length * 8 ≤ 140737488351232 ∧ ∀ z ∈ x.f3, (Lit.int .i64 z).wf = true) ∧ (x.f4.length * 24 ≤ 140737488351232 ∧ ∀ z ∈ x.f4, (fun z => z.f0.size ≤ 140737488351232 ∧ (Lit.int .i64 z.f1).wf = true) z)) z)) :=
  op_struct (fun x => x) (fun x => x) (fun _ => rfl) Try.underlying24 (by kernel_rfl) (opL_one rfl (op_slice Try.underlying22 (by kernel_rfl) (by kernel_rfl) op_x28))
set_option maxRecDepth 100000 in
theorem op_u8 : Opn Try.prog 5 (Kd.int .u8) (fun z => (Lit.int .u8 z).wf = true) := op_int Try.underlying5 (by kernel_rfl)
set_option maxRecDepth 100000 in
theorem op_bs : Opn Try.prog 50 (Kd.slice 5 (Kd.int .u8)) (fun xs => xs.length * 1 ≤ 140737488351232 ∧ ∀ x ∈ xs, (Lit.int .u8 x).wf = true) := op_slice Try.underlying50 (by kernel_rfl) (by kernel_rfl) op_u8
set_option maxRecDepth 100000 in
theorem lifted (os : Os) (started : os.Started) (H : Type) (enc : TypeId × Value → H) :
    ReturnsInHanded {} Try.checked os 10 .any (Rows.fileDoneSpec.pre6 enc Try.prog Try.f10 Rows.fileDoneRow.domain false) (Rows.fileDoneSpec.post enc Try.prog Try.f10 false true false false) := by
  refine returnsInHanded_of_change_sized (C := Try.checked) own started (by kernel_rfl) Try.func10
    (ChangeSpec.witness6 (enc := enc) (C := Try.checked) false ⟨#[], #[.agg #[.slice none 0 0], .int .i64 0, .int .i64 0, .slice none 0 0], []⟩ 8 (by kernel_rfl) (by kernel_rfl) (by kernel_rfl) (by kernel_rfl)) ?_
  intro W base args ds gs before hval0 hW hcnd hsz0 _
  have hsz : (DataW.weightsEach Try.prog (Try.f10.params.toList ++ Rows.fileDoneSpec.plain.varTypes Try.prog) (ds ++ gs)).all (· ≤ reachBytes) = true := hsz0
  have hval : ∀ (j : Nat) t v, Try.f10.params[j]? = some t → args[j]? = some v → Value.okWide Try.prog W .any base t v := hval0
  have hW' := hW
  obtain ⟨p, q, hA0, hV, rfl, hfz, hnd⟩ := hW
  have hA : DataW.TrodAll enc Try.prog W 0 (fun _ => true) true Try.f10.params.toList args.toList ds p := hA0
  have hlt : ∀ x ∈ p, x.block < W.heap.size := hA.lt
  rw [Try.params10] at hA hval hsz
  obtain ⟨v0, vs0, d0, ds0, p0, q0, hargs, rfl, rfl, h0, r0⟩ := trodAll_cons hA
  obtain ⟨v1, vs1, d1, ds1, p1, q1, rfl, rfl, rfl, h1, r1⟩ := trodAll_cons r0
  obtain ⟨v2, vs2, d2, ds2, p2, q2, rfl, rfl, rfl, h2, r2⟩ := trodAll_cons r1
  obtain ⟨v3, vs3, d3, ds3, p3, q3, rfl, rfl, rfl, h3, r3⟩ := trodAll_cons r2
  obtain ⟨rfl, rfl, rfl⟩ := trodAll_nil r3
  obtain rfl : args = #[v0, v1, v2, v3] := by cases args; simp_all
  obtain ⟨rfl, rfl⟩ := trodVars_none hV
  have hlt0 : ∀ x ∈ p0, x.block < W.heap.size := fun x hx => hlt x (by simp [hx])
  have hlt1 : ∀ x ∈ p1, x.block < W.heap.size := fun x hx => hlt x (by simp [hx])
  have hlt2 : ∀ x ∈ p2, x.block < W.heap.size := fun x hx => hlt x (by simp [hx])
  have hlt3 : ∀ x ∈ p3, x.block < W.heap.size := fun x hx => hlt x (by simp [hx])
  obtain ⟨y0, hK0, hG0⟩ := Opn.arg op_tree hsz (j := 0) rfl rfl h0
  obtain ⟨y1, hK1, hG1⟩ := Opn.arg op_i64 hsz (j := 1) rfl rfl h1
  obtain ⟨y2, hK2, hG2⟩ := Opn.arg op_i64 hsz (j := 2) rfl rfl h2
  obtain ⟨y3, hK3, hG3⟩ := Opn.arg op_bs hsz (j := 3) rfl rfl h3
  obtain ⟨cs0, rfl, _⟩ := okWide_struct Try.underlying24 (hval 0 _ _ rfl rfl)
  obtain ⟨a0_0, rfl⟩ : ∃ a_, a_ = y0 := ⟨_, rfl⟩
  obtain ⟨A0_0, c0_0, e0, hc0_0, hr0_0⟩ := hK0
  obtain rfl : cs0 = #[.slice A0_0 a0_0.length c0_0] := by obtain ⟨l⟩ := cs0; simpa [Value.cells] using e0
  skip
  obtain ⟨cs1, rfl⟩ := okWide_int Try.underlying3 (hval 1 _ _ rfl rfl)
  obtain rfl : y1 = cs1 := by have := hK1; simp [Value.cells, Kd.int, Kd.scalar] at this; exact this.symm
  obtain ⟨cs2, rfl⟩ := okWide_int Try.underlying3 (hval 2 _ _ rfl rfl)
  obtain rfl : y2 = cs2 := by have := hK2; simp [Value.cells, Kd.int, Kd.scalar] at this; exact this.symm
  obtain ⟨A3, n3, c3, rfl⟩ := okWide_slice Try.underlying50 (hval 3 _ _ rfl rfl)
  obtain ⟨A3_, c3_, e3, hc3, hr3⟩ := hK3
  obtain ⟨rfl, rfl, rfl⟩ : A3 = A3_ ∧ n3 = y3.length ∧ c3 = c3_ := by simpa [Value.cells] using e3
  clear hA0 hval0 hsz0 hsz
  obtain ⟨k, hk⟩ := PureFileDone.FileDone a0_0 y1 y2 y3 (by have h_ := hG0.1; (try dsimp only at h_); omega) (fun x hx => ⟨by have h_ := (hG0.2 x hx).2.2.2.2.1; (try dsimp only at h_); omega, fun y hy => ((hG0.2 x hx).2.2.2.2.2 y hy).1⟩)
  refine (PDone.potsherdlaw20_FileDone.calls k A0_0 c0_0 a0_0 y1 y2 A3 c3 y3 W hr0_0 hc0_0   hr3 hc3 hk).mono fun e W' ⟨he, bel⟩ => ?_
  subst he
  have t3 := Below.trod laidOut (by kernel_rfl) (of_decide_eq_true (by kernel_rfl)) h3 bel hlt3
  have t2 := Below.trod laidOut (by kernel_rfl) (of_decide_eq_true (by kernel_rfl)) h2 bel hlt2
  have t1 := Below.trod laidOut (by kernel_rfl) (of_decide_eq_true (by kernel_rfl)) h1 bel hlt1
  have t0 := Below.trod laidOut (by kernel_rfl) (of_decide_eq_true (by kernel_rfl)) h0 bel hlt0
  exact ⟨_, rfl, _, _, _, [], _, [], hW', trodAll_mk1 (shut_bool Try.underlying4 _), (trodAll_cons_mk t0 (trodAll_cons_mk t1 (trodAll_cons_mk t2 (trodAll_cons_mk t3 trodAll_mk0)))), rfl, bel.frame _, fun h => by cases h⟩
theorem over : Rows.fileDoneRow.holds Try.pinned (OpenSpec.ofChange Rows.fileDoneSpec) :=
  OpenClaim.holds_of_wide 10 Try.f10 rfl rfl rfl rfl rfl rfl rfl ⟨rfl, rfl, rfl, rfl, rfl⟩ rfl rfl rfl rfl rfl (by kernel_rfl) Try.func10 (by kernel_rfl)
    (of_decide_eq_true (by kernel_rfl)) (by unfold Func.isWrapper; first | (rw [if_pos (by decide +kernel)]; kernel_rfl) | (rw [if_neg (by decide +kernel)]; exact ⟨rfl, rfl⟩))
    (fun os started H enc _ => lifted os started H enc)
theorem proved : Rows.FileDoneSaid := over
#print axioms proved
end Go.Proofs.Ytkigiehkckjlhaa.fileDone
namespace Go.Proofs.Ytkigiehkckjlhaa
theorem fileDone_holds : Rows.FileDoneSaid := fileDone.proved
end Go.Proofs.Ytkigiehkckjlhaa
