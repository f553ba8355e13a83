/- The statement QuotaLess as it is given, out of the law's plain proof and the proved walk; no condition. -/
import Derived.Test.YtkigiehkckjlhaaRows
import Derived.Test.YtkigiehkckjlhaaLessWalk
import Derived.Test.YtkigiehkckjlhaaOpens
import Derived.WalkKit
import Derived.ProofKit
import Derived.OpenShut
import Derived.ShutString
import Derived.ChangeOld
import Derived.Below
import Derived.SizedLaws
import Derived.Carry
namespace Go.Proofs.Ytkigiehkckjlhaa.quotaLess
open Go.ChangeShapes Go.WideShapes Go.ChangeAt Go.RowKit Go.Proofs.Ytkigiehkckjlhaa.Opens Go.Proofs.YtkigiehkckjlhaaW.PrintWords
open Go.ChangeMaps (open_string shut_string)
set_option linter.unusedVariables false
theorem own : ownKnob Try.prog.godebug = none := by kernel_rfl
theorem laidOut : laidOutB Try.prog = true := by kernel_rfl
set_option maxRecDepth 100000 in
theorem op_i64 : Opn Try.prog 3 (Kd.int .i64) (fun z => (Lit.int .i64 z).wf = true) := op_int Try.underlying3 (by kernel_rfl)
open Go.Proofs.Ytkigiehkckjlhaa.PQuota
set_option maxRecDepth 100000 in
theorem op_ent : Opn Try.prog 78 k78 (fun z => z.f0.size ≤ 140737488351232 ∧ (Lit.int .i64 z.f1).wf = true) :=
  op_struct (fun x : S78 => (x.f0, x.f1)) (fun p => ⟨p.1, p.2⟩) (fun _ => rfl) Try.underlying78 (by kernel_rfl) (opL_cons rfl (op_string Try.underlying9 (by kernel_rfl)) (opL_one rfl (op_int Try.underlying3 (by kernel_rfl))))
set_option maxRecDepth 100000 in
theorem op_node : Opn Try.prog 28 (Kd.iso (Kd.pair (Kd.int .i64) (Kd.pair (Kd.int .i64) (Kd.pair (Kd.int .i64) (Kd.pair (Kd.slice 3 (Kd.int .i64)) (Kd.slice 78 k78))))) (fun x : Int × Int × Int × List Int × List S78 => x)) (fun x => (Lit.int .i64 x.1).wf = true ∧ (Lit.int .i64 x.2.1).wf = true ∧ (Lit.int .i64 x.2.2.1).wf = true ∧ (x.2.2.2.1.length * 8 ≤ 140737488351232 ∧ ∀ z ∈ x.2.2.2.1, (fun z => (Lit.int .i64 z).wf = true) z) ∧ (x.2.2.2.2.length * 24 ≤ 140737488351232 ∧ ∀ z ∈ x.2.2.2.2, (fun z => z.f0.size ≤ 140737488351232 ∧ (Lit.int .i64 z.f1).wf = true) z)) :=
  op_struct (fun x => x) (fun x => x) (fun _ => rfl) Try.underlying28 (by kernel_rfl) (opL_cons rfl (op_int Try.underlying3 (by kernel_rfl)) (opL_cons rfl (op_int Try.underlying3 (by kernel_rfl)) (opL_cons rfl (op_int Try.underlying3 (by kernel_rfl)) (opL_cons rfl (op_slice Try.underlying25 (by kernel_rfl) (by kernel_rfl) op_i64) (opL_one rfl (op_slice Try.underlying26 (by kernel_rfl) (by kernel_rfl) op_ent))))))

set_option maxRecDepth 100000 in
theorem lifted (os : Os) (started : os.Started) (H : Type) (enc : TypeId × Value → H) :
    ReturnsInHanded {} Try.checked os 7 .any (Rows.quotaLessSpec.pre6 enc Try.prog Try.f7 Rows.quotaLessRow.domain false) (Rows.quotaLessSpec.post enc Try.prog Try.f7 false true false false) := by
  refine returnsInHanded_of_change_sized (C := Try.checked) own started (by kernel_rfl) Try.func7
    (ChangeSpec.witness6 (enc := enc) (C := Try.checked) false ⟨#[], #[.agg #[.int .i64 0, .int .i64 0, .int .i64 0, .slice none 0 0, .slice none 0 0], .int .i64 0], []⟩ 8 (by kernel_rfl) (by kernel_rfl) (by kernel_rfl) (by kernel_rfl)) ?_
  intro W base args ds gs before hval0 hW hcnd hsz0 _
  have hsz : (DataW.weightsEach Try.prog (Try.f7.params.toList ++ Rows.quotaLessSpec.plain.varTypes Try.prog) (ds ++ gs)).all (· ≤ reachBytes) = true := hsz0
  have hval : ∀ (j : Nat) t v, Try.f7.params[j]? = some t → args[j]? = some v → Value.okWide Try.prog W .any base t v := hval0
  have hW' := hW
  obtain ⟨p, q, hA0, hV, rfl, hfz, hnd⟩ := hW
  have hA : DataW.TrodAll enc Try.prog W 0 (fun _ => true) true Try.f7.params.toList args.toList ds p := hA0
  have hlt : ∀ x ∈ p, x.block < W.heap.size := hA.lt
  rw [Try.params7] at hA hval hsz
  obtain ⟨v0, vs0, d0, ds0, p0, q0, hargs, rfl, rfl, h0, r0⟩ := trodAll_cons hA
  obtain ⟨v1, vs1, d1, ds1, p1, q1, rfl, rfl, rfl, h1, r1⟩ := trodAll_cons r0
  obtain ⟨rfl, rfl, rfl⟩ := trodAll_nil r1
  obtain rfl : args = #[v0, v1] := by cases args; simp_all
  obtain ⟨rfl, rfl⟩ := trodVars_none hV
  have hlt0 : ∀ x ∈ p0, x.block < W.heap.size := fun x hx => hlt x (by simp [hx])
  have hlt1 : ∀ x ∈ p1, x.block < W.heap.size := fun x hx => hlt x (by simp [hx])
  obtain ⟨y0, hK0, hG0⟩ := Opn.arg op_node hsz (j := 0) rfl rfl h0
  obtain ⟨y1, hK1, hG1⟩ := Opn.arg op_i64 hsz (j := 1) rfl rfl h1
  obtain ⟨cs0, rfl, _⟩ := okWide_struct Try.underlying28 (hval 0 _ _ rfl rfl)
  obtain ⟨a0_0, a0_1, a0_2, a0_3, a0_4⟩ := y0
  obtain ⟨_, _, e0, rfl, ⟨_, _, rfl, rfl, ⟨_, _, rfl, rfl, ⟨_, _, rfl, ⟨A0_3, c0_3, rfl, hc0_3, hr0_3⟩, ⟨A0_4, c0_4, rfl, hc0_4, hr0_4⟩⟩⟩⟩⟩ := hK0
  obtain rfl : cs0 = #[.int .i64 a0_0, .int .i64 a0_1, .int .i64 a0_2, .slice A0_3 a0_3.length c0_3, .slice A0_4 a0_4.length c0_4] := by obtain ⟨l⟩ := cs0; simpa [Value.cells] using e0
  obtain ⟨g0_0, g0_1, g0_2, g0_3, g0_4⟩ := hG0
  obtain ⟨cs1, rfl⟩ := okWide_int Try.underlying3 (hval 1 _ _ rfl rfl)
  obtain rfl : y1 = cs1 := by have := hK1; simp [Value.cells, Kd.int, Kd.scalar] at this; exact this.symm
  clear hA0 hval0 hsz0 hsz
  refine (Less.less_all a0_0 a0_1 a0_2 a0_3 a0_4 A0_3 c0_3 A0_4 c0_4 y1 W hr0_3 hc0_3 hr0_4 hc0_4 (by have h_ := g0_4.1; (try dsimp only at h_); omega) (fun x hx => (g0_4.2 x hx).1)).mono fun e W' ⟨he, bel⟩ => ?_
  subst he
  have t1 := Below.trod laidOut (by kernel_rfl) (of_decide_eq_true (by kernel_rfl)) h1 bel hlt1
  have t0 := Below.trod laidOut (by kernel_rfl) (of_decide_eq_true (by kernel_rfl)) h0 bel hlt0
  exact ⟨_, rfl, _, _, _, [], _, [], hW', trodAll_mk1 (shut_bool Try.underlying4 _), (trodAll_cons_mk t0 (trodAll_cons_mk t1 trodAll_mk0)), rfl, bel.frame _, fun h => by cases h⟩
theorem over : Rows.quotaLessRow.holds Try.pinned (OpenSpec.ofChange Rows.quotaLessSpec) :=
  OpenClaim.holds_of_wide 7 Try.f7 rfl rfl rfl rfl rfl rfl rfl ⟨rfl, rfl, rfl, rfl, rfl⟩ rfl rfl rfl rfl rfl (by kernel_rfl) Try.func7 (by kernel_rfl)
    (of_decide_eq_true (by kernel_rfl)) (by unfold Func.isWrapper; first | (rw [if_pos (by decide +kernel)]; kernel_rfl) | (rw [if_neg (by decide +kernel)]; exact ⟨rfl, rfl⟩))
    (fun os started H enc _ => lifted os started H enc)
theorem proved : Rows.QuotaLessSaid := over
#print axioms proved
end Go.Proofs.Ytkigiehkckjlhaa.quotaLess
namespace Go.Proofs.Ytkigiehkckjlhaa
/-- The row, under a short name, for the claim. -/
theorem quotaLess_holds : Rows.QuotaLessSaid := quotaLess.proved
end Go.Proofs.Ytkigiehkckjlhaa
