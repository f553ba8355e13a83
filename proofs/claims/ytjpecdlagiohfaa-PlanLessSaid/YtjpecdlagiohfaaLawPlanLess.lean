/- The statement PlanLess as it is given, out of the law's plain proof and the proved walk; no condition. -/
import Derived.Test.YtjpecdlagiohfaaRows
import Derived.Test.YtjpecdlagiohfaaPPlanLessx
import Derived.Test.YtjpecdlagiohfaaPurePlanLess
import Derived.Test.YtjpecdlagiohfaaOpens
import Derived.WalkKit
import Derived.ProofKit
import Derived.OpenShut
import Derived.ShutString
import Derived.ChangeOld
import Derived.Below
import Derived.SizedLaws
import Derived.Carry
namespace Go.Proofs.Ytjpecdlagiohfaa.planLess
open Go.ChangeShapes Go.WideShapes Go.ChangeAt Go.RowKit Go.Proofs.Ytjpecdlagiohfaa.Opens Go.Proofs.YtjpecdlagiohfaaW.PrintWords
open Go.ChangeMaps (open_string shut_string)
set_option linter.unusedVariables false
theorem own : ownKnob Try.prog.godebug = none := by kernel_rfl
theorem laidOut : laidOutB Try.prog = true := by kernel_rfl
/-- A config's five numbers. -/
theorem op_cfg : Opn Try.prog 35 (Kd.iso (Kd.pair (Kd.int .i64) (Kd.pair (Kd.int .i64) (Kd.pair (Kd.int .i64) (Kd.pair (Kd.int .i64) (Kd.int .i64))))) (fun x : Int × Int × Int × Int × Int => x)) (fun x => (Lit.int .i64 x.1).wf = true ∧ (Lit.int .i64 x.2.1).wf = true ∧ (Lit.int .i64 x.2.2.1).wf = true ∧ (Lit.int .i64 x.2.2.2.1).wf = true ∧ (Lit.int .i64 x.2.2.2.2).wf = true) :=
  op_struct (fun x => x) (fun x => x) (fun _ => rfl) Try.underlying35 (by kernel_rfl) (opL_cons rfl (op_int Try.underlying3 (by kernel_rfl)) (opL_cons rfl (op_int Try.underlying3 (by kernel_rfl)) (opL_cons rfl (op_int Try.underlying3 (by kernel_rfl)) (opL_cons rfl (op_int Try.underlying3 (by kernel_rfl)) (opL_one rfl (op_int Try.underlying3 (by kernel_rfl)))))))
theorem op_i64 : Opn Try.prog 3 (Kd.int .i64) (fun z => (Lit.int .i64 z).wf = true) := op_int Try.underlying3 (by kernel_rfl)

set_option maxRecDepth 100000 in
theorem lifted (os : Os) (started : os.Started) (H : Type) (enc : TypeId × Value → H) :
    ReturnsInHanded {} Try.checked os 9 .any (Rows.planLessSpec.pre6 enc Try.prog Try.f9 Rows.planLessRow.domain false) (Rows.planLessSpec.post enc Try.prog Try.f9 false true false false) := by
  refine returnsInHanded_of_change_sized (C := Try.checked) own started (by kernel_rfl) Try.func9
    (ChangeSpec.witness6 (enc := enc) (C := Try.checked) false ⟨#[], #[.agg #[.int .i64 0, .int .i64 0, .int .i64 0, .int .i64 0, .int .i64 0], .int .i64 0], []⟩ 8 (by kernel_rfl) (by kernel_rfl) (by kernel_rfl) (by kernel_rfl)) ?_
  intro W base args ds gs before hval0 hW hcnd hsz0 _
  have hsz : (DataW.weightsEach Try.prog (Try.f9.params.toList ++ Rows.planLessSpec.plain.varTypes Try.prog) (ds ++ gs)).all (· ≤ reachBytes) = true := hsz0
  have hval : ∀ (j : Nat) t v, Try.f9.params[j]? = some t → args[j]? = some v → Value.okWide Try.prog W .any base t v := hval0
  have hW' := hW
  obtain ⟨p, q, hA0, hV, rfl, hfz, hnd⟩ := hW
  have hA : DataW.TrodAll enc Try.prog W 0 (fun _ => true) true Try.f9.params.toList args.toList ds p := hA0
  have hlt : ∀ x ∈ p, x.block < W.heap.size := hA.lt
  rw [Try.params9] at hA hval hsz
  obtain ⟨v0, vs0, d0, ds0, p0, q0, hargs, rfl, rfl, h0, r0⟩ := trodAll_cons hA
  obtain ⟨v1, vs1, d1, ds1, p1, q1, rfl, rfl, rfl, h1, r1⟩ := trodAll_cons r0
  obtain ⟨rfl, rfl, rfl⟩ := trodAll_nil r1
  obtain rfl : args = #[v0, v1] := by cases args; simp_all
  obtain ⟨rfl, rfl⟩ := trodVars_none hV
  have hlt0 : ∀ x ∈ p0, x.block < W.heap.size := fun x hx => hlt x (by simp [hx])
  have hlt1 : ∀ x ∈ p1, x.block < W.heap.size := fun x hx => hlt x (by simp [hx])
  obtain ⟨y0, hK0, hG0⟩ := Opn.arg op_cfg hsz (j := 0) rfl rfl h0
  obtain ⟨y1, hK1, hG1⟩ := Opn.arg op_i64 hsz (j := 1) rfl rfl h1
  obtain ⟨cs0, rfl, _⟩ := okWide_struct Try.underlying35 (hval 0 _ _ rfl rfl)
  obtain ⟨a00, a01, a02, a03, a04⟩ := y0
  obtain ⟨_, _, e0, rfl, _, _, rfl, rfl, _, _, rfl, rfl, _, _, rfl, rfl, rfl⟩ := hK0
  obtain rfl : cs0 = #[.int .i64 a00, .int .i64 a01, .int .i64 a02, .int .i64 a03, .int .i64 a04] := by obtain ⟨l⟩ := cs0; simpa [Value.cells] using e0
  obtain ⟨cs1, rfl⟩ := okWide_int Try.underlying3 (hval 1 _ _ rfl rfl)
  obtain rfl : y1 = cs1 := by have := hK1; simp [Value.cells, Kd.int, Kd.scalar] at this; exact this.symm
  clear hA0 hval0 hsz0 hsz
  obtain ⟨k, hk⟩ := PurePlanLess.PlanLess a00 a01 a02 a03 a04 y1 hG1
  refine (PPlanLess.potsherdlaw6_PlanLess.calls k a00 a01 a02 a03 a04 y1 W hk).mono fun e W' ⟨he, bel⟩ => ?_
  subst he
  have t1 := Below.trod laidOut (by kernel_rfl) (of_decide_eq_true (by kernel_rfl)) h1 bel hlt1
  have t0 := Below.trod laidOut (by kernel_rfl) (of_decide_eq_true (by kernel_rfl)) h0 bel hlt0
  exact ⟨_, rfl, _, _, _, [], _, [], hW', trodAll_mk1 (shut_bool Try.underlying4 _), (trodAll_cons_mk t0 (trodAll_cons_mk t1 trodAll_mk0)), rfl, bel.frame _, fun h => by cases h⟩
theorem over : Rows.planLessRow.holds Try.pinned (OpenSpec.ofChange Rows.planLessSpec) :=
  OpenClaim.holds_of_wide 9 Try.f9 rfl rfl rfl rfl rfl rfl rfl ⟨rfl, rfl, rfl, rfl, rfl⟩ rfl rfl rfl rfl rfl (by kernel_rfl) Try.func9 (by kernel_rfl)
    (of_decide_eq_true (by kernel_rfl)) (by unfold Func.isWrapper; first | (rw [if_pos (by decide +kernel)]; kernel_rfl) | (rw [if_neg (by decide +kernel)]; exact ⟨rfl, rfl⟩))
    (fun os started H enc _ => lifted os started H enc)
theorem proved : Rows.PlanLessSaid := over
#print axioms proved
end Go.Proofs.Ytjpecdlagiohfaa.planLess
namespace Go.Proofs.Ytjpecdlagiohfaa
/-- The row, under a short name, for the claim. -/
theorem planLess_holds : Rows.PlanLessSaid := planLess.proved
end Go.Proofs.Ytjpecdlagiohfaa
