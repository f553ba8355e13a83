/- The statement SpanTwo as it is given, out of the law's plain proof and the proved walk; no condition. -/
import Derived.Test.YtjpecdlagiohfaaRows
import Derived.Test.YtjpecdlagiohfaaTwoWalk
import Derived.Test.YtjpecdlagiohfaaOpens
import Derived.WalkKit
import Derived.ProofKit
import Derived.OpenShut
import Derived.ShutString
import Derived.ChangeOld
import Derived.Below
import Derived.SizedLaws
import Derived.Carry
namespace Go.Proofs.Ytjpecdlagiohfaa.spanTwo
open Go.ChangeShapes Go.WideShapes Go.ChangeAt Go.RowKit Go.Proofs.Ytjpecdlagiohfaa.Opens Go.Proofs.YtjpecdlagiohfaaW.PrintWords
open Go.ChangeMaps (open_string shut_string)
set_option linter.unusedVariables false
theorem own : ownKnob Try.prog.godebug = none := by kernel_rfl
theorem laidOut : laidOutB Try.prog = true := by kernel_rfl
set_option maxRecDepth 100000 in
theorem op_i64 : Opn Try.prog 3 (Kd.int .i64) (fun z => (Lit.int .i64 z).wf = true) := op_int Try.underlying3 (by kernel_rfl)

set_option maxRecDepth 100000 in
theorem lifted (os : Os) (started : os.Started) (H : Type) (enc : TypeId × Value → H) :
    ReturnsInHanded {} Try.checked os 7 .any (Rows.spanTwoSpec.pre6 enc Try.prog Try.f7 Rows.spanTwoRow.domain false) (Rows.spanTwoSpec.post enc Try.prog Try.f7 false true false false) := by
  refine returnsInHanded_of_change_sized (C := Try.checked) own started (by kernel_rfl) Try.func7
    (ChangeSpec.witness6 (enc := enc) (C := Try.checked) false ⟨#[], #[.int .i64 0, .int .i64 0, .int .i64 0], []⟩ 8 (by kernel_rfl) (by kernel_rfl) (by kernel_rfl) (by kernel_rfl)) ?_
  intro W base args ds gs before hval0 hW hcnd hsz0 _
  have hsz : (DataW.weightsEach Try.prog (Try.f7.params.toList ++ Rows.spanTwoSpec.plain.varTypes Try.prog) (ds ++ gs)).all (· ≤ reachBytes) = true := hsz0
  have hval : ∀ (j : Nat) t v, Try.f7.params[j]? = some t → args[j]? = some v → Value.okWide Try.prog W .any base t v := hval0
  have hW' := hW
  obtain ⟨p, q, hA0, hV, rfl, hfz, hnd⟩ := hW
  have hA : DataW.TrodAll enc Try.prog W 0 (fun _ => true) true Try.f7.params.toList args.toList ds p := hA0
  have hlt : ∀ x ∈ p, x.block < W.heap.size := hA.lt
  rw [Try.params7] at hA hval hsz
  obtain ⟨v0, vs0, d0, ds0, p0, q0, hargs, rfl, rfl, h0, r0⟩ := trodAll_cons hA
  obtain ⟨v1, vs1, d1, ds1, p1, q1, rfl, rfl, rfl, h1, r1⟩ := trodAll_cons r0
  obtain ⟨v2, vs2, d2, ds2, p2, q2, rfl, rfl, rfl, h2, r2⟩ := trodAll_cons r1
  obtain ⟨rfl, rfl, rfl⟩ := trodAll_nil r2
  obtain rfl : args = #[v0, v1, v2] := by cases args; simp_all
  obtain ⟨rfl, rfl⟩ := trodVars_none hV
  have hlt0 : ∀ x ∈ p0, x.block < W.heap.size := fun x hx => hlt x (by simp [hx])
  have hlt1 : ∀ x ∈ p1, x.block < W.heap.size := fun x hx => hlt x (by simp [hx])
  have hlt2 : ∀ x ∈ p2, x.block < W.heap.size := fun x hx => hlt x (by simp [hx])
  obtain ⟨y0, hK0, hG0⟩ := Opn.arg op_i64 hsz (j := 0) rfl rfl h0
  obtain ⟨y1, hK1, hG1⟩ := Opn.arg op_i64 hsz (j := 1) rfl rfl h1
  obtain ⟨y2, hK2, hG2⟩ := Opn.arg op_i64 hsz (j := 2) rfl rfl h2
  obtain ⟨cs0, rfl⟩ := okWide_int Try.underlying3 (hval 0 _ _ rfl rfl)
  obtain rfl : y0 = cs0 := by have := hK0; simp [Value.cells, Kd.int, Kd.scalar] at this; exact this.symm
  obtain ⟨cs1, rfl⟩ := okWide_int Try.underlying3 (hval 1 _ _ rfl rfl)
  obtain rfl : y1 = cs1 := by have := hK1; simp [Value.cells, Kd.int, Kd.scalar] at this; exact this.symm
  obtain ⟨cs2, rfl⟩ := okWide_int Try.underlying3 (hval 2 _ _ rfl rfl)
  obtain rfl : y2 = cs2 := by have := hK2; simp [Value.cells, Kd.int, Kd.scalar] at this; exact this.symm
  clear hA0 hval0 hsz0 hsz
  refine (PTwo.two_walk y0 y1 y2 W).mono fun e W' ⟨he, bel⟩ => ?_
  subst he
  have t2 := Below.trod laidOut (by kernel_rfl) (of_decide_eq_true (by kernel_rfl)) h2 bel hlt2
  have t1 := Below.trod laidOut (by kernel_rfl) (of_decide_eq_true (by kernel_rfl)) h1 bel hlt1
  have t0 := Below.trod laidOut (by kernel_rfl) (of_decide_eq_true (by kernel_rfl)) h0 bel hlt0
  exact ⟨_, rfl, _, _, _, [], _, [], hW', trodAll_mk1 (shut_bool Try.underlying4 _), (trodAll_cons_mk t0 (trodAll_cons_mk t1 (trodAll_cons_mk t2 trodAll_mk0))), rfl, bel.frame _, fun h => by cases h⟩
theorem over : Rows.spanTwoRow.holds Try.pinned (OpenSpec.ofChange Rows.spanTwoSpec) :=
  OpenClaim.holds_of_wide 7 Try.f7 rfl rfl rfl rfl rfl rfl rfl ⟨rfl, rfl, rfl, rfl, rfl⟩ rfl rfl rfl rfl rfl (by kernel_rfl) Try.func7 (by kernel_rfl)
    (of_decide_eq_true (by kernel_rfl)) (by unfold Func.isWrapper; first | (rw [if_pos (by decide +kernel)]; kernel_rfl) | (rw [if_neg (by decide +kernel)]; exact ⟨rfl, rfl⟩))
    (fun os started H enc _ => lifted os started H enc)
theorem proved : Rows.SpanTwoSaid := over
#print axioms proved
end Go.Proofs.Ytjpecdlagiohfaa.spanTwo
namespace Go.Proofs.Ytjpecdlagiohfaa
/-- The row, under a short name, for the claim. -/
theorem spanTwo_holds : Rows.SpanTwoSaid := spanTwo.proved
end Go.Proofs.Ytjpecdlagiohfaa
