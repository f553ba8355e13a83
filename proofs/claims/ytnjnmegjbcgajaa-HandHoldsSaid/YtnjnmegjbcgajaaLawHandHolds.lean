/- The statement HandHolds as it is given, out of the law's plain proof and the proved walk; no condition. -/
import Derived.Test.YtnjnmegjbcgajaaRows
import Derived.Test.YtnjnmegjbcgajaaHoldWalk
import Derived.Test.YtnjnmegjbcgajaaOpens
import Derived.WalkKit
import Derived.ProofKit
import Derived.OpenShut
import Derived.ShutString
import Derived.ChangeOld
import Derived.Below
import Derived.SizedLaws
import Derived.Carry
namespace Go.Proofs.Ytnjnmegjbcgajaa.handHolds
open Go.ChangeShapes Go.WideShapes Go.ChangeAt Go.RowKit Go.Proofs.Ytnjnmegjbcgajaa.Opens Go.Proofs.YtnjnmegjbcgajaaW.PrintWords
open Go.ChangeMaps (open_string shut_string)
set_option linter.unusedVariables false
theorem own : ownKnob Try.prog.godebug = none := by kernel_rfl
theorem laidOut : laidOutB Try.prog = true := by kernel_rfl
set_option maxRecDepth 100000 in
theorem op_i64 : Opn Try.prog 3 (Kd.int .i64) (fun z => (Lit.int .i64 z).wf = true) := op_int Try.underlying3 (by kernel_rfl)
set_option maxRecDepth 100000 in
theorem op_hs : Opn Try.prog 41 (Kd.slice 3 (Kd.int .i64)) (fun xs => xs.length * 8 ≤ 140737488351232 ∧ ∀ x ∈ xs, (Lit.int .i64 x).wf = true) := op_slice Try.underlying41 (by kernel_rfl) (by kernel_rfl) op_i64

set_option maxRecDepth 100000 in
theorem lifted (os : Os) (started : os.Started) (H : Type) (enc : TypeId × Value → H) :
    ReturnsInHanded {} Try.checked os 8 .any (Rows.handHoldsSpec.pre6 enc Try.prog Try.f8 Rows.handHoldsRow.domain false) (Rows.handHoldsSpec.post enc Try.prog Try.f8 false true false false) := by
  refine returnsInHanded_of_change_sized (C := Try.checked) own started (by kernel_rfl) Try.func8
    (ChangeSpec.witness6 (enc := enc) (C := Try.checked) false ⟨#[], #[.slice none 0 0], []⟩ 8 (by kernel_rfl) (by kernel_rfl) (by kernel_rfl) (by kernel_rfl)) ?_
  intro W base args ds gs before hval0 hW hcnd hsz0 _
  have hsz : (DataW.weightsEach Try.prog (Try.f8.params.toList ++ Rows.handHoldsSpec.plain.varTypes Try.prog) (ds ++ gs)).all (· ≤ reachBytes) = true := hsz0
  have hval : ∀ (j : Nat) t v, Try.f8.params[j]? = some t → args[j]? = some v → Value.okWide Try.prog W .any base t v := hval0
  have hW' := hW
  obtain ⟨p, q, hA0, hV, rfl, hfz, hnd⟩ := hW
  have hA : DataW.TrodAll enc Try.prog W 0 (fun _ => true) true Try.f8.params.toList args.toList ds p := hA0
  have hlt : ∀ x ∈ p, x.block < W.heap.size := hA.lt
  rw [Try.params8] at hA hval hsz
  obtain ⟨v0, vs0, d0, ds0, p0, q0, hargs, rfl, rfl, h0, r0⟩ := trodAll_cons hA
  obtain ⟨rfl, rfl, rfl⟩ := trodAll_nil r0
  obtain rfl : args = #[v0] := by cases args; simp_all
  obtain ⟨rfl, rfl⟩ := trodVars_none hV
  have hlt0 : ∀ x ∈ p0, x.block < W.heap.size := fun x hx => hlt x (by simp [hx])
  obtain ⟨y0, hK0, hG0⟩ := Opn.arg op_hs hsz (j := 0) rfl rfl h0
  obtain ⟨A0, n0, c0, rfl⟩ := okWide_slice Try.underlying41 (hval 0 _ _ rfl rfl)
  obtain ⟨A0_, c0_, e0, hc0, hr0⟩ := hK0
  obtain ⟨rfl, rfl, rfl⟩ : A0 = A0_ ∧ n0 = y0.length ∧ c0 = c0_ := by simpa [Value.cells] using e0
  clear hA0 hval0 hsz0 hsz
  refine (HandHolds.holds_walk A0 c0 y0 W hr0 hc0).mono fun e W' ⟨he, bel⟩ => ?_
  subst he
  have t0 := Below.trod laidOut (by kernel_rfl) (of_decide_eq_true (by kernel_rfl)) h0 bel hlt0
  exact ⟨_, rfl, _, _, _, [], _, [], hW', trodAll_mk1 (shut_bool Try.underlying4 _), (trodAll_cons_mk t0 trodAll_mk0), rfl, bel.frame _, fun h => by cases h⟩
theorem over : Rows.handHoldsRow.holds Try.pinned (OpenSpec.ofChange Rows.handHoldsSpec) :=
  OpenClaim.holds_of_wide 8 Try.f8 rfl rfl rfl rfl rfl rfl rfl ⟨rfl, rfl, rfl, rfl, rfl⟩ rfl rfl rfl rfl rfl (by kernel_rfl) Try.func8 (by kernel_rfl)
    (of_decide_eq_true (by kernel_rfl)) (by unfold Func.isWrapper; first | (rw [if_pos (by decide +kernel)]; kernel_rfl) | (rw [if_neg (by decide +kernel)]; exact ⟨rfl, rfl⟩))
    (fun os started H enc _ => lifted os started H enc)
theorem proved : Rows.HandHoldsSaid := over
#print axioms proved
end Go.Proofs.Ytnjnmegjbcgajaa.handHolds
namespace Go.Proofs.Ytnjnmegjbcgajaa
/-- The row, under a short name, for the claim. -/
theorem handHolds_holds : Rows.HandHoldsSaid := handHolds.proved
end Go.Proofs.Ytnjnmegjbcgajaa
