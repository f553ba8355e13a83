/- The statement CostForms as it is given, out of the law's plain proof and the proved walk; no condition. -/
import Derived.Test.YtnjnmegjbcgajaaRows
import Derived.Test.YtnjnmegjbcgajaaPCostFormsx
import Derived.Test.YtnjnmegjbcgajaaPureCostForms
import Derived.Test.YtnjnmegjbcgajaaOpens
import Derived.WalkKit
import Derived.ProofKit
import Derived.OpenShut
import Derived.ShutString
import Derived.ChangeOld
import Derived.Below
import Derived.SizedLaws
import Derived.Carry
namespace Go.Proofs.Ytnjnmegjbcgajaa.costForms
open Go.ChangeShapes Go.WideShapes Go.ChangeAt Go.RowKit Go.Proofs.Ytnjnmegjbcgajaa.Opens Go.Proofs.YtnjnmegjbcgajaaW.PrintWords
open Go.ChangeMaps (open_string shut_string)
set_option linter.unusedVariables false
theorem own : ownKnob Try.prog.godebug = none := by kernel_rfl
theorem laidOut : laidOutB Try.prog = true := by kernel_rfl
theorem op_i64 : Opn Try.prog 3 (Kd.int .i64) (fun z => (Lit.int .i64 z).wf = true) := op_int Try.underlying3 (by kernel_rfl)
theorem op_u8 : Opn Try.prog 5 (Kd.int .u8) (fun z => (Lit.int .u8 z).wf = true) := op_int Try.underlying5 (by kernel_rfl)
theorem op_cfg : Opn Try.prog 23 (Kd.iso (Kd.pair (Kd.int .i64) (Kd.pair (Kd.int .i64) (Kd.pair (Kd.int .i64) (Kd.pair (Kd.int .i64) (Kd.int .i64))))) (fun x : Int × Int × Int × Int × Int => x)) (fun x => (Lit.int .i64 x.1).wf = true ∧ (Lit.int .i64 x.2.1).wf = true ∧ (Lit.int .i64 x.2.2.1).wf = true ∧ (Lit.int .i64 x.2.2.2.1).wf = true ∧ (Lit.int .i64 x.2.2.2.2).wf = true) :=
  op_struct (fun x => x) (fun x => x) (fun _ => rfl) Try.underlying23 (by kernel_rfl) (opL_cons rfl (op_int Try.underlying3 (by kernel_rfl)) (opL_cons rfl (op_int Try.underlying3 (by kernel_rfl)) (opL_cons rfl (op_int Try.underlying3 (by kernel_rfl)) (opL_cons rfl (op_int Try.underlying3 (by kernel_rfl)) (opL_one rfl (op_int Try.underlying3 (by kernel_rfl)))))))
theorem op_call : Opn Try.prog 30 (Kd.iso (Kd.pair (Kd.int .i64) (Kd.pair Kd.string (Kd.pair Kd.string (Kd.pair (Kd.int .i64) (Kd.pair (Kd.int .i64) (Kd.pair (Kd.int .i64) (Kd.slice 5 (Kd.int .u8)))))))) (fun x : Int × ByteArray × ByteArray × Int × Int × Int × List Int => x)) (fun x => (Lit.int .i64 x.1).wf = true ∧ x.2.1.size ≤ 140737488351232 ∧ x.2.2.1.size ≤ 140737488351232 ∧ (Lit.int .i64 x.2.2.2.1).wf = true ∧ (Lit.int .i64 x.2.2.2.2.1).wf = true ∧ (Lit.int .i64 x.2.2.2.2.2.1).wf = true ∧ (x.2.2.2.2.2.2.length * 1 ≤ 140737488351232 ∧ ∀ z ∈ x.2.2.2.2.2.2, (fun z => (Lit.int .u8 z).wf = true) z)) :=
  op_struct (fun x => x) (fun x => x) (fun _ => rfl) Try.underlying30 (by kernel_rfl) (opL_cons rfl (op_int Try.underlying3 (by kernel_rfl)) (opL_cons rfl (op_string Try.underlying9 (by kernel_rfl)) (opL_cons rfl (op_string Try.underlying9 (by kernel_rfl)) (opL_cons rfl (op_int Try.underlying3 (by kernel_rfl)) (opL_cons rfl (op_int Try.underlying3 (by kernel_rfl)) (opL_cons rfl (op_int Try.underlying3 (by kernel_rfl)) (opL_one rfl (op_slice Try.underlying28 (by kernel_rfl) (by kernel_rfl) op_u8))))))))
theorem op_bill : Opn Try.prog 32 (Kd.iso (Kd.pair (Kd.int .i64) (Kd.pair (Kd.int .i64) (Kd.int .i64))) (fun x : Int × Int × Int => x)) (fun x => (Lit.int .i64 x.1).wf = true ∧ (Lit.int .i64 x.2.1).wf = true ∧ (Lit.int .i64 x.2.2).wf = true) :=
  op_struct (fun x => x) (fun x => x) (fun _ => rfl) Try.underlying32 (by kernel_rfl) (opL_cons rfl (op_int Try.underlying3 (by kernel_rfl)) (opL_cons rfl (op_int Try.underlying3 (by kernel_rfl)) (opL_one rfl (op_int Try.underlying3 (by kernel_rfl)))))

set_option maxRecDepth 100000 in
theorem lifted (os : Os) (started : os.Started) (H : Type) (enc : TypeId × Value → H) :
    ReturnsInHanded {} Try.checked os 4 .any (Rows.costFormsSpec.pre6 enc Try.prog Try.f4 Rows.costFormsRow.domain false) (Rows.costFormsSpec.post enc Try.prog Try.f4 false true false false) := by
  refine returnsInHanded_of_change_sized (C := Try.checked) own started (by kernel_rfl) Try.func4
    (ChangeSpec.witness6 (enc := enc) (C := Try.checked) false ⟨#[], #[.agg #[.int .i64 0, .int .i64 0, .int .i64 0, .int .i64 0, .int .i64 0], .agg #[.int .i64 0, .string ByteArray.empty, .string ByteArray.empty, .int .i64 0, .int .i64 0, .int .i64 0, .slice none 0 0], .int .i64 0, .int .i64 0, .int .i64 0, .agg #[.int .i64 0, .int .i64 0, .int .i64 0], .agg #[.int .i64 0, .int .i64 0, .int .i64 0]], []⟩ 8 (by kernel_rfl) (by kernel_rfl) (by kernel_rfl) (by kernel_rfl)) ?_
  intro W base args ds gs before hval0 hW hcnd hsz0 _
  have hsz : (DataW.weightsEach Try.prog (Try.f4.params.toList ++ Rows.costFormsSpec.plain.varTypes Try.prog) (ds ++ gs)).all (· ≤ reachBytes) = true := hsz0
  have hval : ∀ (j : Nat) t v, Try.f4.params[j]? = some t → args[j]? = some v → Value.okWide Try.prog W .any base t v := hval0
  have hW' := hW
  obtain ⟨p, q, hA0, hV, rfl, hfz, hnd⟩ := hW
  have hA : DataW.TrodAll enc Try.prog W 0 (fun _ => true) true Try.f4.params.toList args.toList ds p := hA0
  have hlt : ∀ x ∈ p, x.block < W.heap.size := hA.lt
  rw [Try.params4] at hA hval hsz
  obtain ⟨v0, vs0, d0, ds0, p0, q0, hargs, rfl, rfl, h0, r0⟩ := trodAll_cons hA
  obtain ⟨v1, vs1, d1, ds1, p1, q1, rfl, rfl, rfl, h1, r1⟩ := trodAll_cons r0
  obtain ⟨v2, vs2, d2, ds2, p2, q2, rfl, rfl, rfl, h2, r2⟩ := trodAll_cons r1
  obtain ⟨v3, vs3, d3, ds3, p3, q3, rfl, rfl, rfl, h3, r3⟩ := trodAll_cons r2
  obtain ⟨v4, vs4, d4, ds4, p4, q4, rfl, rfl, rfl, h4, r4⟩ := trodAll_cons r3
  obtain ⟨v5, vs5, d5, ds5, p5, q5, rfl, rfl, rfl, h5, r5⟩ := trodAll_cons r4
  obtain ⟨v6, vs6, d6, ds6, p6, q6, rfl, rfl, rfl, h6, r6⟩ := trodAll_cons r5
  obtain ⟨rfl, rfl, rfl⟩ := trodAll_nil r6
  obtain rfl : args = #[v0, v1, v2, v3, v4, v5, v6] := by cases args; simp_all
  obtain ⟨rfl, rfl⟩ := trodVars_none hV
  have hlt0 : ∀ x ∈ p0, x.block < W.heap.size := fun x hx => hlt x (by simp [hx])
  have hlt1 : ∀ x ∈ p1, x.block < W.heap.size := fun x hx => hlt x (by simp [hx])
  have hlt2 : ∀ x ∈ p2, x.block < W.heap.size := fun x hx => hlt x (by simp [hx])
  have hlt3 : ∀ x ∈ p3, x.block < W.heap.size := fun x hx => hlt x (by simp [hx])
  have hlt4 : ∀ x ∈ p4, x.block < W.heap.size := fun x hx => hlt x (by simp [hx])
  have hlt5 : ∀ x ∈ p5, x.block < W.heap.size := fun x hx => hlt x (by simp [hx])
  have hlt6 : ∀ x ∈ p6, x.block < W.heap.size := fun x hx => hlt x (by simp [hx])
  obtain ⟨y0, hK0, hG0⟩ := Opn.arg op_cfg hsz (j := 0) rfl rfl h0
  obtain ⟨y1, hK1, hG1⟩ := Opn.arg op_call hsz (j := 1) rfl rfl h1
  obtain ⟨y2, hK2, hG2⟩ := Opn.arg op_i64 hsz (j := 2) rfl rfl h2
  obtain ⟨y3, hK3, hG3⟩ := Opn.arg op_i64 hsz (j := 3) rfl rfl h3
  obtain ⟨y4, hK4, hG4⟩ := Opn.arg op_i64 hsz (j := 4) rfl rfl h4
  obtain ⟨y5, hK5, hG5⟩ := Opn.arg op_bill hsz (j := 5) rfl rfl h5
  obtain ⟨y6, hK6, hG6⟩ := Opn.arg op_bill hsz (j := 6) rfl rfl h6
  obtain ⟨cs0, rfl, _⟩ := okWide_struct Try.underlying23 (hval 0 _ _ rfl rfl)
  obtain ⟨a0_0, a0_1, a0_2, a0_3, a0_4⟩ := y0
  obtain ⟨_, _, e0, rfl, ⟨_, _, rfl, rfl, ⟨_, _, rfl, rfl, ⟨_, _, rfl, rfl, rfl⟩⟩⟩⟩ := hK0
  obtain rfl : cs0 = #[.int .i64 a0_0, .int .i64 a0_1, .int .i64 a0_2, .int .i64 a0_3, .int .i64 a0_4] := by obtain ⟨l⟩ := cs0; simpa [Value.cells] using e0
  obtain ⟨g0_0, g0_1, g0_2, g0_3, g0_4⟩ := hG0
  obtain ⟨cs1, rfl, _⟩ := okWide_struct Try.underlying30 (hval 1 _ _ rfl rfl)
  obtain ⟨a1_0, a1_1, a1_2, a1_3, a1_4, a1_5, a1_6⟩ := y1
  obtain ⟨_, _, e1, rfl, ⟨_, _, rfl, rfl, ⟨_, _, rfl, rfl, ⟨_, _, rfl, rfl, ⟨_, _, rfl, rfl, ⟨_, _, rfl, rfl, ⟨A1_6, c1_6, rfl, hc1_6, hr1_6⟩⟩⟩⟩⟩⟩⟩ := hK1
  obtain rfl : cs1 = #[.int .i64 a1_0, .string a1_1, .string a1_2, .int .i64 a1_3, .int .i64 a1_4, .int .i64 a1_5, .slice A1_6 a1_6.length c1_6] := by obtain ⟨l⟩ := cs1; simpa [Value.cells] using e1
  obtain ⟨g1_0, g1_1, g1_2, g1_3, g1_4, g1_5, g1_6⟩ := hG1
  obtain ⟨cs2, rfl⟩ := okWide_int Try.underlying3 (hval 2 _ _ rfl rfl)
  obtain rfl : y2 = cs2 := by have := hK2; simp [Value.cells, Kd.int, Kd.scalar] at this; exact this.symm
  obtain ⟨cs3, rfl⟩ := okWide_int Try.underlying3 (hval 3 _ _ rfl rfl)
  obtain rfl : y3 = cs3 := by have := hK3; simp [Value.cells, Kd.int, Kd.scalar] at this; exact this.symm
  obtain ⟨cs4, rfl⟩ := okWide_int Try.underlying3 (hval 4 _ _ rfl rfl)
  obtain rfl : y4 = cs4 := by have := hK4; simp [Value.cells, Kd.int, Kd.scalar] at this; exact this.symm
  obtain ⟨cs5, rfl, _⟩ := okWide_struct Try.underlying32 (hval 5 _ _ rfl rfl)
  obtain ⟨a5_0, a5_1, a5_2⟩ := y5
  obtain ⟨_, _, e5, rfl, ⟨_, _, rfl, rfl, rfl⟩⟩ := hK5
  obtain rfl : cs5 = #[.int .i64 a5_0, .int .i64 a5_1, .int .i64 a5_2] := by obtain ⟨l⟩ := cs5; simpa [Value.cells] using e5
  obtain ⟨g5_0, g5_1, g5_2⟩ := hG5
  obtain ⟨cs6, rfl, _⟩ := okWide_struct Try.underlying32 (hval 6 _ _ rfl rfl)
  obtain ⟨a6_0, a6_1, a6_2⟩ := y6
  obtain ⟨_, _, e6, rfl, ⟨_, _, rfl, rfl, rfl⟩⟩ := hK6
  obtain rfl : cs6 = #[.int .i64 a6_0, .int .i64 a6_1, .int .i64 a6_2] := by obtain ⟨l⟩ := cs6; simpa [Value.cells] using e6
  obtain ⟨g6_0, g6_1, g6_2⟩ := hG6
  clear hA0 hval0 hsz0 hsz
  obtain ⟨k, hk⟩ := PureCostForms.CostForms a0_0 a0_1 a0_2 a0_3 a0_4 a1_0 a1_1 a1_2 a1_3 a1_4 a1_5 a1_6 y2 y3 y4 a5_0 a5_1 a5_2 a6_0 a6_1 a6_2 hG4
  refine (PCostForms.potsherdlaw24_CostForms.calls k a0_0 a0_1 a0_2 a0_3 a0_4 a1_0 a1_1 a1_2 a1_3 a1_4 a1_5 A1_6 c1_6 a1_6 y2 y3 y4 a5_0 a5_1 a5_2 a6_0 a6_1 a6_2 W  hr1_6 hc1_6      hk).mono fun e W' ⟨he, bel⟩ => ?_
  subst he
  have t6 := Below.trod laidOut (by kernel_rfl) (of_decide_eq_true (by kernel_rfl)) h6 bel hlt6
  have t5 := Below.trod laidOut (by kernel_rfl) (of_decide_eq_true (by kernel_rfl)) h5 bel hlt5
  have t4 := Below.trod laidOut (by kernel_rfl) (of_decide_eq_true (by kernel_rfl)) h4 bel hlt4
  have t3 := Below.trod laidOut (by kernel_rfl) (of_decide_eq_true (by kernel_rfl)) h3 bel hlt3
  have t2 := Below.trod laidOut (by kernel_rfl) (of_decide_eq_true (by kernel_rfl)) h2 bel hlt2
  have t1 := Below.trod laidOut (by kernel_rfl) (of_decide_eq_true (by kernel_rfl)) h1 bel hlt1
  have t0 := Below.trod laidOut (by kernel_rfl) (of_decide_eq_true (by kernel_rfl)) h0 bel hlt0
  exact ⟨_, rfl, _, _, _, [], _, [], hW', trodAll_mk1 (shut_bool Try.underlying4 _), (trodAll_cons_mk t0 (trodAll_cons_mk t1 (trodAll_cons_mk t2 (trodAll_cons_mk t3 (trodAll_cons_mk t4 (trodAll_cons_mk t5 (trodAll_cons_mk t6 trodAll_mk0))))))), rfl, bel.frame _, fun h => by cases h⟩
theorem over : Rows.costFormsRow.holds Try.pinned (OpenSpec.ofChange Rows.costFormsSpec) :=
  OpenClaim.holds_of_wide 4 Try.f4 rfl rfl rfl rfl rfl rfl rfl ⟨rfl, rfl, rfl, rfl, rfl⟩ rfl rfl rfl rfl rfl (by kernel_rfl) Try.func4 (by kernel_rfl)
    (of_decide_eq_true (by kernel_rfl)) (by unfold Func.isWrapper; first | (rw [if_pos (by decide +kernel)]; kernel_rfl) | (rw [if_neg (by decide +kernel)]; exact ⟨rfl, rfl⟩))
    (fun os started H enc _ => lifted os started H enc)
theorem proved : Rows.CostFormsSaid := over
#print axioms proved
end Go.Proofs.Ytnjnmegjbcgajaa.costForms
namespace Go.Proofs.Ytnjnmegjbcgajaa
/-- The row, under a short name, for the claim. -/
theorem costForms_holds : Rows.CostFormsSaid := costForms.proved
end Go.Proofs.Ytnjnmegjbcgajaa
