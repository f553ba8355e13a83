/- The statement CostHangs as it is given, out of the law's plain proof and the proved walk; no condition. -/
import Derived.Test.YtnjnmegjbcgajaaRows
import Derived.Test.YtnjnmegjbcgajaaPCostHangsx
import Derived.Test.YtnjnmegjbcgajaaPureCostHangs
import Derived.Test.YtnjnmegjbcgajaaOpens
import Derived.WalkKit
import Derived.ProofKit
import Derived.OpenShut
import Derived.ShutString
import Derived.ChangeOld
import Derived.Below
import Derived.SizedLaws
import Derived.Carry
namespace Go.Proofs.Ytnjnmegjbcgajaa.costHangs
open Go.ChangeShapes Go.WideShapes Go.ChangeAt Go.RowKit Go.Proofs.Ytnjnmegjbcgajaa.Opens Go.Proofs.YtnjnmegjbcgajaaW.PrintWords
open Go.ChangeMaps (open_string shut_string)
set_option linter.unusedVariables false
theorem own : ownKnob Try.prog.godebug = none := by kernel_rfl
theorem laidOut : laidOutB Try.prog = true := by kernel_rfl
theorem op_i64 : Opn Try.prog 3 (Kd.int .i64) (fun z => (Lit.int .i64 z).wf = true) := op_int Try.underlying3 (by kernel_rfl)
theorem op_u8 : Opn Try.prog 5 (Kd.int .u8) (fun z => (Lit.int .u8 z).wf = true) := op_int Try.underlying5 (by kernel_rfl)
theorem op_cfg : Opn Try.prog 23 (Kd.iso (Kd.pair (Kd.int .i64) (Kd.pair (Kd.int .i64) (Kd.pair (Kd.int .i64) (Kd.pair (Kd.int .i64) (Kd.int .i64))))) (fun x : Int × Int × Int × Int × Int => x)) (fun x => (Lit.int .i64 x.1).wf = true ∧ (Lit.int .i64 x.2.1).wf = true ∧ (Lit.int .i64 x.2.2.1).wf = true ∧ (Lit.int .i64 x.2.2.2.1).wf = true ∧ (Lit.int .i64 x.2.2.2.2).wf = true) :=
  op_struct (fun x => x) (fun x => x) (fun _ => rfl) Try.underlying23 (by kernel_rfl) (opL_cons rfl (op_int Try.underlying3 (by kernel_rfl)) (opL_cons rfl (op_int Try.underlying3 (by kernel_rfl)) (opL_cons rfl (op_int Try.underlying3 (by kernel_rfl)) (opL_cons rfl (op_int Try.underlying3 (by kernel_rfl)) (opL_one rfl (op_int Try.underlying3 (by kernel_rfl)))))))
theorem op_call : Opn Try.prog 30 (Kd.iso (Kd.pair (Kd.int .i64) (Kd.pair Kd.string (Kd.pair Kd.string (Kd.pair (Kd.int .i64) (Kd.pair (Kd.int .i64) (Kd.pair (Kd.int .i64) (Kd.slice 5 (Kd.int .u8)))))))) (fun x : Int × ByteArray × ByteArray × Int × Int × Int × List Int => x)) (fun x => (Lit.int .i64 x.1).wf = true ∧ x.2.1.size ≤ 140737488351232 ∧ x.2.2.1.size ≤ 140737488351232 ∧ (Lit.int .i64 x.2.2.2.1).wf = true ∧ (Lit.int .i64 x.2.2.2.2.1).wf = true ∧ (Lit.int .i64 x.2.2.2.2.2.1).wf = true ∧ (x.2.2.2.2.2.2.length * 1 ≤ 140737488351232 ∧ ∀ z ∈ x.2.2.2.2.2.2, (fun z => (Lit.int .u8 z).wf = true) z)) :=
  op_struct (fun x => x) (fun x => x) (fun _ => rfl) Try.underlying30 (by kernel_rfl) (opL_cons rfl (op_int Try.underlying3 (by kernel_rfl)) (opL_cons rfl (op_string Try.underlying9 (by kernel_rfl)) (opL_cons rfl (op_string Try.underlying9 (by kernel_rfl)) (opL_cons rfl (op_int Try.underlying3 (by kernel_rfl)) (opL_cons rfl (op_int Try.underlying3 (by kernel_rfl)) (opL_cons rfl (op_int Try.underlying3 (by kernel_rfl)) (opL_one rfl (op_slice Try.underlying28 (by kernel_rfl) (by kernel_rfl) op_u8))))))))
theorem op_bill : Opn Try.prog 32 (Kd.iso (Kd.pair (Kd.int .i64) (Kd.pair (Kd.int .i64) (Kd.int .i64))) (fun x : Int × Int × Int => x)) (fun x => (Lit.int .i64 x.1).wf = true ∧ (Lit.int .i64 x.2.1).wf = true ∧ (Lit.int .i64 x.2.2).wf = true) :=
  op_struct (fun x => x) (fun x => x) (fun _ => rfl) Try.underlying32 (by kernel_rfl) (opL_cons rfl (op_int Try.underlying3 (by kernel_rfl)) (opL_cons rfl (op_int Try.underlying3 (by kernel_rfl)) (opL_one rfl (op_int Try.underlying3 (by kernel_rfl)))))

set_option maxRecDepth 100000 in
theorem lifted (os : Os) (started : os.Started) (H : Type) (enc : TypeId × Value → H) :
    ReturnsInHanded {} Try.checked os 6 .any (Rows.costHangsSpec.pre6 enc Try.prog Try.f6 Rows.costHangsRow.domain false) (Rows.costHangsSpec.post enc Try.prog Try.f6 false true false false) := by
  refine returnsInHanded_of_change_sized (C := Try.checked) own started (by kernel_rfl) Try.func6
    (ChangeSpec.witness6 (enc := enc) (C := Try.checked) false ⟨#[], #[.agg #[.int .i64 0, .int .i64 0, .int .i64 0, .int .i64 0, .int .i64 0], .agg #[.int .i64 0, .int .i64 0, .int .i64 0, .int .i64 0, .int .i64 0], .agg #[.int .i64 0, .string ByteArray.empty, .string ByteArray.empty, .int .i64 0, .int .i64 0, .int .i64 0, .slice none 0 0], .int .i64 0], []⟩ 8 (by kernel_rfl) (by kernel_rfl) (by kernel_rfl) (by kernel_rfl)) ?_
  intro W base args ds gs before hval0 hW hcnd hsz0 _
  have hsz : (DataW.weightsEach Try.prog (Try.f6.params.toList ++ Rows.costHangsSpec.plain.varTypes Try.prog) (ds ++ gs)).all (· ≤ reachBytes) = true := hsz0
  have hval : ∀ (j : Nat) t v, Try.f6.params[j]? = some t → args[j]? = some v → Value.okWide Try.prog W .any base t v := hval0
  have hW' := hW
  obtain ⟨p, q, hA0, hV, rfl, hfz, hnd⟩ := hW
  have hA : DataW.TrodAll enc Try.prog W 0 (fun _ => true) true Try.f6.params.toList args.toList ds p := hA0
  have hlt : ∀ x ∈ p, x.block < W.heap.size := hA.lt
  rw [Try.params6] at hA hval hsz
  obtain ⟨v0, vs0, d0, ds0, p0, q0, hargs, rfl, rfl, h0, r0⟩ := trodAll_cons hA
  obtain ⟨v1, vs1, d1, ds1, p1, q1, rfl, rfl, rfl, h1, r1⟩ := trodAll_cons r0
  obtain ⟨v2, vs2, d2, ds2, p2, q2, rfl, rfl, rfl, h2, r2⟩ := trodAll_cons r1
  obtain ⟨v3, vs3, d3, ds3, p3, q3, rfl, rfl, rfl, h3, r3⟩ := trodAll_cons r2
  obtain ⟨rfl, rfl, rfl⟩ := trodAll_nil r3
  obtain rfl : args = #[v0, v1, v2, v3] := by cases args; simp_all
  obtain ⟨rfl, rfl⟩ := trodVars_none hV
  have hlt0 : ∀ x ∈ p0, x.block < W.heap.size := fun x hx => hlt x (by simp [hx])
  have hlt1 : ∀ x ∈ p1, x.block < W.heap.size := fun x hx => hlt x (by simp [hx])
  have hlt2 : ∀ x ∈ p2, x.block < W.heap.size := fun x hx => hlt x (by simp [hx])
  have hlt3 : ∀ x ∈ p3, x.block < W.heap.size := fun x hx => hlt x (by simp [hx])
  obtain ⟨y0, hK0, hG0⟩ := Opn.arg op_cfg hsz (j := 0) rfl rfl h0
  obtain ⟨y1, hK1, hG1⟩ := Opn.arg op_cfg hsz (j := 1) rfl rfl h1
  obtain ⟨y2, hK2, hG2⟩ := Opn.arg op_call hsz (j := 2) rfl rfl h2
  obtain ⟨y3, hK3, hG3⟩ := Opn.arg op_i64 hsz (j := 3) rfl rfl h3
  obtain ⟨cs0, rfl, _⟩ := okWide_struct Try.underlying23 (hval 0 _ _ rfl rfl)
  obtain ⟨a0_0, a0_1, a0_2, a0_3, a0_4⟩ := y0
  obtain ⟨_, _, e0, rfl, ⟨_, _, rfl, rfl, ⟨_, _, rfl, rfl, ⟨_, _, rfl, rfl, rfl⟩⟩⟩⟩ := hK0
  obtain rfl : cs0 = #[.int .i64 a0_0, .int .i64 a0_1, .int .i64 a0_2, .int .i64 a0_3, .int .i64 a0_4] := by obtain ⟨l⟩ := cs0; simpa [Value.cells] using e0
  obtain ⟨g0_0, g0_1, g0_2, g0_3, g0_4⟩ := hG0
  obtain ⟨cs1, rfl, _⟩ := okWide_struct Try.underlying23 (hval 1 _ _ rfl rfl)
  obtain ⟨a1_0, a1_1, a1_2, a1_3, a1_4⟩ := y1
  obtain ⟨_, _, e1, rfl, ⟨_, _, rfl, rfl, ⟨_, _, rfl, rfl, ⟨_, _, rfl, rfl, rfl⟩⟩⟩⟩ := hK1
  obtain rfl : cs1 = #[.int .i64 a1_0, .int .i64 a1_1, .int .i64 a1_2, .int .i64 a1_3, .int .i64 a1_4] := by obtain ⟨l⟩ := cs1; simpa [Value.cells] using e1
  obtain ⟨g1_0, g1_1, g1_2, g1_3, g1_4⟩ := hG1
  obtain ⟨cs2, rfl, _⟩ := okWide_struct Try.underlying30 (hval 2 _ _ rfl rfl)
  obtain ⟨a2_0, a2_1, a2_2, a2_3, a2_4, a2_5, a2_6⟩ := y2
  obtain ⟨_, _, e2, rfl, ⟨_, _, rfl, rfl, ⟨_, _, rfl, rfl, ⟨_, _, rfl, rfl, ⟨_, _, rfl, rfl, ⟨_, _, rfl, rfl, ⟨A2_6, c2_6, rfl, hc2_6, hr2_6⟩⟩⟩⟩⟩⟩⟩ := hK2
  obtain rfl : cs2 = #[.int .i64 a2_0, .string a2_1, .string a2_2, .int .i64 a2_3, .int .i64 a2_4, .int .i64 a2_5, .slice A2_6 a2_6.length c2_6] := by obtain ⟨l⟩ := cs2; simpa [Value.cells] using e2
  obtain ⟨g2_0, g2_1, g2_2, g2_3, g2_4, g2_5, g2_6⟩ := hG2
  obtain ⟨cs3, rfl⟩ := okWide_int Try.underlying3 (hval 3 _ _ rfl rfl)
  obtain rfl : y3 = cs3 := by have := hK3; simp [Value.cells, Kd.int, Kd.scalar] at this; exact this.symm
  clear hA0 hval0 hsz0 hsz
  obtain ⟨k, hk⟩ := PureCostHangs.CostHangs a0_0 a0_1 a0_2 a0_3 a0_4 a1_0 a1_1 a1_2 a1_3 a1_4 a2_0 a2_1 a2_2 a2_3 a2_4 a2_5 a2_6 y3 
  refine (PCostHangs.potsherdlaw24_CostHangs.calls k a0_0 a0_1 a0_2 a0_3 a0_4 a1_0 a1_1 a1_2 a1_3 a1_4 a2_0 a2_1 a2_2 a2_3 a2_4 a2_5 A2_6 c2_6 a2_6 y3 W   hr2_6 hc2_6  hk).mono fun e W' ⟨he, bel⟩ => ?_
  subst he
  have t3 := Below.trod laidOut (by kernel_rfl) (of_decide_eq_true (by kernel_rfl)) h3 bel hlt3
  have t2 := Below.trod laidOut (by kernel_rfl) (of_decide_eq_true (by kernel_rfl)) h2 bel hlt2
  have t1 := Below.trod laidOut (by kernel_rfl) (of_decide_eq_true (by kernel_rfl)) h1 bel hlt1
  have t0 := Below.trod laidOut (by kernel_rfl) (of_decide_eq_true (by kernel_rfl)) h0 bel hlt0
  exact ⟨_, rfl, _, _, _, [], _, [], hW', trodAll_mk1 (shut_bool Try.underlying4 _), (trodAll_cons_mk t0 (trodAll_cons_mk t1 (trodAll_cons_mk t2 (trodAll_cons_mk t3 trodAll_mk0)))), rfl, bel.frame _, fun h => by cases h⟩
theorem over : Rows.costHangsRow.holds Try.pinned (OpenSpec.ofChange Rows.costHangsSpec) :=
  OpenClaim.holds_of_wide 6 Try.f6 rfl rfl rfl rfl rfl rfl rfl ⟨rfl, rfl, rfl, rfl, rfl⟩ rfl rfl rfl rfl rfl (by kernel_rfl) Try.func6 (by kernel_rfl)
    (of_decide_eq_true (by kernel_rfl)) (by unfold Func.isWrapper; first | (rw [if_pos (by decide +kernel)]; kernel_rfl) | (rw [if_neg (by decide +kernel)]; exact ⟨rfl, rfl⟩))
    (fun os started H enc _ => lifted os started H enc)
theorem proved : Rows.CostHangsSaid := over
#print axioms proved
end Go.Proofs.Ytnjnmegjbcgajaa.costHangs
namespace Go.Proofs.Ytnjnmegjbcgajaa
/-- The row, under a short name, for the claim. -/
theorem costHangs_holds : Rows.CostHangsSaid := costHangs.proved
end Go.Proofs.Ytnjnmegjbcgajaa
