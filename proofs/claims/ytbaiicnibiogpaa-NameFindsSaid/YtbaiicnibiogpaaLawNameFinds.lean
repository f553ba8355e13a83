/- The statement NameFinds as it is given, out of the law's plain proof and the proved walk; no condition. -/
import Derived.Test.YtbaiicnibiogpaaRows
import Derived.Test.YtbaiicnibiogpaaPNamex17
import Derived.Test.YtbaiicnibiogpaaPureNameFinds
import Derived.Test.YtbaiicnibiogpaaOpens
import Derived.WalkKit
import Derived.ProofKit
import Derived.OpenShut
import Derived.ShutString
import Derived.ChangeOld
import Derived.Below
import Derived.SizedLaws
import Derived.Carry
namespace Go.Proofs.Ytbaiicnibiogpaa.nameFinds
open Go.ChangeShapes Go.WideShapes Go.ChangeAt Go.RowKit Go.Proofs.Ytbaiicnibiogpaa.Opens Go.Proofs.YtbaiicnibiogpaaW.PrintWords
open Go.ChangeMaps (open_string shut_string)
set_option linter.unusedVariables false
theorem own : ownKnob Try.prog.godebug = none := by kernel_rfl
theorem laidOut : laidOutB Try.prog = true := by kernel_rfl
theorem op_i64 : Opn Try.prog 3 (Kd.int .i64) (fun z => (Lit.int .i64 z).wf = true) := op_int Try.underlying3 (by kernel_rfl)
theorem op_str : Opn Try.prog 9 Kd.string (fun s => s.size ≤ 140737488351232) := op_string Try.underlying9 (by kernel_rfl)
open Go.Proofs.Ytbaiicnibiogpaa.PName
theorem op_ent : Opn Try.prog 38 k38 (fun z => z.f0.size ≤ 140737488351232 ∧ (Lit.int .i64 z.f1).wf = true) :=
  op_struct (fun x : S38 => (x.f0, x.f1)) (fun p => ⟨p.1, p.2⟩) (fun _ => rfl) Try.underlying38 (by kernel_rfl) (opL_cons rfl (op_string Try.underlying9 (by kernel_rfl)) (opL_one rfl (op_int Try.underlying3 (by kernel_rfl))))
theorem op_ents : Opn Try.prog 26 (Kd.slice 38 k38) (fun xs => xs.length * 24 ≤ 140737488351232 ∧ ∀ x ∈ xs, (fun z => z.f0.size ≤ 140737488351232 ∧ (Lit.int .i64 z.f1).wf = true) x) := op_slice Try.underlying26 (by kernel_rfl) (by kernel_rfl) op_ent

set_option maxRecDepth 100000 in
theorem lifted (os : Os) (started : os.Started) (H : Type) (enc : TypeId × Value → H) :
    ReturnsInHanded {} Try.checked os 6 .any (Rows.nameFindsSpec.pre6 enc Try.prog Try.f6 Rows.nameFindsRow.domain false) (Rows.nameFindsSpec.post enc Try.prog Try.f6 false true false false) := by
  refine returnsInHanded_of_change_sized (C := Try.checked) own started (by kernel_rfl) Try.func6
    (ChangeSpec.witness6 (enc := enc) (C := Try.checked) false ⟨#[], #[.slice none 0 0, .string ByteArray.empty], []⟩ 8 (by kernel_rfl) (by kernel_rfl) (by kernel_rfl) (by kernel_rfl)) ?_
  intro W base args ds gs before hval0 hW hcnd hsz0 _
  have hsz : (DataW.weightsEach Try.prog (Try.f6.params.toList ++ Rows.nameFindsSpec.plain.varTypes Try.prog) (ds ++ gs)).all (· ≤ reachBytes) = true := hsz0
  have hval : ∀ (j : Nat) t v, Try.f6.params[j]? = some t → args[j]? = some v → Value.okWide Try.prog W .any base t v := hval0
  have hW' := hW
  obtain ⟨p, q, hA0, hV, rfl, hfz, hnd⟩ := hW
  have hA : DataW.TrodAll enc Try.prog W 0 (fun _ => true) true Try.f6.params.toList args.toList ds p := hA0
  have hlt : ∀ x ∈ p, x.block < W.heap.size := hA.lt
  rw [Try.params6] at hA hval hsz
  obtain ⟨v0, vs0, d0, ds0, p0, q0, hargs, rfl, rfl, h0, r0⟩ := trodAll_cons hA
  obtain ⟨v1, vs1, d1, ds1, p1, q1, rfl, rfl, rfl, h1, r1⟩ := trodAll_cons r0
  obtain ⟨rfl, rfl, rfl⟩ := trodAll_nil r1
  obtain rfl : args = #[v0, v1] := by cases args; simp_all
  obtain ⟨rfl, rfl⟩ := trodVars_none hV
  have hlt0 : ∀ x ∈ p0, x.block < W.heap.size := fun x hx => hlt x (by simp [hx])
  have hlt1 : ∀ x ∈ p1, x.block < W.heap.size := fun x hx => hlt x (by simp [hx])
  obtain ⟨y0, hK0, hG0⟩ := Opn.arg op_ents hsz (j := 0) rfl rfl h0
  obtain ⟨y1, hK1, hG1⟩ := Opn.arg op_str hsz (j := 1) rfl rfl h1
  obtain ⟨A0, n0, c0, rfl⟩ := okWide_slice Try.underlying26 (hval 0 _ _ rfl rfl)
  obtain ⟨A0_, c0_, e0, hc0, hr0⟩ := hK0
  obtain ⟨rfl, rfl, rfl⟩ : A0 = A0_ ∧ n0 = y0.length ∧ c0 = c0_ := by simpa [Value.cells] using e0
  obtain ⟨cs1, rfl⟩ := okWide_string Try.underlying9 (hval 1 _ _ rfl rfl)
  obtain rfl : y1 = cs1 := by have := hK1; simp [Value.cells, Kd.string, Kd.scalar] at this; exact this.symm
  clear hA0 hval0 hsz0 hsz
  obtain ⟨k, hk⟩ := PureNameFinds.NameFinds y0 y1 (by have h_ := hG0.1; omega) (fun x hx => (hG0.2 x hx).1)
  refine (PName.potsherdlaw13_NameFinds.calls k A0 c0 y0 y1 W hr0 hc0  hk).mono fun e W' ⟨he, bel⟩ => ?_
  subst he
  have t1 := Below.trod laidOut (by kernel_rfl) (of_decide_eq_true (by kernel_rfl)) h1 bel hlt1
  have t0 := Below.trod laidOut (by kernel_rfl) (of_decide_eq_true (by kernel_rfl)) h0 bel hlt0
  exact ⟨_, rfl, _, _, _, [], _, [], hW', trodAll_mk1 (shut_bool Try.underlying4 _), (trodAll_cons_mk t0 (trodAll_cons_mk t1 trodAll_mk0)), rfl, bel.frame _, fun h => by cases h⟩
theorem over : Rows.nameFindsRow.holds Try.pinned (OpenSpec.ofChange Rows.nameFindsSpec) :=
  OpenClaim.holds_of_wide 6 Try.f6 rfl rfl rfl rfl rfl rfl rfl ⟨rfl, rfl, rfl, rfl, rfl⟩ rfl rfl rfl rfl rfl (by kernel_rfl) Try.func6 (by kernel_rfl)
    (of_decide_eq_true (by kernel_rfl)) (by unfold Func.isWrapper; first | (rw [if_pos (by decide +kernel)]; kernel_rfl) | (rw [if_neg (by decide +kernel)]; exact ⟨rfl, rfl⟩))
    (fun os started H enc _ => lifted os started H enc)
theorem proved : Rows.NameFindsSaid := over
#print axioms proved
end Go.Proofs.Ytbaiicnibiogpaa.nameFinds
namespace Go.Proofs.Ytbaiicnibiogpaa
/-- The row, under a short name, for the claim. -/
theorem nameFinds_holds : Rows.NameFindsSaid := nameFinds.proved
end Go.Proofs.Ytbaiicnibiogpaa
