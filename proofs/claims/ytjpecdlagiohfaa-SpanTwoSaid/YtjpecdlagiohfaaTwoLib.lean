/- Pieces lie side by side; eighty numbers in an array variable; conditions: those of each theorem. -/
import Derived.Test.YtjpecdlagiohfaaPTwox2
import Derived.Deep.MidRow
import Derived.WalkKit
namespace Go.Proofs.Ytjpecdlagiohfaa.PTwo
set_option linter.unusedVariables false
open Go.RowKit Go.Proofs.YtjpecdlagiohfaaW.PrintWords Go.Proofs.YtjpecdlagiohfaaW.PrintLast Go.Proofs.YtjpecdlagiohfaaW.PrintMore
theorem u64w (a : Int) : IntKind.u64.wrap a = a % 18446744073709551616 := by
  simp [IntKind.wrap, IntKind.bits, IntKind.signed]
theorem umodN (a m : Int) (hm : 0 < m) (hm2 : m ≤ 4611686018427387904) : ∃ p : Nat, (p : Int) < m ∧ wrap64 (Int.tmod (IntKind.u64.wrap a) m) = p := by
  rw [u64w]
  have h0 : 0 ≤ a % 18446744073709551616 := Int.emod_nonneg _ (by decide)
  rw [Int.tmod_eq_emod_of_nonneg h0]
  have h1 := Int.emod_nonneg (a % 18446744073709551616) (b := m) (by omega)
  have h2 := Int.emod_lt_of_pos (a % 18446744073709551616) hm
  refine ⟨(a % 18446744073709551616 % m).toNat, by omega, ?_⟩
  generalize a % 18446744073709551616 % m = x at *
  unfold wrap64; omega
theorem w64 {a : Int} (h : -9223372036854775808 ≤ a) (h' : a ≤ 9223372036854775807) : wrap64 a = a := by unfold wrap64; omega
/-- Pieces that lie side by side from a place on, and have so many bytes. -/
def tiles : List S25 → Int → Int → Bool
  | [], _, n => n == 0
  | p :: r, a, n => decide (0 < p.f2 ∧ p.f2 ≤ n ∧ p.f0 * 16 + p.f1 = a ∧ 0 ≤ p.f0 ∧ p.f0 < 5 ∧ 0 ≤ p.f1 ∧ p.f1 + p.f2 ≤ 16) && tiles r (a + p.f2) (n - p.f2)
theorem pcs_all : ∀ a : Fin 81, ∀ n : Fin 81, a.val + n.val ≤ 80 → (match span_Pieces.f 20 (a.val : Int) (n.val : Int) with | some l => tiles l (a.val : Int) (n.val : Int) | none => false) = true := by decide +kernel
theorem pcs_is (a n : Nat) (h : a + n ≤ 80) : ∃ l, span_Pieces.f 20 (a : Int) (n : Int) = some l ∧ tiles l a n = true := by
  have h1 := pcs_all ⟨a, by omega⟩ ⟨n, by omega⟩ h
  simp only [] at h1
  cases hq : span_Pieces.f 20 (a : Int) (n : Int) with
  | none => rw [hq] at h1; cases h1
  | some l => rw [hq] at h1; exact ⟨l, rfl, h1⟩
theorem fits_is (a b : Nat) : span_Fits.f (a : Int) (b : Int) = some (decide (a + b ≤ 80)) := by
  unfold span_Fits.f
  rw [if_pos (by omega)]
  by_cases h2 : (a : Int) ≤ 80
  · rw [if_pos h2, if_pos (by omega), w64 (by omega) (by omega)]
    congr 1; rw [decide_eq_decide]; omega
  · rw [if_neg h2, decide_eq_false (by omega)]
/-- Eighty numbers, 1 from one place to another, 0 else. -/
def ones (lo hi i : Nat) : Int := if lo ≤ i ∧ i < hi then 1 else 0
def ind (lo hi : Nat) : Array Value := ((List.range 80).map fun i => Value.int .i64 (ones lo hi i)).toArray
theorem ind_zero (a : Nat) : ind a a = (List.replicate 80 (Value.int .i64 0)).toArray := by
  unfold ind
  congr 1
  apply List.ext_getElem?
  intro i
  rw [List.getElem?_map, List.getElem?_replicate]
  by_cases h : i < 80
  · rw [List.getElem?_range h, if_pos h]; simp only [Option.map_some, ones]; rw [if_neg (by omega)]
  · rw [List.getElem?_eq_none (by simpa using Nat.le_of_not_lt h), if_neg h]; rfl
theorem ind_get (lo hi i : Nat) (h : i < 80) : (ind lo hi)[i]? = some (.int .i64 (ones lo hi i)) := by
  unfold ind
  rw [List.getElem?_toArray, List.getElem?_map, List.getElem?_range h]; rfl
theorem ind_set (lo hi : Nat) (h : lo ≤ hi) (h2 : hi < 80) : (ind lo hi).setIfInBounds hi (.int .i64 1) = ind lo (hi + 1) := by
  unfold ind
  rw [List.setIfInBounds_toArray]
  congr 1
  apply List.ext_getElem?
  intro i
  rw [List.getElem?_set, List.getElem?_map, List.getElem?_map]
  by_cases hi' : i < 80
  · rw [List.getElem?_range hi']
    by_cases c : hi = i
    · subst c; rw [if_pos rfl, if_pos (by simpa using h2)]; simp only [Option.map_some, ones]; rw [if_pos (by omega)]
    · rw [if_neg c]; simp only [Option.map_some, ones]
      congr 2
      by_cases d : lo ≤ i ∧ i < hi
      · rw [if_pos d, if_pos (by omega)]
      · rw [if_neg d, if_neg (by omega)]
  · rw [if_neg (by omega), List.getElem?_eq_none (by simpa using Nat.le_of_not_lt hi')]; rfl
theorem ind_at {w : World} {g lo hi : Nat} (h : w.heap[g]? = some (.cells (ind lo hi) 32 (0, 0))) (i : Nat) (hi' : i < 80) : w.cell? ⟨g, i, none⟩ = some (.int .i64 (ones lo hi i)) := by
  rw [blk_cell h i, ind_get lo hi i hi']
theorem ind_range {w : World} {g lo hi : Nat} (h : w.heap[g]? = some (.cells (ind lo hi) 32 (0, 0))) : w.rangeAt g 0 (ind lo hi).toList := by
  intro j v hv
  rw [Nat.zero_add, blk_cell h j]
  rw [Array.getElem?_toList] at hv; exact hv
theorem ix_arr (lo hi i : Nat) (h : i < 80) (w : World) : (Instr.index 32 (.agg (ind lo hi)) (.int .i64 (i : Int))).run Try.prog w = .ok (.int .i64 (ones lo hi i)) w := by
  have h1 : (0 : Int) ≤ i ∧ (i : Int) < 80 := by omega
  have hg := ind_get lo hi i h
  simp [Instr.index, run_underlying Try.underlying32, asIntOf, h1, go_sem]
  rw [if_pos h, hg]; rfl
theorem ix_two0 (v1 v2 : Value) (w : World) : (Instr.index 33 (.agg #[v1, v2]) (.int .i64 0)).run Try.prog w = .ok v1 w := by
  simp [Instr.index, run_underlying Try.underlying33, asIntOf, go_sem]
theorem ix_two1 (v1 v2 : Value) (w : World) : (Instr.index 33 (.agg #[v1, v2]) (.int .i64 1)).run Try.prog w = .ok v2 w := by
  simp [Instr.index, run_underlying Try.underlying33, asIntOf, go_sem]
theorem zero32 : (Try.prog.info? 32).bind (·.zero) = some (.agg (List.replicate 80 (Value.int .i64 0)).toArray) := by kernel_rfl
theorem size32 : (Try.prog.info? 32).map (·.size) = some 80 := by kernel_rfl
theorem zeroV32 (W : World) : (zeroValue 32).run Try.prog W = .ok (.agg (List.replicate 80 (Value.int .i64 0)).toArray) W := by
  have h := zero32
  cases hq : Try.prog.info? 32 with
  | none => rw [hq] at h; cases h
  | some i =>
    rw [hq] at h
    have h : i.zero = some (.agg (List.replicate 80 (Value.int .i64 0)).toArray) := h
    generalize (List.replicate 80 (Value.int .i64 0)).toArray = Z at h ⊢
    simp [zeroValue, typeInfo, hq, h, go_sem]
theorem exec32 (ev : Operand → Value) (W : World) (o : Oper) (ho : o.op = Op.alloc 32) : (execOp ev o).run Try.prog W = .ok (.value (.pointer (some ⟨W.heap.size, 0, none⟩))) (W.alloc (.cells (List.replicate 80 (Value.int .i64 0)).toArray 32 (0, 0))) := by
  have h := zeroV32 W
  generalize (List.replicate 80 (Value.int .i64 0)).toArray = Z at h ⊢
  unfold execOp
  rw [ho]
  simp [Instr.alloc, h, go_sem]

theorem ind_len (lo hi : Nat) : (ind lo hi).toList.length = 80 := by simp [ind]
theorem wsucc (k : Nat) (h : k < 9223372036854775807) : Value.int .i64 (wrap64 ((k : Int) + 1)) = Value.int .i64 ((k + 1 : Nat) : Int) := by
  rw [w64 (by omega) (by omega)]; push_cast; rfl
end Go.Proofs.Ytjpecdlagiohfaa.PTwo
