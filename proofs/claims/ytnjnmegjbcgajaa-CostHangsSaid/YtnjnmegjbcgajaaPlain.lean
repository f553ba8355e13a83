/- Plain facts on 64-bit whole numbers that all texts of this seat use; no condition. -/
import Derived.Test.YtnjnmegjbcgajaaWMore
import Derived.Test.YtnjnmegjbcgajaaWWords
import GoSem.Claim
namespace Go.Proofs.Ytnjnmegjbcgajaa.Plain
open Go Go.RowKit Go.Proofs.YtnjnmegjbcgajaaW.PrintWords Go.Proofs.YtnjnmegjbcgajaaW.PrintMore

theorem u64w (a : Int) : IntKind.u64.wrap a = a % 18446744073709551616 := by
  simp [IntKind.wrap, IntKind.bits, IntKind.signed]
theorem umod (a m : Int) (hm : 0 < m) (hm2 : m ≤ 4611686018427387904) : ∃ p, 0 ≤ p ∧ p < m ∧ wrap64 (Int.tmod (IntKind.u64.wrap a) m) = p := by
  rw [u64w]
  have h0 : 0 ≤ a % 18446744073709551616 := Int.emod_nonneg _ (by decide)
  rw [Int.tmod_eq_emod_of_nonneg h0]
  have h1 := Int.emod_nonneg (a % 18446744073709551616) (b := m) (by omega)
  have h2 := Int.emod_lt_of_pos (a % 18446744073709551616) hm
  refine ⟨_, h1, h2, ?_⟩
  generalize a % 18446744073709551616 % m = x at *
  unfold wrap64; omega
theorem wf64 {a : Int} (h : (Lit.int .i64 a).wf = true) : -9223372036854775808 ≤ a ∧ a ≤ 9223372036854775807 := by
  simp [Lit.wf, IntKind.min, IntKind.max, IntKind.signed, IntKind.bits] at h
  omega
theorem w64 {a : Int} (h : -9223372036854775808 ≤ a) (h' : a ≤ 9223372036854775807) : wrap64 a = a := by unfold wrap64; omega
theorem tdiv16 {a : Int} (h : 0 ≤ a) : Int.tdiv a 16 = a / 16 := Int.tdiv_eq_ediv_of_nonneg h
theorem tmod16 {a : Int} (h : 0 ≤ a) : Int.tmod a 16 = a % 16 := Int.tmod_eq_emod_of_nonneg h
theorem mx_eq (a b : Int) : mx a b = if a < b then b else a := rfl
theorem mn_eq (a b : Int) : mn a b = if b < a then b else a := rfl
end Go.Proofs.Ytnjnmegjbcgajaa.Plain
