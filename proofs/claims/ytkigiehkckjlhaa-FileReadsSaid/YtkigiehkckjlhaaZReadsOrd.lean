/- Of two rows of bytes just one holds: the one is less, or the other is less or they are the same; no condition. -/
import Derived.Laws.Cover1
import Derived.Lib.SliceRun
import Derived.WalkKit
namespace Go.Proofs.Ytkigiehkckjlhaa.Ord
open Go
theorem u8_cases (a b : UInt8) : (a < b ∧ ¬ b < a ∧ a ≠ b) ∨ (¬ a < b ∧ b < a ∧ a ≠ b) ∨ (¬ a < b ∧ ¬ b < a ∧ a = b) := by
  rcases Nat.lt_trichotomy a.toNat b.toNat with h | h | h
  · left; refine ⟨UInt8.lt_iff_toNat_lt.2 h, fun x => ?_, fun x => ?_⟩
    · have := UInt8.lt_iff_toNat_lt.1 x; omega
    · subst x; omega
  · right; right; refine ⟨fun x => ?_, fun x => ?_, UInt8.toNat_inj.1 h⟩
    · have := UInt8.lt_iff_toNat_lt.1 x; omega
    · have := UInt8.lt_iff_toNat_lt.1 x; omega
  · right; left; refine ⟨fun x => ?_, UInt8.lt_iff_toNat_lt.2 h, fun x => ?_⟩
    · have := UInt8.lt_iff_toNat_lt.1 x; omega
    · subst x; omega
@[go_sem] theorem less_total : ∀ (b a : List UInt8), (Op.bytesLess b a || b == a) = !Op.bytesLess a b
  | [], [] => rfl
  | [], _ :: _ => rfl
  | _ :: _, [] => by simp [Op.bytesLess]
  | x :: b, y :: a => by
    have ih := less_total b a
    simp only [Op.bytesLess, List.cons_beq_cons]
    rcases u8_cases x y with ⟨h1, h2, h3⟩ | ⟨h1, h2, h3⟩ | ⟨h1, h2, h3⟩
    · simp [h1, h2, Ne.symm h3]
    · simp [h1, h2, h3]
    · subst h3; simp only [h1, decide_false, Bool.false_or, beq_self_eq_true, Bool.true_and]; exact ih
end Go.Proofs.Ytkigiehkckjlhaa.Ord
