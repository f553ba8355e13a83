/- The law HandFull, as printed, comes to true at every input within the reach. -/
import Derived.Test.YtnjnmegjbcgajaaHandLib
import Derived.Test.YtnjnmegjbcgajaaPHandx7
namespace Go.Proofs.Ytnjnmegjbcgajaa.PureHandFull
set_option linter.unusedVariables false
open Go.RowKit Go.Proofs.Ytnjnmegjbcgajaa.PHand Go.Proofs.YtnjnmegjbcgajaaW.PrintWords
open Go.Proofs.Ytnjnmegjbcgajaa.HandLib
open Go Go.Proofs.Ytnjnmegjbcgajaa.Plain Go.Proofs.YtnjnmegjbcgajaaW.PrintMore
theorem full_all : ∀ n : Fin 12, ∀ k : Fin 4, potsherdlaw21_HandFull.l0 30 (n.val : Int) (k.val : Int) [-1, -1, -1, -1] 0 = some true := by decide +kernel
theorem HandFull (a b : Int) : ∃ k, potsherdlaw21_HandFull.f k a b = some true := by
  obtain ⟨n, h1, h2, h3⟩ := umod a 12 (by decide) (by decide)
  obtain ⟨m, h4, h5, h6⟩ := umod b 4 (by decide) (by decide)
  refine ⟨30, ?_⟩
  unfold potsherdlaw21_HandFull.f hand_New.f
  rw [h3, h6]
  have := full_all ⟨n.toNat, by omega⟩ ⟨m.toNat, by omega⟩
  simp only [Int.toNat_of_nonneg h1, Int.toNat_of_nonneg h4] at this
  exact this

theorem Said : potsherdlaw21_HandFull.Pure := fun a b _ _ => HandFull a b
end Go.Proofs.Ytnjnmegjbcgajaa.PureHandFull
