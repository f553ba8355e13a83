/- The Go functions that these laws reach, each as a Lean function with the same answers (a law itself where it answers true), and the proof that the code comes to them; conditions: those of each theorem. Laid by a program of this session over the print. -/
import Derived.Test.YtbaiicnibiogpaaPNodex0
namespace Go.Proofs.Ytbaiicnibiogpaa.PNode
open Go.RowKit Go.Proofs.YtbaiicnibiogpaaW.PrintWords Go.Proofs.YtbaiicnibiogpaaW.PrintLast Go.Proofs.YtbaiicnibiogpaaW.PrintMore
attribute [local go_sem] max2_int min2_int max_two min_two max_three min_three max_four min_four   -- for this text's walks alone
set_option linter.unusedVariables false
set_option linter.unusedSimpArgs false

/-! ### potsherdref3_SplitPage: function 39 -/
def potsherdref3_SplitPage.f (a0 : Int) : Option (Int × Int) := if a0 < 1 then (some ((-1), (-1))) else (if a0 > 60 then (some ((-1), (-1))) else (some (wrap64 (Int.tdiv (wrap64 (a0 - 1)) 5), Int.tmod (wrap64 (a0 - 1)) 5)))
set_option maxHeartbeats 8000000 in
set_option maxRecDepth 100000 in
theorem potsherdref3_SplitPage.calls (a0 : Int) (r1 : Int) (r2 : Int) (w : World) (h : potsherdref3_SplitPage.f a0 = some (r1, r2)) :
    Calls Try.prog 39 #[.int .i64 a0] w fun e w' => e = .returned (.tuple #[.int .i64 r1, .int .i64 r2]) ∧ Drawn0 w w' := by
  have H : (if a0 < 1 then (some ((-1), (-1))) else (if a0 > 60 then (some ((-1), (-1))) else (some (wrap64 (Int.tdiv (wrap64 (a0 - 1)) 5), Int.tmod (wrap64 (a0 - 1)) 5)))) = some (r1, r2) := h
  clear h
  by_cases c2 : a0 < 1
  · rw [if_pos c2] at H
    have c2b0 : decide (a0 < 1) = true := decide_eq_true c2
    clear c2
    simp only [Option.some.injEq, Prod.mk.injEq] at H
    obtain ⟨rfl, rfl⟩ := H
    go_enter Try.func39, Try.ntmps39
    go_wp2
    go_ret2
    exact ⟨by first | rfl | (simp; done) | (simp [*]; done), by repeat (first | exact Drawn0.refl _ | apply Drawn0.step)⟩
  · rw [if_neg c2] at H
    have c2b0 : decide (a0 < 1) = false := decide_eq_false c2
    clear c2
    by_cases c3 : a0 > 60
    · rw [if_pos c3] at H
      have c3b0 : decide (60 < a0) = true := decide_eq_true c3
      clear c3
      simp only [Option.some.injEq, Prod.mk.injEq] at H
      obtain ⟨rfl, rfl⟩ := H
      go_enter Try.func39, Try.ntmps39
      go_wp2
      go_ret2
      exact ⟨by first | rfl | (simp; done) | (simp [*]; done), by repeat (first | exact Drawn0.refl _ | apply Drawn0.step)⟩
    · rw [if_neg c3] at H
      have c3b0 : decide (60 < a0) = false := decide_eq_false c3
      clear c3
      simp only [Option.some.injEq, Prod.mk.injEq] at H
      obtain ⟨rfl, rfl⟩ := H
      go_enter Try.func39, Try.ntmps39
      go_wp2
      go_ret2
      exact ⟨by first | rfl | (simp; done) | (simp [*]; done), by repeat (first | exact Drawn0.refl _ | apply Drawn0.step)⟩

end Go.Proofs.Ytbaiicnibiogpaa.PNode
