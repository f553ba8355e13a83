/- The law HandForms, as printed, comes to true at every input within the reach. -/
import Derived.Test.YtnjnmegjbcgajaaHandLib
import Derived.Test.YtnjnmegjbcgajaaPHandx6
namespace Go.Proofs.Ytnjnmegjbcgajaa.PureHandForms
set_option linter.unusedVariables false
open Go.RowKit Go.Proofs.Ytnjnmegjbcgajaa.PHand Go.Proofs.YtnjnmegjbcgajaaW.PrintWords
open Go.Proofs.Ytnjnmegjbcgajaa.HandLib
open Go Go.Proofs.Ytnjnmegjbcgajaa.Plain Go.Proofs.YtnjnmegjbcgajaaW.PrintMore
theorem new_ev : Ev (fun k => potsherdref12_NewHands.f k) [-1, -1, -1, -1] := Ev.of potsherdref12_NewHands.mono (k := 10) (by decide +kernel)
theorem HandForms (h : List Int) (i n : Int) (hl : h.length ≤ 4611686018427387904) : ∃ k, potsherdlaw21_HandForms.f k h i n = some true := by
  obtain ⟨K, h⟩ : Ev (fun k => potsherdlaw21_HandForms.f k h i n) true := by
    unfold potsherdlaw21_HandForms.f
    by_cases c1 : (h.length : Int) > 60
    · simp only [if_pos c1]; exact awake_bind
    simp only [if_neg c1]
    refine (open_ev h n).bind ((ropen_ev h n hl).bind ?_)
    simp only [close_is, of_is, Option.bind_some]
    refine (rclose_ev h i hl).bind ((rof_ev h i hl).bind ((held_ev h).bind ((rheld_ev h hl).bind ?_)))
    simp only [if_true]
    have hH : (heldH h).length ≤ 12 := by
      unfold heldH; split
      · have := hstep_len h (List.replicate 12 false); rw [this]; simp
      · simp
    have hO : (openH h n).1.length ≤ 4611686018427387904 := by
      unfold openH
      by_cases a : okH h ∧ 0 ≤ n ∧ n < 12
      · rw [if_pos a]
        by_cases b : free h 0 < 0
        · rw [if_pos b]; simp
        · rw [if_neg b]; simpa using hl
      · rw [if_neg a]; simp
    have hC : (closeH h i).1.length ≤ 4611686018427387904 := by
      unfold closeH
      by_cases a : (ofH h i).2 = 0
      · rw [if_pos a]; simpa using hl
      · rw [if_neg a]; simp
    generalize heldH h = H at hH ⊢
    generalize openH h n = O at hO ⊢
    generalize closeH h i = C at hC ⊢
    generalize ofH h i = F
    refine Ev_fold (g := fun k (_ : Unit) j => potsherdlaw21_HandForms.l0 k O.1 O.2.1 O.2.2 O.1 O.2.1 O.2.2 C.1 C.2.1 C.2.2 C.1 C.2.1 C.2.2 F.1 F.2 F.1 F.2 H H (H.length : Int) j) H.length (fun _ => ()) true ?_ ?_
    · refine Ev.step (fun k => by simp only [potsherdlaw21_HandForms.l0]; rw [if_neg (by omega)]) ?_
      refine (ints_ev _ hO).bind ?_
      simp only [if_true]
      refine (ints_ev _ hC).bind ?_
      simp only [if_true]
      simp only [hand_New.f, Option.bind_some]
      refine new_ev.bind ((ints_ev _ (by simp)).bind ?_)
      simp only [if_true]
      exact awake_bind
    · intro j hj r hr
      refine Ev.step (fun k => ?_) hr
      simp only [potsherdlaw21_HandForms.l0]
      rw [if_pos (by omega), if_pos (by omega), if_pos (by omega), if_pos (by omega), if_neg (by simp), w64 (a := (j : Int) + 1) (by omega) (by omega)]
  exact ⟨K, h K (Nat.le_refl _)⟩

theorem Said : potsherdlaw21_HandForms.Pure := fun l i n _ h2 _ _ _ => HandForms l i n (by omega)
end Go.Proofs.Ytnjnmegjbcgajaa.PureHandForms
