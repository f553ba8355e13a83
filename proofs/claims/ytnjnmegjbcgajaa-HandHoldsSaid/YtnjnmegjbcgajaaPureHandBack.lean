/- The law HandBack, as printed, comes to true at every input within the reach. -/
import Derived.Test.YtnjnmegjbcgajaaHandLib
import Derived.Test.YtnjnmegjbcgajaaPHandx8
namespace Go.Proofs.Ytnjnmegjbcgajaa.PureHandBack
set_option linter.unusedVariables false
open Go.RowKit Go.Proofs.Ytnjnmegjbcgajaa.PHand Go.Proofs.YtnjnmegjbcgajaaW.PrintWords
open Go.Proofs.Ytnjnmegjbcgajaa.HandLib
open Go Go.Proofs.Ytnjnmegjbcgajaa.Plain Go.Proofs.YtnjnmegjbcgajaaW.PrintMore
theorem set_ok {h : List Int} (c : okH h) (i : Nat) {n : Int} (h1 : -1 ≤ n) (h2 : n < 12) : okH (h.set i n) := by
  refine ⟨by rw [List.length_set]; exact c.1, fun x hx => ?_⟩
  rcases List.mem_or_eq_of_mem_set hx with h3 | rfl
  · exact c.2 x h3
  · exact ⟨h1, h2⟩
theorem open_ok {h : List Int} {n : Int} (c : okH h) (h0 : 0 ≤ n) (h1 : n < 12) : openH h n = (if free h 0 < 0 then ([], 0, 15) else (h.set (free h 0).toNat n, free h 0, 0)) := by
  unfold openH; rw [if_pos ⟨c, h0, h1⟩]
theorem back_loop (x1 : Int) (l : List Int) (hl : l.length ≤ 30) (hend : ∀ h, okH h → Ev (fun k => potsherdlaw21_HandBack.l0 k x1 h l (l.length : Int) (l.length : Int)) true) :
    ∀ d i : Nat, i + d = l.length → ∀ h, okH h → Ev (fun k => potsherdlaw21_HandBack.l0 k x1 h l (l.length : Int) (i : Int)) true := by
  intro d
  induction d with
  | zero =>
            intro i hi h c
            have e : i = l.length := by omega
            rw [e]; exact hend h c
  | succ d ih =>
    intro i hi h c
    have hW : ∀ k, potsherdlaw21_HandBack.l0 (k + 1) x1 h l (l.length : Int) (i : Int) = _ := fun k => by
      simp only [potsherdlaw21_HandBack.l0]; rw [if_pos (by omega), if_pos (by omega), if_pos (by omega), w64 (a := (i : Int) + 1) (by omega) (by omega)]
    refine Ev.step hW ?_
    obtain ⟨n, h1, h2, h3⟩ := umod (rd l (i : Int)) 12 (by decide) (by decide)
    rw [h3]
    refine (open_ev h n).bind ?_
    have ih' := fun h c => ih (i + 1) (by omega) h c
    push_cast at ih'
    rw [open_ok c h1 h2]
    by_cases c1 : free h 0 < 0
    · rw [if_pos c1]
      simp only [show ((15 : Int) = 0) = False from by decide, if_false]
      exact ih' h c
    · rw [if_neg c1]
      simp only [if_true]
      by_cases c2 : Go.bits .and .i64 (rd l (i : Int)) 4 = 0
      · simp only [if_pos c2]; exact ih' _ (set_ok c _ (by omega) h2)
      · simp only [if_neg c2]; exact ih' h c
theorem HandBack (l : List Int) (a : Int) : ∃ k, potsherdlaw21_HandBack.f k l a = some true := by
  obtain ⟨K, h⟩ : Ev (fun k => potsherdlaw21_HandBack.f k l a) true := by
    unfold potsherdlaw21_HandBack.f
    by_cases c1 : (l.length : Int) > 30
    · simp only [if_pos c1]; exact awake_bind
    simp only [if_neg c1]
    simp only [hand_New.f, Option.bind_some]
    refine back_loop a l (by omega) ?_ l.length 0 (by omega) _ (by decide)
    intro h c
    refine Ev.step (fun k => by simp only [potsherdlaw21_HandBack.l0]; rw [if_neg (by omega)]) ?_
    obtain ⟨n, h1, h2, h3⟩ := umod a 12 (by decide) (by decide)
    rw [h3]
    refine (open_ev h n).bind ?_
    rw [open_ok c h1 h2]
    by_cases c2 : free h 0 < 0
    · rw [if_pos c2]
      simp only [show ((15 : Int) = 0) = False from by decide, if_false, if_true, List.length_nil]
      exact awake_bind
    rw [if_neg c2]
    simp only [if_true]
    obtain ⟨j, e1, e2, e3⟩ := free_range h c2
    have hl := c.1
    have c' : okH (h.set j n) := set_ok c _ (by omega) h2
    rw [e1]
    simp only [of_is, close_is, Option.bind_some, Int.toNat_natCast]
    have g1 : (h.set j n).getD j 0 = n := by rw [List.getD_eq_getElem?_getD, List.getElem?_set_self (by omega)]; rfl
    have f1 : ofH (h.set j n) (j : Int) = (n, 0) := by
      unfold ofH; rw [if_pos c', Int.toNat_natCast, g1, if_pos ⟨by omega, by omega, by omega⟩]
    have f2 : closeH (h.set j n) (j : Int) = (h, n, 0) := by
      unfold closeH; rw [f1, if_pos rfl, Int.toNat_natCast, List.set_set]
      have : h.set j (-1) = h := by
        apply List.ext_getElem?
        intro m
        rw [List.getElem?_set]
        by_cases cm : j = m
        · subst cm; rw [if_pos rfl, if_pos e2]
          rw [List.getD_eq_getElem?_getD, List.getElem?_eq_getElem e2] at e3
          rw [List.getElem?_eq_getElem e2]; exact congrArg some e3.symm
        · rw [if_neg cm]
      rw [this]
    rw [f1, f2]
    refine Ev_fold (g := fun k (_ : Unit) p => potsherdlaw21_HandBack.l1 k n h (h.set j n) (j : Int) n 0 h n 0 p) 4 (fun _ => ()) true ?_ ?_
    · refine Ev.step (fun k => by simp only [potsherdlaw21_HandBack.l1]; rw [if_neg (by decide)]) ?_
      simp only [if_true]
      refine (ints_ev _ (by omega)).bind ?_
      simp only [if_true]
      exact awake_bind
    · intro p hp r hr
      refine Ev.step (fun k => ?_) hr
      simp only [potsherdlaw21_HandBack.l1]
      rw [if_pos (by omega), of_is, of_is]
      simp only [Option.bind_some]
      rw [w64 (a := (p : Int) + 1) (by omega) (by omega)]
      by_cases c3 : (p : Int) = j
      · rw [if_pos c3]
      · have g2 : (h.set j n).getD p 0 = h.getD p 0 := by
          rw [List.getD_eq_getElem?_getD, List.getD_eq_getElem?_getD, List.getElem?_set_ne (by omega)]
        have f3 : ofH (h.set j n) (p : Int) = ofH h (p : Int) := by
          unfold ofH; rw [if_pos c', if_pos c, Int.toNat_natCast, g2]
        rw [f3, if_neg c3, if_pos rfl, if_pos rfl]
  exact ⟨K, h K (Nat.le_refl _)⟩

theorem Said : potsherdlaw21_HandBack.Pure := fun l a _ _ _ _ => HandBack l a
end Go.Proofs.Ytnjnmegjbcgajaa.PureHandBack
