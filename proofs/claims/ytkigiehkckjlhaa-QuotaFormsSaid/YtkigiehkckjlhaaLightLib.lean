/- A tree that can be gone through; within the reach. -/
import Derived.Test.YtkigiehkckjlhaaQuotaLib
import Derived.Test.YtkigiehkckjlhaaMoreLib
namespace Go.Proofs.Ytkigiehkckjlhaa.QuotaLib
set_option linter.unusedVariables false
open Go.RowKit Go.Proofs.Ytkigiehkckjlhaa.PQuota Go.Proofs.YtkigiehkckjlhaaW.PrintWords
open Go Go.Proofs.Ytkigiehkckjlhaa.Plain Go.Proofs.YtkigiehkckjlhaaW.PrintMore
theorem light15_ev (l : List S28) (hl : l.length ≤ 4611686018427387904) (hr : ∀ x ∈ l, reach x) : ∃ r, Ev (fun k => potsherdlaw15_Light.f k l) r ∧ 0 ≤ r ∧ r ≤ 40 := by
  unfold potsherdlaw15_Light.f
  by_cases c : (l.length : Int) > 40
  · simp only [if_pos c]; exact ⟨1, Ev.now _, by omega, by omega⟩
  simp only [if_neg c]
  have key : ∀ d i : Nat, i + d = l.length → ∀ s : Int, 0 ≤ s → s ≤ i → ∃ r, Ev (fun k => potsherdlaw15_Light.l0 k s l (l.length : Int) (i : Int)) r ∧ 0 ≤ r ∧ r ≤ 40 := by
    intro d
    induction d with
    | zero =>
      intro i hi s h0 h1
      refine ⟨s, Ev.step (f := fun _ => some s) (fun k => ?_) (Ev.now _), h0, by omega⟩
      simp only [potsherdlaw15_Light.l0]; rw [if_neg (by omega)]
    | succ d ih =>
      intro i hi s h0 h1
      have hx := hr _ (getD_mem l (i := i) (by omega))
      obtain ⟨r, hr1, hr2⟩ := light_ev (l.getD i z28).f0 (l.getD i z28).f1 (l.getD i z28).f2 (l.getD i z28).f3 (l.getD i z28).f4 hx.1
      obtain ⟨r', h2, h3⟩ := ih (i + 1) (by omega) (s + r) (by omega) (by push_cast; omega)
      refine ⟨r', Ev.step (fun k => by simp only [potsherdlaw15_Light.l0]; rw [if_pos (by omega), if_pos (by omega), if_pos (by omega), rd28, w64 (a := (i : Int) + 1) (by omega) (by omega)]) (hr1.bind ?_), h3⟩
      rw [w64 (by omega) (by omega)]
      push_cast at h2
      exact h2
  exact key l.length 0 (by omega) 0 (by omega) (by omega)
end Go.Proofs.Ytkigiehkckjlhaa.QuotaLib
