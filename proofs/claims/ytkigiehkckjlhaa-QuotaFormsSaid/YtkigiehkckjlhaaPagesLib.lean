/- How many pages a node has, as the sheet's own function tells it; within the reach. -/
import Derived.Test.YtkigiehkckjlhaaNodeLib
import Derived.Test.YtkigiehkckjlhaaPQuotax14
namespace Go.Proofs.Ytkigiehkckjlhaa.QuotaLib
set_option linter.unusedVariables false
open Go.RowKit Go.Proofs.Ytkigiehkckjlhaa.PQuota Go.Proofs.YtkigiehkckjlhaaW.PrintWords
open Go Go.Proofs.Ytkigiehkckjlhaa.Plain Go.Proofs.YtkigiehkckjlhaaW.PrintMore
theorem ref_pages_ev (t li si : Int) (q : List Int) (e : List S78) (hl : e.length ≤ 5864062014634) (hs : ∀ x ∈ e, x.f0.size ≤ 140737488351232) : Ev (fun k => potsherdref12_Pages.f k t li si q e) ((refsOf 0 t li si q e).length : Int) := by
  unfold potsherdref12_Pages.f refsOf
  have hbad : Ev (fun k => potsherdref12_Pages.j0 k 0 true t li si q e) (0 : Int) := Ev.step (f := fun _ => some 0) (fun k => by simp only [potsherdref12_Pages.j0, if_true]) (Ev.now _)
  by_cases c0 : t = 1
  · simp only [if_pos c0]
    by_cases c1 : okN t li si q e
    · refine ((ref_node_tells t li si q e hl hs).yes c1).bind ?_
      rw [if_pos ⟨c0, c1, by omega, by omega⟩]
      refine Ev.step (f := fun k => potsherdref12_Pages.l0 k 0 q (q.length : Int) 0) (fun k => by simp only [potsherdref12_Pages.j0, Bool.not_true, Bool.false_eq_true, if_false]) ?_
      have hq := (okN_len c1).1
      refine Ev_fold (g := fun k s j => potsherdref12_Pages.l0 k s q (q.length : Int) j) q.length (fun n => ((refsTo 0 q n).length : Int)) _ (Ev.step (f := fun _ => some ((refsTo 0 q q.length).length : Int)) (fun k => by simp only [potsherdref12_Pages.l0]; rw [if_neg (by omega)]) (Ev.now _)) ?_
      intro j hj r hr
      refine Ev.step (fun k => ?_) hr
      simp only [potsherdref12_Pages.l0]
      rw [if_pos (by omega), if_pos (by omega), if_pos (by omega), rdn, w64 (a := (j : Int) + 1) (by omega) (by omega)]
      by_cases z : q.getD j 0 = 0
      · rw [if_pos z, refs_skip 0 q j z]
      · have := refs_le 0 q j
        rw [if_neg z, refs_add 0 q j z, w64 (by omega) (by omega)]
        simp
    · rw [if_neg (fun x => c1 x.2.1)]
      refine ((ref_node_tells t li si q e hl hs).no c1).bind ?_
      exact hbad
  · simp only [if_neg c0]; rw [if_neg (fun x => c0 x.1)]; exact hbad
end Go.Proofs.Ytkigiehkckjlhaa.QuotaLib
