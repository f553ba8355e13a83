/- The law QuotaForms, as printed, comes to true at every input within the reach. -/
import Derived.Test.YtkigiehkckjlhaaLightLib
import Derived.Test.YtkigiehkckjlhaaPQuotax17
namespace Go.Proofs.Ytkigiehkckjlhaa.PureQuotaForms
set_option linter.unusedVariables false
open Go.RowKit Go.Proofs.Ytkigiehkckjlhaa.PQuota Go.Proofs.YtkigiehkckjlhaaW.PrintWords
open Go.Proofs.Ytkigiehkckjlhaa.QuotaLib
open Go Go.Proofs.Ytkigiehkckjlhaa.Plain Go.Proofs.YtkigiehkckjlhaaW.PrintMore
theorem QuotaForms (l : List S28) (t li si : Int) (q : List Int) (e : List S78) (d a n : Int) (hd : -9223372036854775808 ≤ d ∧ d ≤ 9223372036854775807) (ha : -9223372036854775808 ≤ a ∧ a ≤ 9223372036854775807)
    (hl : l.length ≤ 4611686018427387904) (hr : ∀ x ∈ l, reach x) (he : e.length ≤ 5864062014634) (hs : ∀ x ∈ e, x.f0.size ≤ 140737488351232) : ∃ k, potsherdlaw18_QuotaForms.f k l t li si q e d a n = some true := by
  obtain ⟨K, h⟩ : Ev (fun k => potsherdlaw18_QuotaForms.f k l t li si q e d a n) true := by
    unfold potsherdlaw18_QuotaForms.f
    obtain ⟨r, h1, h2⟩ := light15_ev l hl hr
    obtain ⟨r', h3, h4⟩ := light_ev t li si q e he
    refine h1.bind (h3.bind ?_)
    by_cases c : wrap64 (r + r') > 0
    · simp only [if_pos c]; exact awake_bind
    simp only [if_neg c]
    refine (used_ev l hr).bind ((rused_ev l hl hr).bind ?_)
    simp only [if_true]
    refine (left_ev l d hd hr).bind ((rleft_ev l d hd hl hr).bind ?_)
    simp only [if_true]
    refine (nodes_ev l hr).bind ((rnodes_ev l hl hr).bind ?_)
    simp only [if_true]
    refine (more_ev t li si q e a n ha he hs).bind ((rmore_ev t li si q e a n ha he hs).bind ?_)
    simp only [if_true]
    exact awake_bind
  exact ⟨K, h K (Nat.le_refl _)⟩

end Go.Proofs.Ytkigiehkckjlhaa.PureQuotaForms
