/- The law NodeForms, as printed, comes to true at every input within the reach. -/
import Derived.Test.YtbaiicnibiogpaaNodeSame
import Derived.Test.YtbaiicnibiogpaaNodeRefs
import Derived.Test.YtbaiicnibiogpaaPNodex19
namespace Go.Proofs.Ytbaiicnibiogpaa.PureNodeForms
set_option linter.unusedVariables false
open Go.RowKit Go.Proofs.Ytbaiicnibiogpaa.PNode Go.Proofs.YtbaiicnibiogpaaW.PrintWords
open Go.Proofs.Ytbaiicnibiogpaa.NodeLib
open Go Go.Proofs.Ytbaiicnibiogpaa.Plain Go.Proofs.YtbaiicnibiogpaaW.PrintMore
theorem NodeForms (a0 a1 a2 : Int) (q : List Int) (e : List S38) (b0 b1 b2 : Int) (q' : List Int) (e' : List S38) (c d : Int) (hq : q.length ≤ 17592186043904) (hl : e.length ≤ 5864062014634) (hs : ∀ x ∈ e, x.f0.size ≤ 140737488351232) (hl' : e'.length ≤ 5864062014634) :
    ∃ k, potsherdlaw14_NodeForms.f k a0 a1 a2 q e b0 b1 b2 q' e' c d = some true := by
  obtain ⟨K, h⟩ : Ev (fun k => potsherdlaw14_NodeForms.f k a0 a1 a2 q e b0 b1 b2 q' e' c d) true := by
    unfold potsherdlaw14_NodeForms.f
    obtain ⟨r, hr, _⟩ := light_ev a0 a1 a2 q e hl
    obtain ⟨r', hr', _⟩ := light_ev b0 b1 b2 q' e' hl'
    refine hr.bind (hr'.bind ?_)
    by_cases c1 : wrap64 (r + r') > 0
    · simp only [if_pos c1]; exact awake_bind
    simp only [if_neg c1]
    refine (refs_ev d a0 a1 a2 q e hl hs).bind ((ref_refs_ev d a0 a1 a2 q e hl hs).bind ?_)
    simp only [if_true]
    have hR := refsOf_le d a0 a1 a2 q e
    generalize refsOf d a0 a1 a2 q e = R at hR
    refine Ev_loop (g := fun k (_ : Unit) i => potsherdlaw14_NodeForms.l0 k c R R (R.length : Int) i a0 a1 a2 q e b0 b1 b2 q' e') R.length (fun _ _ => True) true ?_ ?_ () trivial
    · intro _ _
      refine Ev.step (fun k => by simp only [potsherdlaw14_NodeForms.l0]; rw [if_neg (by omega)]) ?_
      obtain ⟨x, hx, hx'⟩ := node_tells a0 a1 a2 q e hl hs
      obtain ⟨y, hy, hy'⟩ := ref_node_tells a0 a1 a2 q e hl hs
      have hxy : x = y := Bool.eq_iff_iff.2 (hx'.trans hy'.symm)
      subst hxy
      refine hx.bind (hy.bind ?_)
      simp only [beq_self_eq_true, if_true]
      obtain ⟨z, hz, _⟩ := same_tells a0 a1 a2 q e b0 b1 b2 q' e' hq hl
      refine hz.bind ((Ev.congr (fun k => nodes_same k _ _ _ _ _ _ _ _ _ _) hz).bind ?_)
      simp only [beq_self_eq_true, if_true]
      obtain ⟨t, li, si, p, f, h1, h2, h3, h4⟩ := empty_is c
      simp only [h1, h2, Option.bind_some]
      refine (same_self t li si p f (by omega) (by omega)).bind ?_
      simp only [if_true]
      refine (pages_ev a0 a1 a2 q e hl hs).bind ((ref_pages_ev a0 a1 a2 q e hl hs).bind ?_)
      simp only [if_true]
      exact awake_bind
    · intro i hi _ _
      refine ⟨(), trivial, fun hr => Ev.step (fun k => ?_) hr⟩
      simp only [potsherdlaw14_NodeForms.l0]
      rw [if_pos (by omega), if_pos (by omega), if_pos (by omega), if_pos (by omega), if_neg (by simp), w64 (a := (i : Int) + 1) (by omega) (by omega)]
  exact ⟨K, h K (Nat.le_refl _)⟩

end Go.Proofs.Ytbaiicnibiogpaa.PureNodeForms
