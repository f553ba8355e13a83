/- The law NodeCopies, as printed, comes to true at every input within the reach. -/
import Derived.Test.YtbaiicnibiogpaaNodeSame
import Derived.Test.YtbaiicnibiogpaaPNodex20
import Derived.Test.YtbaiicnibiogpaaPNodex21
namespace Go.Proofs.Ytbaiicnibiogpaa.PureNodeCopies
set_option linter.unusedVariables false
open Go.RowKit Go.Proofs.Ytbaiicnibiogpaa.PNode Go.Proofs.YtbaiicnibiogpaaW.PrintWords
open Go.Proofs.Ytbaiicnibiogpaa.NodeLib
open Go Go.Proofs.Ytbaiicnibiogpaa.Plain Go.Proofs.YtbaiicnibiogpaaW.PrintMore
theorem ref_copy_is (t li si : Int) (q : List Int) (e : List S38) (hq : q.length ≤ 17592186043904) (hl : e.length ≤ 5864062014634) : potsherdref12_CopyNode.f t li si q e = some (t, li, si, q, e) := by
  unfold potsherdref12_CopyNode.f
  rw [if_pos (by simp only [List.length_nil]; omega), if_pos (by simp only [List.length_nil]; omega)]; rfl
theorem NodeCopies (a0 a1 a2 : Int) (q : List Int) (e : List S38) (c : Int) (hq : q.length ≤ 17592186043904) (hl : e.length ≤ 5864062014634) :
    ∃ k, potsherdlaw14_NodeCopies.f k a0 a1 a2 q e c = some true := by
  obtain ⟨K, h⟩ : Ev (fun k => potsherdlaw14_NodeCopies.f k a0 a1 a2 q e c) true := by
    unfold potsherdlaw14_NodeCopies.f
    obtain ⟨r, hr, _⟩ := light_ev a0 a1 a2 q e hl
    refine hr.bind ?_
    by_cases c1 : r > 0
    · simp only [if_pos c1]; exact awake_bind
    simp only [if_neg c1, copy_is a0 a1 a2 q e hq hl, ref_copy_is a0 a1 a2 q e hq hl, Option.bind_some]
    refine (same_self a0 a1 a2 q e hq hl).bind ?_
    simp only [if_true]
    refine Ev_loop (g := fun k (s : List Int) i => potsherdlaw14_NodeCopies.l0 k c (q.length : Int) i a0 a1 a2 q e a0 a1 a2 s e a0 a1 a2 q e) q.length (fun _ s => s.length = q.length) true ?_ ?_ q rfl
    · intro s hs_
      refine Ev.step (f := fun k => potsherdlaw14_NodeCopies.l1 k c (e.length : Int) 0 a0 a1 a2 q e a0 a1 a2 s e a0 a1 a2 q e) (fun k => by simp only [potsherdlaw14_NodeCopies.l0]; rw [if_neg (by omega)]) ?_
      refine Ev_loop (g := fun k (f : List S38) i => potsherdlaw14_NodeCopies.l1 k c (e.length : Int) i a0 a1 a2 q e a0 a1 a2 s f a0 a1 a2 q e) e.length (fun _ f => f.length = e.length) true ?_ ?_ e rfl
      · intro f hf
        refine Ev.step (fun k => by simp only [potsherdlaw14_NodeCopies.l1]; rw [if_neg (by omega)]) ?_
        refine (same_self a0 a1 a2 q e hq hl).bind ?_
        simp only [if_true]; exact awake_bind
      · intro i hi f hf
        refine ⟨_, ?_, fun hr => Ev.step (fun k => by simp only [potsherdlaw14_NodeCopies.l1]; rw [if_pos (by omega), if_pos (by omega), if_pos (by omega), w64 (a := (i : Int) + 1) (by omega) (by omega)]) hr⟩
        rw [List.length_set]; exact hf
    · intro i hi s hs_
      refine ⟨_, ?_, fun hr => Ev.step (fun k => by simp only [potsherdlaw14_NodeCopies.l0]; rw [if_pos (by omega), if_pos (by omega), if_pos (by omega), w64 (a := (i : Int) + 1) (by omega) (by omega)]) hr⟩
      rw [List.length_set]; exact hs_
  exact ⟨K, h K (Nat.le_refl _)⟩

end Go.Proofs.Ytbaiicnibiogpaa.PureNodeCopies
