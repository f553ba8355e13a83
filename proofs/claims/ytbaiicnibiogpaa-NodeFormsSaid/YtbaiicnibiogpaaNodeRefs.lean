/- The refs and the pages of a node, as the sheet's own functions give them; within the reach. -/
import Derived.Test.YtbaiicnibiogpaaNodeLib
import Derived.Test.YtbaiicnibiogpaaPNodex16
import Derived.Test.YtbaiicnibiogpaaPNodex18
namespace Go.Proofs.Ytbaiicnibiogpaa.NodeLib
set_option linter.unusedVariables false
open Go.RowKit Go.Proofs.Ytbaiicnibiogpaa.PNode Go.Proofs.YtbaiicnibiogpaaW.PrintWords
open Go Go.Proofs.Ytbaiicnibiogpaa.Plain Go.Proofs.YtbaiicnibiogpaaW.PrintMore
theorem ref_refs_ev (i t li si : Int) (q : List Int) (e : List S38) (hl : e.length ≤ 5864062014634) (hs : ∀ x ∈ e, x.f0.size ≤ 140737488351232) : Ev (fun k => potsherdref12_NodeRefs.f k i t li si q e) (refsOf i t li si q e) := by
  unfold potsherdref12_NodeRefs.f refsOf
  have hbad : Ev (fun k => potsherdref12_NodeRefs.j0 k i ([] : List S48) true t li si q e) ([] : List S48) := Ev.step (f := fun _ => some []) (fun k => by simp only [potsherdref12_NodeRefs.j0, if_true]) (Ev.now _)
  by_cases c0 : t = 1
  · simp only [if_pos c0]
    by_cases c1 : okN t li si q e
    · refine ((ref_node_tells t li si q e hl hs).yes c1).bind ?_
      simp only [if_true]
      by_cases c3 : i < 0
      · simp only [if_pos c3]; rw [if_neg (by omega)]; exact hbad
      · simp only [if_neg c3]
        by_cases c2 : i ≥ 12
        · rw [if_neg (by omega), decide_eq_true c2]; exact hbad
        · rw [if_pos ⟨c0, c1, by omega, by omega⟩, decide_eq_false c2]
          refine Ev.step (f := fun k => potsherdref12_NodeRefs.l0 k i [] q (q.length : Int) 0) (fun k => by simp only [potsherdref12_NodeRefs.j0, Bool.false_eq_true, if_false]) ?_
          have hq := (okN_len c1).1
          refine Ev_fold (g := fun k s j => potsherdref12_NodeRefs.l0 k i s q (q.length : Int) j) q.length (fun n => refsTo i q n) _ (Ev.step (f := fun _ => some (refsTo i q q.length)) (fun k => by simp only [potsherdref12_NodeRefs.l0]; rw [if_neg (by omega)]) (Ev.now _)) ?_
          intro j hj r hr
          refine Ev.step (fun k => ?_) hr
          simp only [potsherdref12_NodeRefs.l0]
          rw [if_pos (by omega), if_pos (by omega), if_pos (by omega), rdn, w64 (a := (j : Int) + 1) (by omega) (by omega)]
          by_cases z : q.getD j 0 = 0
          · rw [if_pos z, refs_skip i q j z]
          · have := refs_le i q j
            rw [if_neg z]
            unfold potsherdref3_PageOf.f
            rw [if_neg (by omega), if_neg (by omega), if_neg (by omega), if_neg (by omega)]
            simp only [Option.bind_some]
            rw [if_pos (by omega), refs_add i q j z, w64 (a := i * 5) (by omega) (by omega), w64 (a := 1 + i * 5) (by omega) (by omega), w64 (a := 1 + i * 5 + (j : Int)) (by omega) (by omega)]
    · rw [if_neg (fun x => c1 x.2.1)]
      refine ((ref_node_tells t li si q e hl hs).no c1).bind ?_
      simp only [Bool.false_eq_true, if_false]; exact hbad
  · simp only [if_neg c0]; rw [if_neg (fun x => c0 x.1)]; exact hbad
theorem ref_pages_ev (t li si : Int) (q : List Int) (e : List S38) (hl : e.length ≤ 5864062014634) (hs : ∀ x ∈ e, x.f0.size ≤ 140737488351232) : Ev (fun k => potsherdref12_Pages.f k t li si q e) ((refsOf 0 t li si q e).length : Int) := by
  unfold potsherdref12_Pages.f refsOf
  have hbad : Ev (fun k => potsherdref12_Pages.j0 k 0 true t li si q e) (0 : Int) := Ev.step (f := fun _ => some 0) (fun k => by simp only [potsherdref12_Pages.j0, if_true]) (Ev.now _)
  by_cases c0 : t = 1
  · simp only [if_pos c0]
    by_cases c1 : okN t li si q e
    · refine ((ref_node_tells t li si q e hl hs).yes c1).bind ?_
      rw [if_pos ⟨c0, c1, by omega, by omega⟩]
      refine Ev.step (f := fun k => potsherdref12_Pages.l0 k 0 q (q.length : Int) 0) (fun k => by simp only [potsherdref12_Pages.j0, Bool.not_true, Bool.false_eq_true, if_false]) ?_
      have hq := (okN_len c1).1
      refine Ev_fold (g := fun k s j => potsherdref12_Pages.l0 k s q (q.length : Int) j) q.length (fun n => ((refsTo 0 q n).length : Int)) _ (Ev.step (f := fun _ => some ((refsTo 0 q q.length).length : Int)) (fun k => by simp only [potsherdref12_Pages.l0]; rw [if_neg (by omega)]) (Ev.now _)) ?_
      intro j hj r hr
      refine Ev.step (fun k => ?_) hr
      simp only [potsherdref12_Pages.l0]
      rw [if_pos (by omega), if_pos (by omega), if_pos (by omega), rdn, w64 (a := (j : Int) + 1) (by omega) (by omega)]
      by_cases z : q.getD j 0 = 0
      · rw [if_pos z, refs_skip 0 q j z]
      · have := refs_le 0 q j
        rw [if_neg z, refs_add 0 q j z, w64 (by omega) (by omega)]
        simp
    · rw [if_neg (fun x => c1 x.2.1)]
      refine ((ref_node_tells t li si q e hl hs).no c1).bind ?_
      exact hbad
  · simp only [if_neg c0]; rw [if_neg (fun x => c0 x.1)]; exact hbad
end Go.Proofs.Ytbaiicnibiogpaa.NodeLib
