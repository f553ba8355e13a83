/- The law NodeRows, as printed, comes to true at every input within the reach. -/
import Derived.Test.YtbaiicnibiogpaaNodeLib
import Derived.Test.YtbaiicnibiogpaaPNodex25
namespace Go.Proofs.Ytbaiicnibiogpaa.PureNodeRows
set_option linter.unusedVariables false
open Go.RowKit Go.Proofs.Ytbaiicnibiogpaa.PNode Go.Proofs.YtbaiicnibiogpaaW.PrintWords
open Go.Proofs.Ytbaiicnibiogpaa.NodeLib
open Go Go.Proofs.Ytbaiicnibiogpaa.Plain Go.Proofs.YtbaiicnibiogpaaW.PrintMore
theorem NodeRows (a0 a1 a2 : Int) (q : List Int) (e : List S38) (b0 b1 b2 : Int) (q' : List Int) (e' : List S38) (c d : Int) (hl : e.length ≤ 5864062014634) (hs : ∀ x ∈ e, x.f0.size ≤ 140737488351232) (hl' : e'.length ≤ 5864062014634) (hs' : ∀ x ∈ e', x.f0.size ≤ 140737488351232) :
    ∃ k, potsherdlaw14_NodeRows.f k a0 a1 a2 q e b0 b1 b2 q' e' c d = some true := by
  obtain ⟨K, h⟩ : Ev (fun k => potsherdlaw14_NodeRows.f k a0 a1 a2 q e b0 b1 b2 q' e' c d) true := by
    unfold potsherdlaw14_NodeRows.f
    obtain ⟨r, hr, _⟩ := light_ev a0 a1 a2 q e hl
    obtain ⟨r', hr', _⟩ := light_ev b0 b1 b2 q' e' hl'
    have hbad : Ev (fun k => potsherdlaw14_NodeRows.j0 k c d true a0 a1 a2 q e b0 b1 b2 q' e') true := Ev.step (fun k => by simp only [potsherdlaw14_NodeRows.j0, if_true]) awake_bind
    refine hr.bind (hr'.bind ?_)
    by_cases c1 : wrap64 (r + r') > 0
    · simp only [if_pos c1]; exact hbad
    simp only [if_neg c1]
    by_cases n1 : okN a0 a1 a2 q e
    · refine ((ref_node_tells a0 a1 a2 q e hl hs).yes n1).bind ?_
      simp only [if_true]
      by_cases n2 : okN b0 b1 b2 q' e'
      · refine ((ref_node_tells b0 b1 b2 q' e' hl' hs').yes n2).bind ?_
        obtain ⟨p, p0, p1, pe⟩ := umod c 12 (by decide) (by decide)
        obtain ⟨p', p0', p1', pe'⟩ := umod d 12 (by decide) (by decide)
        refine Ev.step (fun k => by simp only [potsherdlaw14_NodeRows.j0, Bool.not_true, Bool.false_eq_true, if_false]; rw [pe, pe']) ?_
        refine (refs_ev p a0 a1 a2 q e hl hs).bind ((refs_ev p' b0 b1 b2 q' e' hl' hs').bind ((pages_ev a0 a1 a2 q e hl hs).bind ?_))
        rw [refsOf_len 0 p a0 a1 a2 q e (by omega) (by omega) (by omega) (by omega)]
        simp only [if_true]
        refine (pages_ev b0 b1 b2 q' e' hl' hs').bind ?_
        rw [refsOf_len 0 p' b0 b1 b2 q' e' (by omega) (by omega) (by omega) (by omega)]
        simp only [if_true]
        have z12 : refsOf 12 a0 a1 a2 q e = [] := by unfold refsOf; rw [if_neg (by omega)]
        have zm1 : refsOf (-1) a0 a1 a2 q e = [] := by unfold refsOf; rw [if_neg (by omega)]
        refine (refs_ev 12 a0 a1 a2 q e hl hs).bind ?_
        rw [z12]
        simp only [List.length_nil, Int.ofNat_zero, if_true]
        refine (refs_ev (-1) a0 a1 a2 q e hl hs).bind ?_
        rw [zm1]
        have hA := refsOf_get p a0 a1 a2 q e
        have hB := refsOf_get p' b0 b1 b2 q' e'
        have lA := refsOf_le p a0 a1 a2 q e
        have lB := refsOf_le p' b0 b1 b2 q' e'
        generalize refsOf p a0 a1 a2 q e = A at hA lA
        generalize refsOf p' b0 b1 b2 q' e' = B at hB lB
        refine Ev.step (f := fun k => potsherdlaw14_NodeRows.l0 k p p' B A (A.length : Int) 0) (fun k => by simp [potsherdlaw14_NodeRows.j1]) ?_
        refine Ev_loop (g := fun k (_ : Unit) i => potsherdlaw14_NodeRows.l0 k p p' B A (A.length : Int) i) A.length (fun _ _ => True) true ?_ ?_ () trivial
        · intro _ _
          exact Ev.step (fun k => by simp only [potsherdlaw14_NodeRows.l0]; rw [if_neg (by omega)]) awake_bind
        · intro i hi _ _
          refine ⟨(), trivial, fun hr => ?_⟩
          obtain ⟨m, m1, _, _, _, m2⟩ := hA i hi
          refine Ev.step (fun k => by simp only [potsherdlaw14_NodeRows.l0]; rw [if_pos (by omega), if_pos (by omega), if_pos (by omega)]) ?_
          refine Ev_loop (g := fun k (_ : Unit) j => potsherdlaw14_NodeRows.l1 k p p' B A (A.length : Int) i B (B.length : Int) j (rd_T48 A i).f0 (rd_T48 A i).f1) B.length (fun _ _ => True) true ?_ ?_ () trivial
          · intro _ _
            exact Ev.step (fun k => by simp only [potsherdlaw14_NodeRows.l1]; rw [if_neg (by omega), w64 (a := (i : Int) + 1) (by omega) (by omega)]) hr
          · intro j hj _ _
            refine ⟨(), trivial, fun hr => Ev.step (fun k => ?_) hr⟩
            obtain ⟨n, n1, _, _, _, n2⟩ := hB j hj
            simp only [potsherdlaw14_NodeRows.l1]
            rw [if_pos (by omega), if_pos (by omega), if_pos (by omega), w64 (a := (j : Int) + 1) (by omega) (by omega)]
            by_cases cp : p = p'
            · rw [if_pos cp]
            · rw [if_neg cp, if_neg]
              rw [rd48, rd48, m2, n2]
              show ¬ (1 + p * 5 + (m : Int)) = 1 + p' * 5 + (n : Int)
              omega
      · refine ((ref_node_tells b0 b1 b2 q' e' hl' hs').no n2).bind ?_
        exact hbad
    · refine ((ref_node_tells a0 a1 a2 q e hl hs).no n1).bind ?_
      simp only [Bool.false_eq_true, if_false]; exact hbad
  exact ⟨K, h K (Nat.le_refl _)⟩

end Go.Proofs.Ytbaiicnibiogpaa.PureNodeRows
