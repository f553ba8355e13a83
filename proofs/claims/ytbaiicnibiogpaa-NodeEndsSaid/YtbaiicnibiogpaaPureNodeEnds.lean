/- The law NodeEnds, as printed, comes to true at every input within the reach. -/
import Derived.Test.YtbaiicnibiogpaaNodeLib
import Derived.Test.YtbaiicnibiogpaaPNodex22
import Derived.Test.YtbaiicnibiogpaaPNodex23
namespace Go.Proofs.Ytbaiicnibiogpaa.PureNodeEnds
set_option linter.unusedVariables false
open Go.RowKit Go.Proofs.Ytbaiicnibiogpaa.PNode Go.Proofs.YtbaiicnibiogpaaW.PrintWords
open Go.Proofs.Ytbaiicnibiogpaa.NodeLib
open Go Go.Proofs.Ytbaiicnibiogpaa.Plain Go.Proofs.YtbaiicnibiogpaaW.PrintMore
theorem split_is (p : Int) (m : Nat) (h0 : 0 ≤ p) (h1 : p ≤ 11) (hm : m < 5) : potsherdref3_SplitPage.f (1 + p * 5 + (m : Int)) = some (p, (m : Int)) := by
  unfold potsherdref3_SplitPage.f
  rw [if_neg (by omega), if_neg (by omega), w64 (a := 1 + p * 5 + (m : Int) - 1) (by omega) (by omega), Int.tdiv_eq_ediv_of_nonneg (by omega), Int.tmod_eq_emod_of_nonneg (by omega), w64 (by omega) (by omega)]
  have e1 : (1 + p * 5 + (m : Int) - 1) / 5 = p := by omega
  have e2 : (1 + p * 5 + (m : Int) - 1) % 5 = (m : Int) := by omega
  rw [e1, e2]
theorem NodeEnds (a0 a1 a2 : Int) (q : List Int) (e : List S38) (c : Int) (hq : q.length ≤ 17592186043904) (hl : e.length ≤ 5864062014634) (hs : ∀ x ∈ e, x.f0.size ≤ 140737488351232) :
    ∃ k, potsherdlaw14_NodeEnds.f k a0 a1 a2 q e c = some true := by
  obtain ⟨K, h⟩ : Ev (fun k => potsherdlaw14_NodeEnds.f k a0 a1 a2 q e c) true := by
    unfold potsherdlaw14_NodeEnds.f
    obtain ⟨r, hr, _⟩ := light_ev a0 a1 a2 q e hl
    have hbad : Ev (fun k => potsherdlaw14_NodeEnds.j0 k c true a0 a1 a2 q e) true := Ev.step (fun k => by simp only [potsherdlaw14_NodeEnds.j0, if_true]) awake_bind
    refine hr.bind ?_
    by_cases c1 : r > 0
    · simp only [if_pos c1]; exact hbad
    simp only [if_neg c1]
    by_cases n1 : okN a0 a1 a2 q e
    · refine ((node_tells a0 a1 a2 q e hl hs).yes n1).bind ?_
      simp only [if_true]
      refine ((ref_node_tells a0 a1 a2 q e hl hs).yes n1).bind ?_
      simp only [if_true]
      by_cases c2 : a0 = 1
      · subst c2
        obtain ⟨hQ, hli0, hli1, hsi0, hsi1, hq5, he0⟩ := okN_file n1
        obtain ⟨p, p0, p1, pe⟩ := umod c 12 (by decide) (by decide)
        refine Ev.step (f := fun k => (node_Refs.f k p 1 a1 a2 q e).bind fun t289 => ((node_Pages.f k 1 a1 a2 q e).bind fun t292 => (if (t289.length : Int) = t292 then (potsherdlaw14_NodeEnds.l0 k p (-1) t289 (t289.length : Int) 0 1 a1 a2 q e) else (some false)))) (fun k => by simp only [potsherdlaw14_NodeEnds.j0]; rw [pe]; rfl) ?_
        refine (refs_ev p 1 a1 a2 q e hl hs).bind ((pages_ev 1 a1 a2 q e hl hs).bind ?_)
        rw [refsOf_len 0 p 1 a1 a2 q e (by omega) (by omega) (by omega) (by omega)]
        simp only [if_true]
        have hR : refsOf p 1 a1 a2 q e = refsTo p q q.length := by unfold refsOf; rw [if_pos ⟨rfl, n1, by omega, by omega⟩]
        rw [hR]
        have hA := refsTo_get p q q.length
        have hU := refsTo_lt p q q.length
        have hL := refs_le p q q.length
        generalize refsTo p q q.length = A at hA hU hL
        refine Ev_loop (g := fun k (s : Int) i => potsherdlaw14_NodeEnds.l0 k p s A (A.length : Int) i 1 a1 a2 q e) A.length (fun i s => (i = 0 ∧ s = -1) ∨ (∃ m : Nat, m < 5 ∧ q.getD m 0 ≠ 0 ∧ s = m ∧ 0 < i ∧ (A.getD (i - 1) z48).f0 = 1 + p * 5 + (m : Int))) true ?_ ?_ (-1) (.inl ⟨rfl, rfl⟩)
        · intro s hs_
          refine Ev.step (f := fun k => if s < 0 then ((potsherdlaw14_awake.f k).bind fun t308 => (some t308)) else ((node_May.f k 1 a1 (wrap64 (s * 16)) q e).bind fun t309 => (if t309 = true then (some false) else ((potsherdlaw14_awake.f k).bind fun t310 => (some t310))))) (fun k => by simp only [potsherdlaw14_NodeEnds.l0]; rw [if_neg (by omega), copy_is 1 a1 a2 q e hq hl]; rfl) ?_
          rcases hs_ with ⟨_, rfl⟩ | ⟨m, m1, m2, rfl, _, _⟩
          · simp only [show (-1 : Int) < 0 from by decide, if_true]; exact awake_bind
          · simp only [show ¬ (m : Int) < 0 from by omega, if_false]
            refine ((node_tells 1 a1 (wrap64 ((m : Int) * 16)) q e hl hs).no ?_).bind ?_
            · intro x
              have y := (okN_file x).1 m (by omega)
              rw [w64 (a := (m : Int) * 16) (by omega) (by omega)] at y
              exact m2 (y.2.2 (by omega))
            · simp only [Bool.false_eq_true, if_false]; exact awake_bind
        · intro i hi s hs_
          obtain ⟨m, m1, m2, m3⟩ := hA i hi
          have hm := hQ m m1
          refine ⟨(m : Int), .inr ⟨m, by omega, m2, rfl, by omega, by rw [Nat.add_sub_cancel, m3]⟩, fun hr => Ev.step (fun k => ?_) hr⟩
          have hlt : s < (m : Int) := by
            rcases hs_ with ⟨_, rfl⟩ | ⟨m', m1', m2', rfl, hi0, hg⟩
            · omega
            · have := hU (i - 1) i (by omega) hi
              rw [hg, m3] at this
              have this : 1 + p * 5 + (m' : Int) < 1 + p * 5 + (m : Int) := this
              omega
          simp only [potsherdlaw14_NodeEnds.l0]
          rw [if_pos (by omega), if_pos (by omega), if_pos (by omega), rd48, m3]
          simp only [split_is p m (by omega) (by omega) (by omega), Option.bind_some, if_true]
          rw [if_neg (by omega), if_neg (by omega), w64 (a := (m : Int) * 16) (by omega) (by omega), if_neg (fun x => m2 (hm.2.2 x)), if_pos (by omega), if_pos (by omega), rdn, if_pos rfl, w64 (a := (i : Int) + 1) (by omega) (by omega)]
      · have : (a0 != 1) = true := by simpa using c2
        rw [this]; exact hbad
    · refine ((node_tells a0 a1 a2 q e hl hs).no n1).bind ?_
      simp only [Bool.false_eq_true, if_false]; exact hbad
  exact ⟨K, h K (Nat.le_refl _)⟩
end Go.Proofs.Ytbaiicnibiogpaa.PureNodeEnds
