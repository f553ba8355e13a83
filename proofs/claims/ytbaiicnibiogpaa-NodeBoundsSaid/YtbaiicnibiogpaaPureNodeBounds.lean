/- The law NodeBounds, as printed, comes to true at every input within the reach. -/
import Derived.Test.YtbaiicnibiogpaaNodeLib
import Derived.Test.YtbaiicnibiogpaaPNodex24
namespace Go.Proofs.Ytbaiicnibiogpaa.PureNodeBounds
set_option linter.unusedVariables false
open Go.RowKit Go.Proofs.Ytbaiicnibiogpaa.PNode Go.Proofs.YtbaiicnibiogpaaW.PrintWords
open Go.Proofs.Ytbaiicnibiogpaa.NodeLib
open Go Go.Proofs.Ytbaiicnibiogpaa.Plain Go.Proofs.YtbaiicnibiogpaaW.PrintMore
theorem getD_set5 (p : Nat) (v : Int) (i : Nat) (hi : i < 5) : ((List.replicate 5 (0 : Int)).set p v).getD i 0 = if i = p then v else 0 := by
  rw [List.getD_eq_getElem?_getD, List.getElem?_set]
  by_cases c : p = i
  · subst c; rw [if_pos rfl, if_pos rfl, if_pos (by rw [List.length_replicate]; exact hi)]; rfl
  · rw [if_neg c, if_neg (fun x => c x.symm), List.getElem?_replicate, if_pos hi]; rfl
theorem NodeBounds : potsherdlaw14_NodeBounds.Pure := by
  intro si v c li w0 w1 w2 w3
  have b0 := wf64 w0
  have b1 := wf64 w1
  have b3 := wf64 w3
  obtain ⟨K, h⟩ : Ev (fun k => potsherdlaw14_NodeBounds.f k si v c li) true := by
    unfold potsherdlaw14_NodeBounds.f
    obtain ⟨p, p0, p1, pe⟩ := umod c 5 (by decide) (by decide)
    have hE : node_Empty.f 1 = some (1, 1, 0, List.replicate 5 0, ([] : List S38)) := by unfold node_Empty.f; rw [if_pos rfl, if_pos (by decide)]
    simp only [hE, Option.bind_some, pe, List.length_replicate]
    have key : ∀ x : Bool, (x = true ↔ (0 ≤ si ∧ si ≤ 80 ∧ 0 ≤ li ∧ li ≤ 120 ∧ 0 ≤ v ∧ v ≤ 1099511627776 ∧ (v = 0 ∨ p * 16 < si))) → Ev (fun k => potsherdlaw14_NodeBounds.j0 k x 1 li si ((List.replicate 5 (0 : Int)).set p.toNat v) ([] : List S38)) true := by
      intro x hx
      have l5 : ((List.replicate 5 (0 : Int)).set p.toNat v).length = 5 := by rw [List.length_set, List.length_replicate]
      have hg := getD_set5 p.toNat v
      generalize (List.replicate 5 (0 : Int)).set p.toNat v = q at l5 hg
      refine Ev.step (fun k => by
        simp only [potsherdlaw14_NodeBounds.j0]
        rw [copy_is 1 li si q [] (by omega) (by simp)]) ?_
      simp only [Option.bind_some, if_pos (show q.length < 17592186044416 from by omega)]
      have hok : okN 1 li si q [] ↔ x = true := by
        rw [hx]
        constructor
        · intro h
          obtain ⟨hQ, h1, h2, h3, h4, _, _⟩ := okN_file h
          have hp := hQ p.toNat (by omega)
          unfold okQ at hp
          rw [hg p.toNat (by omega), if_pos rfl] at hp
          refine ⟨h3, h4, h1, h2, hp.1, hp.2.1, ?_⟩
          by_cases z : p * 16 < si
          · exact .inr z
          · exact .inl (hp.2.2 (by omega))
        · rintro ⟨h3, h4, h1, h2, h5, h6, h7⟩
          refine .inr (.inl ⟨rfl, ?_, h1, h2, h3, h4, l5, rfl⟩)
          intro i hi
          unfold okQ
          rw [hg i (by omega)]
          by_cases z : i = p.toNat
          · rw [if_pos z]; refine ⟨h5, h6, fun y => ?_⟩; rcases h7 with h7 | h7 <;> omega
          · rw [if_neg z]; exact ⟨by decide, by decide, fun _ => rfl⟩
      obtain ⟨y, hy, hy'⟩ := node_tells 1 li si q [] (by simp) (by simp)
      have hxy : y = x := Bool.eq_iff_iff.2 (hy'.trans hok)
      subst hxy
      refine hy.bind ?_
      simp only [beq_self_eq_true, if_true]
      refine ((node_tells 1 li si (q ++ [0]) [] (by simp) (by simp)).no (fun z => ?_)).bind ?_
      · have := (okN_file z).2.2.2.2.2.1; rw [List.length_append, l5] at this; simp at this
      simp only [Bool.false_eq_true, if_false]
      refine ((node_tells 1 li si q _ (by simp) (by intro s hs; rw [List.mem_singleton] at hs; subst hs; decide)).no (fun z => ?_)).bind ?_
      · have := (okN_file z).2.2.2.2.2.2; simp at this
      simp only [Bool.false_eq_true, if_false]
      refine ((node_tells 3 0 0 [] [] (by simp) (by simp)).no (fun z => ?_)).bind ?_
      · rcases z with z | z | z <;> omega
      simp only [Bool.false_eq_true, if_false]
      refine ((node_tells 0 0 1 [] [] (by simp) (by simp)).no (fun z => ?_)).bind ?_
      · rcases z with z | z | z <;> omega
      simp only [Bool.false_eq_true, if_false]
      exact awake_bind
    simp only [show ((5 : Nat) : Int) = 5 from rfl, if_true, if_pos p0, if_pos p1]
    rw [w64 (a := p * 16) (by omega) (by omega)]
    by_cases c1 : si ≥ 0
    · by_cases c2 : si ≤ 80
      · by_cases c3 : li ≥ 0
        · by_cases c4 : li ≤ 120
          · by_cases c5 : v ≥ 0
            · by_cases c6 : v ≤ 1099511627776
              · by_cases c7 : v = 0
                · simp only [if_pos c1, if_pos c2, if_pos c3, if_pos c4, if_pos c5, if_pos c6, if_pos c7]; exact key true (by simp; omega)
                · simp only [if_pos c1, if_pos c2, if_pos c3, if_pos c4, if_pos c5, if_pos c6, if_neg c7]; exact key _ (by rw [decide_eq_true_eq]; omega)
              · simp only [if_pos c1, if_pos c2, if_pos c3, if_pos c4, if_pos c5, if_neg c6]; exact key false (by simp only [Bool.false_eq_true, false_iff]; omega)
            · simp only [if_pos c1, if_pos c2, if_pos c3, if_pos c4, if_neg c5]; exact key false (by simp only [Bool.false_eq_true, false_iff]; omega)
          · simp only [if_pos c1, if_pos c2, if_pos c3, if_neg c4]; exact key false (by simp only [Bool.false_eq_true, false_iff]; omega)
        · simp only [if_pos c1, if_pos c2, if_neg c3]; exact key false (by simp only [Bool.false_eq_true, false_iff]; omega)
      · simp only [if_pos c1, if_neg c2]; exact key false (by simp only [Bool.false_eq_true, false_iff]; omega)
    · simp only [if_neg c1]; exact key false (by simp only [Bool.false_eq_true, false_iff]; omega)
  exact ⟨K, h K (Nat.le_refl _)⟩
end Go.Proofs.Ytbaiicnibiogpaa.PureNodeBounds
