/- The law QuotaSums, as printed, comes to true at every input within the reach. -/
import Derived.Test.YtkigiehkckjlhaaZSumsSTreeLib
import Derived.Test.YtkigiehkckjlhaaZSumsPSumsx21
namespace Go.Proofs.Ytkigiehkckjlhaa.PureQuotaSums
set_option linter.unusedVariables false
open Go.RowKit Go.Proofs.Ytkigiehkckjlhaa.PSums Go.Proofs.YtkigiehkckjlhaaW.PrintWords
open Go.Proofs.Ytkigiehkckjlhaa.SumsLib
open Go Go.Proofs.Ytkigiehkckjlhaa.Plain Go.Proofs.YtkigiehkckjlhaaW.PrintMore
theorem clr_okT {l : List S28} (h : okT l) : okT (clr l) := by
  refine ⟨by unfold clr; rw [List.length_map]; exact h.1, fun x hx => ?_⟩
  unfold clr at hx
  obtain ⟨y, hy, rfl⟩ := List.mem_map.1 hx
  unfold clr1
  split
  · exact Or.inl ⟨rfl, rfl, rfl, rfl, rfl⟩
  · exact h.2 y hy
theorem clr_reach {l : List S28} (h : ∀ x ∈ l, reach x) : ∀ x ∈ clr l, reach x := by
  intro x hx
  unfold clr at hx
  obtain ⟨y, hy, rfl⟩ := List.mem_map.1 hx
  unfold clr1
  split
  · exact ⟨by show (0 : Nat) ≤ _; omega, fun z hz => by cases hz⟩
  · exact h y hy
theorem clr_getD (l : List S28) (i : Nat) : (clr l).getD i z28 = clr1 (l.getD i z28) := by
  unfold clr
  rw [List.getD_eq_getElem?_getD, List.getD_eq_getElem?_getD, List.getElem?_map]
  cases l[i]? with
  | none => rfl
  | some x => rfl
theorem pages_clr (x : S28) : pagesX (clr1 x) ≤ pagesX x := by
  unfold clr1
  split
  · have : pagesX z28 = 0 := by
      unfold pagesX refsOf
      rw [if_neg (fun h => by have := h.1; exact absurd this (by decide))]; rfl
    omega
  · exact Nat.le_refl _
theorem usum_clr (l : List S28) : ∀ i, usum (clr l) i ≤ usum l i
  | 0 => Int.le_refl _
  | i + 1 => by
    have h1 := usum_clr l i
    have h2 := pages_clr (l.getD i z28)
    simp only [usum]
    rw [clr_getD]; omega
/-- How many of the first nodes are none that were one before. -/
def gone (l : List S28) : Nat → Int
  | 0 => 0
  | i + 1 => gone l i + (if (clr1 (l.getD i z28)).f0 = 0 ∧ (l.getD i z28).f0 ≠ 0 then 1 else 0)
theorem gone_le (l : List S28) : ∀ i, 0 ≤ gone l i ∧ gone l i ≤ i
  | 0 => by simp [gone]
  | i + 1 => by have := gone_le l i; simp only [gone]; split <;> (push_cast; omega)
theorem fsum_clr (l : List S28) : ∀ i, fsum (clr l) i = fsum l i + gone l i
  | 0 => by simp [fsum, gone]
  | i + 1 => by
    have h := fsum_clr l i
    simp only [fsum, gone]
    rw [h, clr_getD]
    generalize l.getD i z28 = x
    by_cases c : x.f0 = 0
    · have e : clr1 x = x := by unfold clr1; rw [if_neg (fun y => by have := y.1; omega)]
      rw [e, if_pos c, if_neg (fun y => y.2 c)]; omega
    · rw [if_neg c]
      by_cases c2 : (clr1 x).f0 = 0
      · rw [if_pos c2, if_pos ⟨c2, c⟩]; omega
      · rw [if_neg c2, if_neg (fun y => c2 y.1)]; omega
theorem clear_ev (l : List S28) (hr : ∀ x ∈ l, reach x) (hT : treeP l) : Ev (fun k => potsherdref12_Clear.f k l) (clr l) := by
  unfold potsherdref12_Clear.f
  refine ((maytree_tells l hr).yes hT).bind ?_
  simp only [if_true]
  refine (copytree_ev l hT.1 hT.2.2.1.1).bind ?_
  rw [if_pos hT.1]; exact Ev.now _
theorem QuotaSums (l : List S28) (d a2 : Int) (hl : l.length ≤ 4611686018427387904) (hr : ∀ x ∈ l, reach x) : ∃ k, potsherdlaw18_QuotaSums.f k l d a2 = some true := by
  obtain ⟨K, h⟩ : Ev (fun k => potsherdlaw18_QuotaSums.f k l d a2) true := by
    unfold potsherdlaw18_QuotaSums.f
    have hout : Ev (fun k => potsherdlaw18_QuotaSums.j0 k d true l) true := Ev.step (fun k => by simp only [potsherdlaw18_QuotaSums.j0, if_true]) awake_bind
    obtain ⟨r, h1, h2⟩ := light15_ev l hl hr
    refine h1.bind ?_
    by_cases c : r > 0
    · simp only [if_pos c]; exact hout
    simp only [if_neg c]
    obtain ⟨b, m1, m2⟩ := maytree_tells l hr
    refine m1.bind ?_
    cases b with
    | false => exact hout
    | true =>
      have hT := m2.1 rfl
      clear m1 m2 hout h1 h2 c
      have hX := hT.2.2.1.1
      have hK : okT l := ⟨hT.1, hX⟩
      have h12 := hT.1
      obtain ⟨p, p0, p1, pe⟩ := umod d 61 (by decide) (by decide)
      have hu : used l = usum l l.length := by unfold used; rw [if_pos hK]
      have hul := used_le l
      refine Ev.step (fun k => by simp only [potsherdlaw18_QuotaSums.j0, Bool.not_true, Bool.false_eq_true, if_false]; rw [pe]) ((used_ev l hr).bind ((left_ev l p (by omega) hr).bind ?_))
      refine Ev_fold (g := fun k s i => potsherdlaw18_QuotaSums.l0 k p (used l) (left l p) s l (l.length : Int) i l) l.length (usum l) true ?_ ?_
      · refine Ev.step (fun k => by simp only [potsherdlaw18_QuotaSums.l0]; rw [if_neg (by omega)]) ((clear_ev l hr hT).bind ?_)
        have hc12 : (clr l).length = 12 := (clr_okT hK).1
        refine Ev_fold (g := fun k s i => potsherdlaw18_QuotaSums.l1 k p (used l) (left l p) (usum l l.length) s (clr l) ((clr l).length : Int) i l (clr l)) 12 (gone l) true ?_ ?_
        · have e1 : left l p = mx 0 (wrap64 (p - used l)) := by
            unfold left; rw [if_pos hK, w64 (by omega) (by omega), mx_eq]
            by_cases c1 : p > used l
            · rw [if_pos c1, if_pos (by omega)]
            · rw [if_neg c1, if_neg (by omega)]
          refine Ev.step (fun k => by simp only [potsherdlaw18_QuotaSums.l1]; rw [if_neg (by omega), if_pos hu, if_pos e1]) ((nodes_ev (clr l) (clr_reach hr)).bind ((nodes_ev l hr).bind ?_))
          have f1 := fsum_le l l.length
          have f2 := gone_le l 12
          have e2 : nfree (clr l) = wrap64 (nfree l + gone l 12) := by
            unfold nfree
            rw [if_pos hK, if_pos (clr_okT hK), hc12, fsum_clr, h12, w64 (by rw [h12] at f1; omega) (by rw [h12] at f1; omega)]
          simp only [if_pos e2]
          refine (used_ev (clr l) (clr_reach hr)).bind ?_
          have e3 : used (clr l) ≤ used l := by
            unfold used
            rw [if_pos hK, if_pos (clr_okT hK), hc12, h12]; exact usum_clr l 12
          simp only [if_pos e3]; exact awake_bind
        · intro i hi r hrr
          have f2 := gone_le l i
          refine Ev.step (fun k => ?_) hrr
          simp only [potsherdlaw18_QuotaSums.l1]
          rw [if_pos (by omega), if_pos (by omega), if_pos (by omega), rd28, rd28, clr_getD, w64 (a := (i : Int) + 1) (by omega) (by omega), w64 (a := gone l i + 1) (by omega) (by omega)]
          simp only [gone]
          by_cases c1 : (clr1 (l.getD i z28)).f0 = 0
          · rw [if_pos c1, if_pos (by omega)]
            by_cases c2 : (l.getD i z28).f0 = 0
            · rw [if_pos c2, if_neg (fun y => y.2 c2), Int.add_zero]
            · rw [if_neg c2, if_pos ⟨c1, c2⟩]
          · rw [if_neg c1, if_neg (fun y => c1 y.1), Int.add_zero]
      · intro i hi r hrr
        have hx := hr _ (getD_mem l hi)
        refine Ev.step (fun k => by simp only [potsherdlaw18_QuotaSums.l0]; rw [if_pos (by omega), if_pos (by omega), if_pos (by omega), rd28, w64 (a := (i : Int) + 1) (by omega) (by omega)]) ((ref_pages_ev _ _ _ _ _ hx.1 hx.2).bind ?_)
        have h1 := usum_le l i
        have h2 := pagesX_le (l.getD i z28)
        have e : wrap64 (usum l i + (pagesX (l.getD i z28) : Int)) = usum l (i + 1) := by rw [w64 (by omega) (by omega)]; rfl
        unfold pagesX at e
        rw [e]; exact hrr
  exact ⟨K, h K (Nat.le_refl _)⟩
end Go.Proofs.Ytkigiehkckjlhaa.PureQuotaSums
