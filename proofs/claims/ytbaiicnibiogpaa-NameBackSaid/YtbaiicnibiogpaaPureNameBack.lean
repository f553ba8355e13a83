/- The law NameBack, as printed, comes to true at every input within the reach. -/
import Derived.Test.YtbaiicnibiogpaaNameLib
import Derived.Test.YtbaiicnibiogpaaPNamex16
namespace Go.Proofs.Ytbaiicnibiogpaa.PureNameBack
set_option linter.unusedVariables false
open Go.RowKit Go.Proofs.Ytbaiicnibiogpaa.PName Go.Proofs.YtbaiicnibiogpaaW.PrintWords
open Go.Proofs.Ytbaiicnibiogpaa.NameLib
open Go Go.Proofs.Ytbaiicnibiogpaa.Plain Go.Proofs.YtbaiicnibiogpaaW.PrintMore
theorem NameBack (l : List S38) (a : ByteArray) (n : Int) (hl : l.length ≤ 5864062014634) (hs : ∀ x ∈ l, x.f0.size ≤ 140737488351232) (ha : a.size ≤ 140737488351232) :
    ∃ k, potsherdlaw13_NameBack.f k l a n = some true := by
  obtain ⟨K, h⟩ : Ev (fun k => potsherdlaw13_NameBack.f k l a n) true := by
    unfold potsherdlaw13_NameBack.f
    have hbad : Ev (fun k => potsherdlaw13_NameBack.j0 k l a n true) true := Ev.step (fun k => by simp only [potsherdlaw13_NameBack.j0, if_true]) awake_bind
    obtain ⟨r, hr, _⟩ := light13_ev l hl
    refine hr.bind ?_
    by_cases c : r > 0
    · simp only [if_pos c]; exact hbad
    simp only [if_neg c]
    by_cases c2 : (a.size : Int) > 100
    · simp only [if_pos c2]; exact hbad
    simp only [if_neg c2]
    by_cases ok : okL l
    rotate_left
    · refine ((may_tells l hl hs).no ok).bind ?_
      simp only [Bool.false_eq_true, if_false]; exact hbad
    refine ((may_tells l hl hs).yes ok).bind ?_
    simp only [if_true]
    refine ((ref_may_tells l hl hs).yes ok).bind ?_
    have hh := (okL_iff l).1 ok
    have hend : Ev (fun k => potsherdlaw13_NameBack.j0 k l a n false) true := by
      have hw := with_ev l a n hl hs ha
      by_cases c1 : okS a ∧ 1 ≤ n ∧ n < 12
      · by_cases c3 : ∃ x ∈ l, key x = a.toList
        · have e : withL l a n = ([], 9) := by unfold withL; rw [if_pos ⟨ok, c1⟩, if_pos c3]
          rw [e] at hw
          refine Ev.step (fun k => by simp only [potsherdlaw13_NameBack.j0, Bool.false_eq_true, if_false]; first | done | rfl) (hw.bind ?_)
          simp only [List.length_nil, Int.ofNat_zero, Int.reduceEq, if_false, if_true, find_is l a hl, Option.bind_some]
          simp only [if_pos ((find_pos ok).1.2 c3)]; exact awake_bind
        · by_cases c4 : (l.length : Int) ≥ 10
          · have e : withL l a n = ([], 14) := by unfold withL; rw [if_pos ⟨ok, c1⟩, if_neg c3, if_pos c4]
            rw [e] at hw
            refine Ev.step (fun k => by simp only [potsherdlaw13_NameBack.j0, Bool.false_eq_true, if_false]; first | done | rfl) (hw.bind ?_)
            simp only [List.length_nil, Int.ofNat_zero, Int.reduceEq, if_false, if_true]
            simp only [if_pos (show (l.length : Int) = 10 by omega)]; exact awake_bind
          · have e : withL l a n = (ins l ⟨a, n⟩, 0) := by unfold withL; rw [if_pos ⟨ok, c1⟩, if_neg c3, if_neg c4]
            rw [e] at hw
            have hk : ∀ y ∈ l, key y ≠ key (⟨a, n⟩ : S38) := fun y hy e => c3 ⟨y, hy, e⟩
            have hsort := ins_sorted l ⟨a, n⟩ hh.2.1 hk
            have hlen := ins_len l ⟨a, n⟩
            have hmem := ins_mem l ⟨a, n⟩
            have ok' : okL (ins l ⟨a, n⟩) := (okL_iff _).2 ⟨fun x hx => by
              rcases (hmem x).1 hx with rfl | hx
              · exact c1
              · exact hh.1 x hx, hsort, by omega⟩
            have hs' : ∀ x ∈ ins l ⟨a, n⟩, x.f0.size ≤ 140737488351232 := fun x hx => by
              rcases (hmem x).1 hx with rfl | hx
              · exact ha
              · exact hs x hx
            have hex : ∃ x ∈ ins l ⟨a, n⟩, key x = a.toList := ⟨⟨a, n⟩, (hmem _).2 (.inl rfl), rfl⟩
            have hl' : (ins l ⟨a, n⟩).length ≤ 5864062014634 := by omega
            have hw2 := with_ev (ins l ⟨a, n⟩) a 1 hl' hs' ha
            rw [show withL (ins l ⟨a, n⟩) a 1 = ([], 9) by unfold withL; rw [if_pos ⟨ok', c1.1, by decide, by decide⟩, if_pos hex]] at hw2
            have hw3 := without_ev (ins l ⟨a, n⟩) a hl' hs'
            rw [show lessL (ins l ⟨a, n⟩) a.toList = (l, 0) by unfold lessL; rw [if_pos ok', if_pos hex, show a.toList = key (⟨a, n⟩ : S38) from rfl, rm_ins l _ hk]] at hw3
            have hf : find (ins l ⟨a, n⟩) a.toList = n := find_some hsort (x := ⟨a, n⟩) ((hmem _).2 (.inl rfl))
            have hfx : ∀ x ∈ l, find (ins l ⟨a, n⟩) (key x) = x.f1 := fun x hx => find_some hsort ((hmem x).2 (.inr hx))
            have hm := (may_tells (ins l ⟨a, n⟩) hl' hs').yes ok'
            generalize ins l ⟨a, n⟩ = L at hw hw2 hw3 hm hf hfx hl' hlen
            refine Ev.step (fun k => by simp only [potsherdlaw13_NameBack.j0, Bool.false_eq_true, if_false]; first | done | rfl) (hw.bind ?_)
            simp only [if_true]
            refine hw2.bind (hw3.bind ?_)
            simp only [if_true]
            refine (ents_self l hl).bind ?_
            simp only [if_true]
            refine hm.bind ?_
            simp only [if_true, w64 (a := (l.length : Int) + 1) (by omega) (by omega), if_pos (show (L.length : Int) = (l.length : Int) + 1 by omega), find_is L a hl', Option.bind_some, hf, bne_self_eq_false]
            refine Ev.step (f := fun k => potsherdlaw13_NameBack.l0 k L l (l.length : Int) 0) (fun k => by simp only [potsherdlaw13_NameBack.j1, Bool.false_eq_true, if_false]) ?_
            refine Ev_fold (g := fun k (_ : Unit) i => potsherdlaw13_NameBack.l0 k L l (l.length : Int) i) l.length (fun _ => ()) _ ?_ ?_
            · exact Ev.step (fun k => by simp only [potsherdlaw13_NameBack.l0]; rw [if_neg (by omega)]) awake_bind
            · intro i hi r hr
              refine Ev.step (fun k => ?_) hr
              have hx := hfx (l.getD i z38) (by rw [getD_get l i hi]; exact List.getElem_mem hi)
              simp only [potsherdlaw13_NameBack.l0]
              rw [if_pos (by omega), if_pos (by omega), if_pos (by omega), rd38, find_is L _ hl']
              simp only [Option.bind_some]
              rw [if_pos hx, w64 (a := (i : Int) + 1) (by omega) (by omega)]
      · have e : withL l a n = ([], 1) := by unfold withL; rw [if_neg (fun x => c1 x.2)]
        rw [e] at hw
        refine Ev.step (fun k => by simp only [potsherdlaw13_NameBack.j0, Bool.false_eq_true, if_false]; first | done | rfl) (hw.bind ?_)
        simp only [List.length_nil, Int.ofNat_zero, Int.reduceEq, if_false, if_true]; exact awake_bind
    exact hend
  exact ⟨K, h K (Nat.le_refl _)⟩

end Go.Proofs.Ytbaiicnibiogpaa.PureNameBack
