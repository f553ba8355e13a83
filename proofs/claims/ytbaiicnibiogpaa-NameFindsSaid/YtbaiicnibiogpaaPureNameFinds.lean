/- The law NameFinds, as printed, comes to true at every input within the reach. -/
import Derived.Test.YtbaiicnibiogpaaNameLib
import Derived.Test.YtbaiicnibiogpaaPNamex17
namespace Go.Proofs.Ytbaiicnibiogpaa.PureNameFinds
set_option linter.unusedVariables false
open Go.RowKit Go.Proofs.Ytbaiicnibiogpaa.PName Go.Proofs.YtbaiicnibiogpaaW.PrintWords
open Go.Proofs.Ytbaiicnibiogpaa.NameLib
open Go Go.Proofs.Ytbaiicnibiogpaa.Plain Go.Proofs.YtbaiicnibiogpaaW.PrintMore
theorem rdB (l : List S38) (i : Nat) (h : i < l.length) : rdOf ByteArray.empty (l.map (·.f0)) (i : Int) = (l.getD i z38).f0 := by
  unfold rdOf
  rw [Int.toNat_natCast, List.getD_eq_getElem?_getD, List.getElem?_map, List.getElem?_eq_getElem h, getD_get l i h]; rfl

theorem NameFinds (l : List S38) (a : ByteArray) (hl : l.length ≤ 5864062014634) (hs : ∀ x ∈ l, x.f0.size ≤ 140737488351232) :
    ∃ k, potsherdlaw13_NameFinds.f k l a = some true := by
  obtain ⟨K, h⟩ : Ev (fun k => potsherdlaw13_NameFinds.f k l a) true := by
    unfold potsherdlaw13_NameFinds.f
    have hbad : Ev (fun k => potsherdlaw13_NameFinds.j0 k l a true) true := Ev.step (fun k => by simp only [potsherdlaw13_NameFinds.j0, if_true]) awake_bind
    obtain ⟨r, hr, _⟩ := light13_ev l hl
    refine hr.bind ?_
    by_cases c : r > 0
    · simp only [if_pos c]; exact hbad
    simp only [if_neg c]
    by_cases ok : okL l
    rotate_left
    · refine ((ref_may_tells l hl hs).no ok).bind ?_
      simp only [Bool.false_eq_true, if_false]; exact hbad
    refine ((ref_may_tells l hl hs).yes ok).bind ?_
    simp only [if_true]
    have hh := (okL_iff l).1 ok
    by_cases c2 : (a.size : Int) > 50
    · simp only [decide_eq_true c2]; exact hbad
    simp only [decide_eq_false c2]
    refine Ev.step (fun k => by simp only [potsherdlaw13_NameFinds.j0, Bool.false_eq_true, if_false]; first | done | rfl) ((names_ev l hl).bind ?_)
    refine Ev_fold (g := fun k (s : Bool) i => potsherdlaw13_NameFinds.l0 k l a s (l.map (·.f0)) l (l.length : Int) i) l.length (fun i => (l.take i).any (fun x => key x == a.toList)) _ ?_ ?_
    · refine Ev.step (fun k => by simp only [potsherdlaw13_NameFinds.l0]; rw [if_neg (by omega)]) ?_
      have hw := without_ev l a hl hs
      rw [List.take_length]
      by_cases c3 : ∃ x ∈ l, key x = a.toList
      · have e : l.any (fun x => key x == a.toList) = true := by
          rw [List.any_eq_true]; obtain ⟨x, hx, h⟩ := c3; exact ⟨x, hx, beq_iff_eq.2 h⟩
        rw [show lessL l a.toList = (rm l a.toList, 0) by unfold lessL; rw [if_pos ok, if_pos c3]] at hw
        refine hw.bind ?_
        simp only [find_is l a hl, Option.bind_some, e, decide_eq_true ((find_pos ok).1.2 c3), beq_self_eq_true, if_true, List.length_map]
        exact awake_bind
      · have e : l.any (fun x => key x == a.toList) = false := by
          rw [List.any_eq_false]; intro x hx h; exact c3 ⟨x, hx, beq_iff_eq.1 h⟩
        rw [show lessL l a.toList = ([], 8) by unfold lessL; rw [if_pos ok, if_neg c3]] at hw
        refine hw.bind ?_
        simp only [find_is l a hl, Option.bind_some, e, decide_eq_false (fun x => c3 ((find_pos ok).1.1 x)), beq_self_eq_true, if_true, List.length_map, show ((8 : Int) == 0) = false from rfl]
        exact awake_bind
    · intro i hi r hr
      refine Ev.step (fun k => ?_) hr
      have hx := find_some hh.2.1 (x := l.getD i z38) (by rw [getD_get l i hi]; exact List.getElem_mem hi)
      have ht : (l.take (i + 1)).any (fun x => key x == a.toList) = ((l.take i).any (fun x => key x == a.toList) || (key (l.getD i z38) == a.toList)) := by
        rw [List.take_add_one, List.getElem?_eq_getElem hi, List.any_append, getD_get l i hi]; simp
      simp only [potsherdlaw13_NameFinds.l0]
      rw [if_pos (by omega), if_pos (by omega), if_pos (by omega), rd38, find_is l _ hl]
      simp only [Option.bind_some]
      rw [if_pos hx, if_neg (by rw [List.length_map]; omega), if_pos (by rw [List.length_map]; omega), rdB l i hi, if_pos rfl, w64 (a := (i : Int) + 1) (by omega) (by omega), ht]
      cases (l.take i).any (fun x => key x == a.toList) with
      | true => simp only [if_true, Bool.true_or]
      | false => simp only [Bool.false_eq_true, if_false, Bool.false_or]
  exact ⟨K, h K (Nat.le_refl _)⟩

end Go.Proofs.Ytbaiicnibiogpaa.PureNameFinds
