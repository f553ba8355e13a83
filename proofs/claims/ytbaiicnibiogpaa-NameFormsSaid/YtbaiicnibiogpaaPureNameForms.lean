/- The law NameForms, as printed, comes to true at every input within the reach. -/
import Derived.Test.YtbaiicnibiogpaaNameLib
import Derived.Test.YtbaiicnibiogpaaPNamex15
namespace Go.Proofs.Ytbaiicnibiogpaa.PureNameForms
set_option linter.unusedVariables false
open Go.RowKit Go.Proofs.Ytbaiicnibiogpaa.PName Go.Proofs.YtbaiicnibiogpaaW.PrintWords
open Go.Proofs.Ytbaiicnibiogpaa.NameLib
open Go Go.Proofs.Ytbaiicnibiogpaa.Plain Go.Proofs.YtbaiicnibiogpaaW.PrintMore
theorem rdA (l : List S38) (i : Nat) (h : i < l.length) : rdOf ByteArray.empty (l.map (·.f0)) (i : Int) = (l.getD i z38).f0 := by
  unfold rdOf
  rw [Int.toNat_natCast, List.getD_eq_getElem?_getD, List.getElem?_map, List.getElem?_eq_getElem h, getD_get l i h]; rfl

theorem NameForms (l : List S38) (a : ByteArray) (n : Int) (hl : l.length ≤ 5864062014634) (hs : ∀ x ∈ l, x.f0.size ≤ 140737488351232) (ha : a.size ≤ 140737488351232) :
    ∃ k, potsherdlaw13_NameForms.f k l a n = some true := by
  obtain ⟨K, h⟩ : Ev (fun k => potsherdlaw13_NameForms.f k l a n) true := by
    unfold potsherdlaw13_NameForms.f
    have hbad : Ev (fun k => potsherdlaw13_NameForms.j0 k l a n true) true := Ev.step (fun k => by simp only [potsherdlaw13_NameForms.j0, if_true]) awake_bind
    have hok : Ev (fun k => potsherdlaw13_NameForms.j0 k l a n false) true := by
      refine Ev.step (f := fun k => (name_With.f k l a n).bind fun bt287 => ((potsherdref12_With.f k l a n).bind fun bt291 => ((name_Without.f k l a).bind fun bt295 => ((potsherdref12_Without.f k l a).bind fun bt299 => ((name_Names.f k l).bind fun t303 => (if (t303.length : Int) = (l.length : Int) then (potsherdlaw13_NameForms.l0 k l a bt287.1 bt287.2 bt291.1 bt291.2 bt295.1 bt295.2 bt299.1 bt299.2 t303 l (l.length : Int) 0) else (some false))))))) (fun k => by simp only [potsherdlaw13_NameForms.j0, Bool.false_eq_true, if_false]) ?_
      refine (with_ev l a n hl hs ha).bind ((ref_with_ev l a n hl hs ha).bind ((without_ev l a hl hs).bind ((ref_without_ev l a hl hs).bind ((names_ev l hl).bind ?_))))
      simp only [List.length_map, if_true]
      have hw : (withL l a n).1.length ≤ 5864062014634 := by
        unfold withL
        by_cases c1 : okL l ∧ okS a ∧ 1 ≤ n ∧ n < 12
        · rw [if_pos c1]
          by_cases c2 : ∃ x ∈ l, key x = a.toList
          · rw [if_pos c2]; exact Nat.zero_le _
          · rw [if_neg c2]
            by_cases c3 : (l.length : Int) ≥ 10
            · rw [if_pos c3]; exact Nat.zero_le _
            · rw [if_neg c3]; show (ins l ⟨a, n⟩).length ≤ _; rw [ins_len]; omega
        · rw [if_neg c1]; exact Nat.zero_le _
      have hw' : (lessL l a.toList).1.length ≤ 5864062014634 := by
        unfold lessL
        by_cases c1 : okL l
        · rw [if_pos c1]
          by_cases c2 : ∃ x ∈ l, key x = a.toList
          · rw [if_pos c2]; show (rm l a.toList).length ≤ _
            rw [rm_filter l _ ((okL_iff l).1 c1).2.1]; exact Nat.le_trans (List.length_filter_le _ _) hl
          · rw [if_neg c2]; exact Nat.zero_le _
        · rw [if_neg c1]; exact Nat.zero_le _
      generalize withL l a n = W at hw
      generalize lessL l a.toList = V at hw'
      refine Ev_fold (g := fun k (_ : Unit) i => potsherdlaw13_NameForms.l0 k l a W.1 W.2 W.1 W.2 V.1 V.2 V.1 V.2 (l.map (·.f0)) l (l.length : Int) i) l.length (fun _ => ()) _ ?_ ?_
      · refine Ev.step (fun k => by simp only [potsherdlaw13_NameForms.l0]; rw [if_neg (by omega)]) ?_
        refine (ents_self W.1 hw).bind ?_
        simp only [if_true]
        refine (ents_self V.1 hw').bind ?_
        simp only [if_true]
        obtain ⟨x, hx, hx'⟩ := may_tells l hl hs
        obtain ⟨y, hy, hy'⟩ := ref_may_tells l hl hs
        have hxy : x = y := Bool.eq_iff_iff.2 (hx'.trans hy'.symm)
        subst hxy
        refine hx.bind (hy.bind ?_)
        simp only [beq_self_eq_true, if_true, find_is l a hl, Option.bind_some]
        refine (at_ev l a hl).bind ?_
        simp only [if_true]; exact awake_bind
      · intro i hi r hr
        refine Ev.step (fun k => ?_) hr
        simp only [potsherdlaw13_NameForms.l0]
        rw [if_pos (by omega), if_pos (by omega), if_pos (by omega), if_pos (by rw [List.length_map]; omega), rdA l i hi, rd38, if_pos rfl, w64 (a := (i : Int) + 1) (by omega) (by omega)]
    obtain ⟨r, hr, _⟩ := light13_ev l hl
    refine hr.bind ?_
    by_cases c : r > 0
    · simp only [if_pos c]; exact hbad
    · simp only [if_neg c]
      by_cases c2 : (a.size : Int) > 100
      · simp only [decide_eq_true c2]; exact hbad
      · simp only [decide_eq_false c2]; exact hok
  exact ⟨K, h K (Nat.le_refl _)⟩

end Go.Proofs.Ytbaiicnibiogpaa.PureNameForms
