/- Two nodes are alike: what the printed functions tell; within the reach. -/
import Derived.Test.YtbaiicnibiogpaaNodeLib
import Derived.Test.YtbaiicnibiogpaaPNodex10
import Derived.Test.YtbaiicnibiogpaaPNodex17
namespace Go.Proofs.Ytbaiicnibiogpaa.NodeLib
set_option linter.unusedVariables false
open Go.RowKit Go.Proofs.Ytbaiicnibiogpaa.PNode Go.Proofs.YtbaiicnibiogpaaW.PrintWords
open Go Go.Proofs.Ytbaiicnibiogpaa.Plain Go.Proofs.YtbaiicnibiogpaaW.PrintMore
/-- The same row of numbers; the same entries. -/
abbrev sameI (a b : List Int) : Prop := (∀ i, i < a.length → a.getD i 0 = b.getD i 0) ∧ a.length = b.length
abbrev sameE (a b : List S38) : Prop := (∀ i, i < a.length → (a.getD i z38).f0.toList = (b.getD i z38).f0.toList ∧ (a.getD i z38).f1 = (b.getD i z38).f1) ∧ a.length = b.length
theorem sameI_refl (a : List Int) : sameI a a := ⟨fun _ _ => rfl, rfl⟩
theorem sameE_refl (a : List S38) : sameE a a := ⟨fun _ _ => ⟨rfl, rfl⟩, rfl⟩
theorem eqI_tells (a b : List Int) (hl : a.length ≤ 17592186043904) : Tells (fun k => slices_Equal_int_int.f k a b) (sameI a b) := by
  unfold slices_Equal_int_int.f
  by_cases c : (a.length : Int) = (b.length : Int)
  · simp only [if_pos c]
    refine (Tells_scan (g := fun k i => slices_Equal_int_int.l0 k a b (a.length : Int) i) a.length (fun i => a.getD i 0 = b.getD i 0) True (Tells.step (f := fun _ => some true) (fun k => by simp only [slices_Equal_int_int.l0]; rw [if_neg (by omega)]) ⟨_, Ev.now _, by simp⟩) ?_ ?_).iff ⟨fun x => ⟨x.1, by omega⟩, fun x => ⟨x.1, trivial⟩⟩
    · intro i hi hP r hr
      exact Ev.step (fun k => by simp only [slices_Equal_int_int.l0]; rw [if_pos (by omega), if_pos (by omega), if_pos (by omega), if_pos (by omega), rdn, rdn, if_pos hP, w64 (a := (i : Int) + 1) (by omega) (by omega)]) hr
    · intro i hi hP
      exact Ev.step (f := fun _ => some false) (fun k => by simp only [slices_Equal_int_int.l0]; rw [if_pos (by omega), if_pos (by omega), if_pos (by omega), if_pos (by omega), rdn, rdn, if_neg hP]) (Ev.now _)
  · simp only [if_neg c]; exact ⟨false, Ev.now _, by simp only [Bool.false_eq_true, false_iff]; rintro ⟨_, x⟩; omega⟩
theorem eqE_tells (a b : List S38) (hl : a.length ≤ 5864062014634) : Tells (fun k => api_Entry_47.f k a b) (sameE a b) := by
  unfold api_Entry_47.f
  by_cases c : (a.length : Int) = (b.length : Int)
  · simp only [if_pos c]
    refine (Tells_scan (g := fun k i => api_Entry_47.l0 k a b (a.length : Int) i) a.length (fun i => (a.getD i z38).f0.toList = (b.getD i z38).f0.toList ∧ (a.getD i z38).f1 = (b.getD i z38).f1) True (Tells.step (f := fun _ => some true) (fun k => by simp only [api_Entry_47.l0]; rw [if_neg (by omega)]) ⟨_, Ev.now _, by simp⟩) ?_ ?_).iff ⟨fun x => ⟨x.1, by omega⟩, fun x => ⟨x.1, trivial⟩⟩
    · intro i hi hP r hr
      exact Ev.step (fun k => by simp only [api_Entry_47.l0]; rw [if_pos (by omega), if_pos (by omega), if_pos (by omega), if_pos (by omega), rd38, rd38, if_neg (by rw [hP.1, hP.2]; simp), w64 (a := (i : Int) + 1) (by omega) (by omega)]) hr
    · intro i hi hP
      exact Ev.step (f := fun _ => some false) (fun k => by
        simp only [api_Entry_47.l0]; rw [if_pos (by omega), if_pos (by omega), if_pos (by omega), if_pos (by omega), rd38, rd38, if_pos]
        by_cases h1 : (a.getD i z38).f0.toList = (b.getD i z38).f0.toList
        · have h2 : ¬ (a.getD i z38).f1 = (b.getD i z38).f1 := fun x => hP ⟨h1, x⟩
          rw [h1]; simp only [beq_self_eq_true, Bool.not_true, Bool.false_or, Bool.not_eq_true', beq_eq_false_iff_ne]; exact h2
        · have : ((a.getD i z38).f0.toList == (b.getD i z38).f0.toList) = false := beq_eq_false_iff_ne.2 h1
          rw [this]; rfl) (Ev.now _)
  · simp only [if_neg c]; exact ⟨false, Ev.now _, by simp only [Bool.false_eq_true, false_iff]; rintro ⟨_, x⟩; omega⟩
/-- Two nodes are alike. -/
abbrev sameN (t li si : Int) (q : List Int) (e : List S38) (t' li' si' : Int) (q' : List Int) (e' : List S38) : Prop := t = t' ∧ li = li' ∧ si = si' ∧ sameI q q' ∧ sameE e e'
theorem same_tells (t li si : Int) (q : List Int) (e : List S38) (t' li' si' : Int) (q' : List Int) (e' : List S38) (hq : q.length ≤ 17592186043904) (hl : e.length ≤ 5864062014634) :
    Tells (fun k => node_Same.f k t li si q e t' li' si' q' e') (sameN t li si q e t' li' si' q' e') := by
  unfold node_Same.f
  by_cases c1 : t = t'
  · simp only [if_pos c1]
    by_cases c2 : li = li'
    · simp only [if_pos c2]
      by_cases c3 : si = si'
      · simp only [if_pos c3, Option.bind_fun_some]
        by_cases c4 : sameI q q'
        · obtain ⟨b, hb, hb'⟩ := eqE_tells e e' hl
          exact ⟨b, ((eqI_tells q q' hq).yes c4).bind (by simp only [if_true]; exact hb), hb'.trans ⟨fun x => ⟨c1, c2, c3, c4, x⟩, fun x => x.2.2.2.2⟩⟩
        · exact ⟨false, ((eqI_tells q q' hq).no c4).bind (by simp only [Bool.false_eq_true, if_false]; exact Ev.now _), by simp only [Bool.false_eq_true, false_iff]; exact fun x => c4 x.2.2.2.1⟩
      · simp only [if_neg c3]; exact ⟨false, Ev.now _, by simp only [Bool.false_eq_true, false_iff]; exact fun x => c3 x.2.2.1⟩
    · simp only [if_neg c2]; exact ⟨false, Ev.now _, by simp only [Bool.false_eq_true, false_iff]; exact fun x => c2 x.2.1⟩
  · simp only [if_neg c1]; exact ⟨false, Ev.now _, by simp only [Bool.false_eq_true, false_iff]; exact fun x => c1 x.1⟩
theorem ints_same : ∀ (k : Nat) (a b : List Int) (n i : Int), potsherdref12_Ints.l0 k a b n i = slices_Equal_int_int.l0 k a b n i
  | 0, _, _, _, _ => rfl
  | k + 1, a, b, n, i => by simp only [potsherdref12_Ints.l0, slices_Equal_int_int.l0, ints_same k]
theorem ents_same : ∀ (k : Nat) (a b : List S38) (n i : Int), potsherdref12_SameEntries.l0 k a b n i = api_Entry_47.l0 k a b n i
  | 0, _, _, _, _ => rfl
  | k + 1, a, b, n, i => by simp only [potsherdref12_SameEntries.l0, api_Entry_47.l0, ents_same k]
theorem nodes_same (k : Nat) (t li si : Int) (q : List Int) (e : List S38) (t' li' si' : Int) (q' : List Int) (e' : List S38) : potsherdref12_SameNode.f k t li si q e t' li' si' q' e' = node_Same.f k t li si q e t' li' si' q' e' := by
  simp only [potsherdref12_SameNode.f, node_Same.f, potsherdref12_Ints.f, slices_Equal_int_int.f, potsherdref12_SameEntries.f, api_Entry_47.f, ints_same, ents_same]
theorem empty_is (i : Int) : ∃ t li si q e, node_Empty.f i = some (t, li, si, q, e) ∧ potsherdref12_EmptyNode.f i = some (t, li, si, q, e) ∧ q.length ≤ 5 ∧ e.length = 0 := by
  unfold node_Empty.f potsherdref12_EmptyNode.f
  by_cases c : i = 1
  · refine ⟨_, _, _, _, _, by rw [if_pos c, if_pos (by decide)], by rw [if_pos c, if_pos (by decide)], by simp, rfl⟩
  · by_cases c2 : i = 2
    · exact ⟨_, _, _, _, _, by rw [if_neg c, if_pos c2], by rw [if_neg c, if_pos c2], by simp, rfl⟩
    · exact ⟨_, _, _, _, _, by rw [if_neg c, if_neg c2], by rw [if_neg c, if_neg c2], by simp, rfl⟩
theorem same_self (t li si : Int) (q : List Int) (e : List S38) (hq : q.length ≤ 17592186043904) (hl : e.length ≤ 5864062014634) : Ev (fun k => potsherdref12_SameNode.f k t li si q e t li si q e) true :=
  Ev.congr (fun k => nodes_same k _ _ _ _ _ _ _ _ _ _) ((same_tells t li si q e t li si q e hq hl).yes ⟨rfl, rfl, rfl, sameI_refl q, sameE_refl e⟩)
end Go.Proofs.Ytbaiicnibiogpaa.NodeLib
