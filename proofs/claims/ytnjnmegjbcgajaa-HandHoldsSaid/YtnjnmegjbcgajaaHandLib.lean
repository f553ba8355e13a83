/- What handles may be, and what it is to open, to close, to ask: the printed functions tell it at every input within the reach; no other condition. -/
import Derived.Test.YtnjnmegjbcgajaaPlainH
import Derived.Test.YtnjnmegjbcgajaaPHandx1
import Derived.Test.YtnjnmegjbcgajaaPHandx2
import Derived.Test.YtnjnmegjbcgajaaPHandx3
import Derived.Test.YtnjnmegjbcgajaaPHandx4
import Derived.Test.YtnjnmegjbcgajaaPHandx5
namespace Go.Proofs.Ytnjnmegjbcgajaa.HandLib
set_option linter.unusedVariables false
open Go.RowKit Go.Proofs.Ytnjnmegjbcgajaa.PHand Go.Proofs.YtnjnmegjbcgajaaW.PrintWords
open Go Go.Proofs.Ytnjnmegjbcgajaa.Plain Go.Proofs.YtnjnmegjbcgajaaW.PrintMore
theorem rdn (q : List Int) (i : Nat) : rd q (i : Int) = q.getD i 0 := by unfold rd; rw [Int.toNat_natCast]
/-- What handles may be. -/
def okH (h : List Int) : Prop := h.length = 4 ∧ ∀ x ∈ h, -1 ≤ x ∧ x < 12
instance (h : List Int) : Decidable (okH h) := inferInstanceAs (Decidable (_ ∧ _))
/-- The lowest free place, counted from i; -1 where there is none. -/
def free : List Int → Int → Int
  | [], _ => -1
  | x :: r, i => if x = -1 then i else free r (i + 1)
/-- A handle opened. -/
def openH (h : List Int) (n : Int) : List Int × Int × Int :=
  if okH h ∧ 0 ≤ n ∧ n < 12 then (if free h 0 < 0 then ([], 0, 15) else (h.set (free h 0).toNat n, free h 0, 0)) else ([], 0, 1)
/-- A handle's node. -/
def ofH (h : List Int) (i : Int) : Int × Int :=
  if okH h then (if 0 ≤ i ∧ i < 4 ∧ h.getD i.toNat 0 ≠ -1 then (h.getD i.toNat 0, 0) else (0, 15)) else (0, 1)
/-- A handle closed. -/
def closeH (h : List Int) (i : Int) : List Int × Int × Int :=
  if (ofH h i).2 = 0 then (h.set i.toNat (-1), (ofH h i).1, 0) else ([], 0, (ofH h i).2)
/-- What is held with one handle more. -/
def hstep (a : List Bool) (x : Int) : List Bool := if x = -1 then a else a.set x.toNat true
/-- Which nodes are held. -/
def heldH (h : List Int) : List Bool :=
  if okH h then h.foldl hstep (List.replicate 12 false) else []

theorem off_from (l : List Int) : ∀ i : Int, 0 ≤ i → (0 ≤ offFrom l i ↔ ∃ x ∈ l, offP x = true) := by
  induction l with
  | nil => intro i hi; simp [offFrom]
  | cons x r ih =>
    intro i hi
    simp only [offFrom]
    by_cases c : offP x = true
    · rw [if_pos c]; simp only [hi, true_iff]; exact ⟨x, by simp, c⟩
    · rw [if_neg c, ih (i + 1) (by omega)]; simp [c]
theorem off_is (h : List Int) : hand_off.f h = some (!decide (okH h)) := by
  unfold hand_off.f
  congr 1
  by_cases c : okH h
  · rw [decide_eq_true c]
    have h1 : ¬ (0 ≤ offFrom h 0) := by
      rw [off_from h 0 (Int.le_refl _)]
      rintro ⟨x, hx, hp⟩
      have := c.2 x hx
      simp only [offP, Bool.or_eq_true, decide_eq_true_eq] at hp
      omega
    rw [decide_eq_false h1, decide_eq_false (by have := c.1; omega)]; rfl
  · rw [decide_eq_false c]
    by_cases c1 : h.length = 4
    · have h1 : 0 ≤ offFrom h 0 := by
        rw [off_from h 0 (Int.le_refl _)]
        apply Classical.byContradiction
        intro hn
        apply c
        refine ⟨c1, fun x hx => ?_⟩
        apply Classical.byContradiction
        intro hx2
        exact hn ⟨x, hx, by simp only [offP, Bool.or_eq_true, decide_eq_true_eq]; omega⟩
      rw [decide_eq_true h1, Bool.or_true]; rfl
    · rw [decide_eq_true c1, Bool.true_or]; rfl
theorem drop_at {α : Type} (l : List α) (z : α) (i : Nat) (hi : i < l.length) : l.drop i = l.getD i z :: l.drop (i + 1) := by
  rw [List.drop_eq_getElem_cons hi, List.getD_eq_getElem?_getD, List.getElem?_eq_getElem hi]; rfl
theorem idx_loop (h : List Int) (hl : h.length ≤ 4611686018427387904) : ∀ d i : Nat, i + d = h.length → Ev (fun k => slices_Index_int_int.l0 k h (-1) (h.length : Int) (i : Int)) (free (h.drop i) i) := by
  intro d
  induction d with
  | zero =>
    intro i hi
    rw [List.drop_of_length_le (by omega)]
    refine Ev.step (f := fun _ => some (-1)) (fun k => ?_) (Ev.now _)
    simp only [slices_Index_int_int.l0]; rw [if_neg (by omega)]
  | succ d ih =>
    intro i hi
    rw [drop_at h 0 i (by omega)]
    simp only [free]
    by_cases c : h.getD i 0 = -1
    · rw [if_pos c]
      refine Ev.step (f := fun _ => some (i : Int)) (fun k => ?_) (Ev.now _)
      simp only [slices_Index_int_int.l0]; rw [if_pos (by omega), if_pos (by omega), if_pos (by omega), rdn, if_pos c.symm]
    · rw [if_neg c]
      have h1 := ih (i + 1) (by omega)
      push_cast at h1
      refine Ev.step (fun k => ?_) h1
      simp only [slices_Index_int_int.l0]; rw [if_pos (by omega), if_pos (by omega), if_pos (by omega), rdn, if_neg (fun x => c x.symm), w64 (by omega) (by omega)]
theorem idx_ev (h : List Int) (hl : h.length ≤ 4611686018427387904) : Ev (fun k => slices_Index_int_int.f k h (-1)) (free h 0) := by
  have := idx_loop h hl h.length 0 (by omega)
  unfold slices_Index_int_int.f
  simpa using this
theorem free_at (h : List Int) : ∀ i : Int, 0 ≤ i → free h i < 0 ∨ ∃ j : Nat, free h i = i + j ∧ j < h.length ∧ h.getD j 0 = -1 := by
  induction h with
  | nil => intro i hi; left; simp [free]
  | cons x r ih =>
    intro i hi
    simp only [free]
    by_cases c : x = -1
    · right; rw [if_pos c]; exact ⟨0, by simp, by simp, by simpa using c⟩
    · rw [if_neg c]
      rcases ih (i + 1) (by omega) with h1 | ⟨j, h1, h2, h3⟩
      · exact Or.inl h1
      · exact Or.inr ⟨j + 1, by rw [h1]; push_cast; omega, by simp; omega, by simpa using h3⟩
theorem free_range (h : List Int) (c : ¬ free h 0 < 0) : ∃ j : Nat, free h 0 = j ∧ j < h.length ∧ h.getD j 0 = -1 := by
  rcases free_at h 0 (Int.le_refl _) with h1 | ⟨j, h1, h2, h3⟩
  · exact absurd h1 c
  · exact ⟨j, by omega, h2, h3⟩
theorem open_ev (h : List Int) (n : Int) : Ev (fun k => hand_Open.f k h n) (openH h n) := by
  unfold hand_Open.f openH
  simp only [off_is, Option.bind_some]
  have hbad : Ev (fun k => hand_Open.j0 k h n true) ([], 0, 1) := Ev.step (f := fun _ => some ([], 0, 1)) (fun k => by simp only [hand_Open.j0, if_true]) (Ev.now _)
  by_cases c : okH h
  · simp only [decide_eq_true c, Bool.not_true, Bool.false_eq_true, if_false]
    by_cases c1 : n < 0
    · simp only [if_pos c1]; rw [if_neg (by omega)]; exact hbad
    simp only [if_neg c1]
    by_cases c2 : n ≥ 12
    · simp only [decide_eq_true c2]; rw [if_neg (by omega)]; exact hbad
    simp only [decide_eq_false c2]
    rw [if_pos ⟨c, by omega, by omega⟩]
    refine Ev.step (fun k => by simp only [hand_Open.j0, Bool.false_eq_true, if_false]; rfl) ((idx_ev h (by have := c.1; omega)).bind ?_)
    by_cases c3 : free h 0 < 0
    · simp only [if_pos c3]; exact Ev.now _
    · simp only [if_neg c3]
      obtain ⟨j, h1, h2, h3⟩ := free_range h c3
      unfold slices_Clone_int_int.f
      rw [if_pos (by have := c.1; omega)]
      simp only [Option.bind_some]
      rw [if_pos (by omega), if_pos (by omega)]
      exact Ev.now _
  · simp only [decide_eq_false c, Bool.not_false, if_true]
    rw [if_neg (fun x => c x.1)]
    exact hbad
theorem of_is (h : List Int) (i : Int) : hand_Of.f h i = some (ofH h i) := by
  unfold hand_Of.f ofH
  rw [off_is]
  simp only [Option.bind_some]
  by_cases c : okH h
  · simp only [decide_eq_true c, Bool.not_true, Bool.false_eq_true, if_false]
    have hl := c.1
    rw [if_pos c]
    by_cases c1 : i < 0
    · rw [if_pos c1, if_neg (by omega)]
    rw [if_neg c1]
    by_cases c2 : i ≥ (h.length : Int)
    · rw [if_pos c2, if_neg (by omega)]
    rw [if_neg c2, if_pos (by omega), if_pos (by omega)]
    have e : rd h i = h.getD i.toNat 0 := rfl
    rw [e]
    by_cases c3 : h.getD i.toNat 0 = -1
    · rw [if_pos c3, if_neg (fun x => x.2.2 c3)]
    · rw [if_neg c3, if_pos ⟨by omega, by omega, c3⟩]
  · simp only [decide_eq_false c, Bool.not_false, if_true]
    rw [if_neg c]
theorem of_ok {h : List Int} {i : Int} (c : (ofH h i).2 = 0) : okH h ∧ 0 ≤ i ∧ i < 4 ∧ h.getD i.toNat 0 ≠ -1 := by
  unfold ofH at c
  by_cases c1 : okH h
  · rw [if_pos c1] at c
    by_cases c2 : 0 ≤ i ∧ i < 4 ∧ h.getD i.toNat 0 ≠ -1
    · exact ⟨c1, c2⟩
    · rw [if_neg c2] at c; simp at c
  · rw [if_neg c1] at c; simp at c
theorem close_is (h : List Int) (i : Int) : hand_Close.f h i = some (closeH h i) := by
  unfold hand_Close.f closeH
  rw [of_is]
  simp only [Option.bind_some]
  by_cases c : (ofH h i).2 = 0
  · rw [if_pos c, if_pos c]
    obtain ⟨h1, h2, h3, h4⟩ := of_ok c
    have := h1.1
    unfold slices_Clone_int_int.f
    rw [if_pos (by omega)]
    simp only [Option.bind_some]
    rw [if_pos h2, if_pos (by omega)]
  · rw [if_neg c, if_neg c]
theorem awake_ev : Ev (fun k => potsherdlaw21_awake.f k) true := Ev.of potsherdlaw21_awake.mono (k := 30) (by decide +kernel)
theorem awake_bind : Ev (fun k => (potsherdlaw21_awake.f k).bind fun t => some t) true := awake_ev.bind (Ev.now _)

theorem may_loop (h : List Int) (hl : h.length ≤ 4611686018427387904) : Tells (fun k => potsherdref12_mayHands.l0 k h h (h.length : Int) 0) ((∀ i, i < h.length → -1 ≤ h.getD i 0 ∧ h.getD i 0 < 12) ∧ h.length = 4) := by
  refine Tells_scan (g := fun k i => potsherdref12_mayHands.l0 k h h (h.length : Int) i) h.length (fun i => -1 ≤ h.getD i 0 ∧ h.getD i 0 < 12) (h.length = 4) ?_ ?_ ?_
  · refine ⟨decide (h.length = 4), Ev.step (f := fun _ => some (decide (h.length = 4))) (fun k => ?_) (Ev.now _), by simp⟩
    simp only [potsherdref12_mayHands.l0]; rw [if_neg (by omega)]; congr 1
    rw [Bool.eq_iff_iff]; simp only [beq_iff_eq, decide_eq_true_eq]; omega
  · intro i hi hp r hr
    refine Ev.step (fun k => ?_) hr
    simp only [potsherdref12_mayHands.l0]; rw [if_pos (by omega), if_pos (by omega), if_pos (by omega), rdn, if_neg (by omega), if_neg (by omega), w64 (by omega) (by omega)]
  · intro i hi hp
    refine Ev.step (f := fun _ => some false) (fun k => ?_) (Ev.now _)
    simp only [potsherdref12_mayHands.l0]; rw [if_pos (by omega), if_pos (by omega), if_pos (by omega), rdn]
    by_cases c : h.getD i 0 < -1
    · rw [if_pos c]
    · rw [if_neg c, if_pos (by omega)]
theorem may_ev (h : List Int) (hl : h.length ≤ 4611686018427387904) : Ev (fun k => potsherdref12_mayHands.f k h) (decide (okH h)) := by
  obtain ⟨b, hb, e⟩ := may_loop h hl
  have : b = decide (okH h) := by
    rw [Bool.eq_iff_iff, e, decide_eq_true_eq]
    constructor
    · rintro ⟨h1, h2⟩
      refine ⟨h2, fun x hx => ?_⟩
      obtain ⟨i, hi, rfl⟩ := List.getElem_of_mem hx
      have := h1 i hi
      rwa [List.getD_eq_getElem?_getD, List.getElem?_eq_getElem hi] at this
    · rintro ⟨h1, h2⟩
      refine ⟨fun i hi => ?_, h1⟩
      rw [List.getD_eq_getElem?_getD, List.getElem?_eq_getElem hi]
      exact h2 _ (List.getElem_mem hi)
  rw [← this]; exact hb
theorem getD_ok {h : List Int} (c : okH h) {i : Nat} (hi : i < h.length) : -1 ≤ h.getD i 0 ∧ h.getD i 0 < 12 := by
  rw [List.getD_eq_getElem?_getD, List.getElem?_eq_getElem hi]
  exact c.2 _ (List.getElem_mem hi)
theorem free_hit {x : Int} (r : List Int) (i : Int) (c : x = -1) : free (x :: r) i = i := by simp only [free]; rw [if_pos c]
theorem free_miss {x : Int} (r : List Int) (i : Int) (c : ¬ x = -1) : free (x :: r) i = free r (i + 1) := by simp only [free]; rw [if_neg c]
theorem ropen_loop (h : List Int) (n : Int) (c : okH h) : ∀ d i : Nat, i + d = h.length →
    Ev (fun k => potsherdref12_OpenHand.l0 k h n h (h.length : Int) (i : Int)) (if free (h.drop i) i < 0 then ([], 0, 15) else (h.set (free (h.drop i) i).toNat n, free (h.drop i) i, 0)) := by
  have hl := c.1
  intro d
  induction d with
  | zero =>
    intro i hi
    rw [List.drop_of_length_le (by omega)]
    refine Ev.step (f := fun _ => some ([], 0, 15)) (fun k => ?_) (Ev.now _)
    simp only [potsherdref12_OpenHand.l0]; rw [if_neg (by omega)]
  | succ d ih =>
    intro i hi
    rw [drop_at h 0 i (by omega)]
    have hr := getD_ok c (i := i) (by omega)
    by_cases c1 : h.getD i 0 = -1
    · rw [free_hit _ _ c1, if_neg (by omega)]
      refine Ev.step (f := fun _ => some (h.set (i : Int).toNat n, (i : Int), 0)) (fun k => ?_) (Ev.now _)
      simp only [potsherdref12_OpenHand.l0]; rw [if_pos (by omega), if_pos (by omega), if_pos (by omega), rdn, if_pos (by omega), if_pos (by simp; omega)]
      simp only [Option.bind_some, List.nil_append]
      rw [if_pos (by omega)]
    · rw [free_miss _ _ c1]
      have h1 := ih (i + 1) (by omega)
      push_cast at h1
      refine Ev.step (fun k => ?_) h1
      simp only [potsherdref12_OpenHand.l0]; rw [if_pos (by omega), if_pos (by omega), if_pos (by omega), rdn, if_neg (by omega), w64 (by omega) (by omega)]
theorem ropen_ev (h : List Int) (n : Int) (hl : h.length ≤ 4611686018427387904) : Ev (fun k => potsherdref12_OpenHand.f k h n) (openH h n) := by
  unfold potsherdref12_OpenHand.f openH
  refine (may_ev h hl).bind ?_
  have hbad : Ev (fun k => potsherdref12_OpenHand.j0 k h n true) ([], 0, 1) := Ev.step (f := fun _ => some ([], 0, 1)) (fun k => by simp only [potsherdref12_OpenHand.j0, if_true]) (Ev.now _)
  by_cases c : okH h
  · simp only [decide_eq_true c, if_true]
    by_cases c1 : n < 0
    · simp only [if_pos c1]; rw [if_neg (by omega)]; exact hbad
    simp only [if_neg c1]
    by_cases c2 : n ≥ 12
    · simp only [decide_eq_true c2]; rw [if_neg (by omega)]; exact hbad
    simp only [decide_eq_false c2]
    rw [if_pos ⟨c, by omega, by omega⟩]
    have := ropen_loop h n c h.length 0 (by omega)
    refine Ev.step (fun k => by simp only [potsherdref12_OpenHand.j0, Bool.false_eq_true, if_false]; rfl) (by simpa using this)
  · simp only [decide_eq_false c, Bool.false_eq_true, if_false]
    rw [if_neg (fun x => c x.1)]
    exact hbad
theorem rof_ev (h : List Int) (i : Int) (hl' : h.length ≤ 4611686018427387904) : Ev (fun k => potsherdref12_OfHand.f k h i) (ofH h i) := by
  unfold potsherdref12_OfHand.f ofH
  refine (may_ev h hl').bind ?_
  by_cases c : okH h
  · simp only [decide_eq_true c, if_true]
    have hl := c.1
    rw [if_pos c]
    by_cases c1 : i < 0
    · simp only [if_pos c1]; rw [if_neg (by omega)]; exact Ev.now _
    simp only [if_neg c1]
    by_cases c2 : i ≥ (h.length : Int)
    · simp only [if_pos c2]; rw [if_neg (by omega)]; exact Ev.now _
    simp only [if_neg c2]
    simp only [if_pos (show 0 ≤ i by omega), if_pos (show i < (h.length : Int) by omega)]
    have e : rd h i = h.getD i.toNat 0 := rfl
    have hr := getD_ok c (i := i.toNat) (by omega)
    rw [e]
    by_cases c3 : h.getD i.toNat 0 = -1
    · simp only [if_pos (show h.getD i.toNat 0 < 0 by omega)]; rw [if_neg (fun x => x.2.2 c3)]; exact Ev.now _
    · simp only [if_neg (show ¬ h.getD i.toNat 0 < 0 by omega)]; rw [if_pos ⟨by omega, by omega, c3⟩]; exact Ev.now _
  · simp only [decide_eq_false c, Bool.false_eq_true, if_false]
    rw [if_neg c]; exact Ev.now _
theorem rclose_ev (h : List Int) (i : Int) (hl' : h.length ≤ 4611686018427387904) : Ev (fun k => potsherdref12_CloseHand.f k h i) (closeH h i) := by
  unfold potsherdref12_CloseHand.f closeH
  refine (rof_ev h i hl').bind ?_
  by_cases c : (ofH h i).2 = 0
  · simp only [if_pos c]
    obtain ⟨h1, h2, h3, h4⟩ := of_ok c
    have := h1.1
    rw [if_pos (by simp; omega)]
    simp only [Option.bind_some, List.nil_append]
    rw [if_pos h2, if_pos (by omega)]
    exact Ev.now _
  · simp only [if_neg c]; exact Ev.now _
theorem hstep_len (l : List Int) : ∀ a : List Bool, (l.foldl hstep a).length = a.length := by
  induction l with
  | nil => intro a; rfl
  | cons x r ih => intro a; simp only [List.foldl_cons]; rw [ih]; unfold hstep; split <;> simp
theorem take_fold (h : List Int) (a : List Bool) (i : Nat) (hi : i < h.length) : (h.take (i + 1)).foldl hstep a = hstep ((h.take i).foldl hstep a) (h.getD i 0) := by
  rw [List.take_add_one, List.foldl_append, List.getD_eq_getElem?_getD, List.getElem?_eq_getElem hi]; rfl
theorem held_ev (h : List Int) : Ev (fun k => hand_Held.f k h) (heldH h) := by
  unfold hand_Held.f heldH
  simp only [off_is, Option.bind_some]
  by_cases c : okH h
  · simp only [decide_eq_true c, Bool.not_true, Bool.false_eq_true, if_false]
    rw [if_pos c]; simp only [if_pos (show 12 ≤ 281474976710656 by decide)]
    have hl := c.1
    have key := Ev_fold (g := fun k s i => hand_Held.l0 k s h (h.length : Int) i) h.length (fun i => (h.take i).foldl hstep (List.replicate 12 false)) (h.foldl hstep (List.replicate 12 false)) ?_ ?_
    · simpa using key
    · refine Ev.step (f := fun _ => some (h.foldl hstep (List.replicate 12 false))) (fun k => ?_) (Ev.now _)
      simp only [hand_Held.l0]; rw [if_neg (by omega), List.take_length]
    · intro i hi r hr
      rw [take_fold h _ i hi] at hr
      refine Ev.step (fun k => ?_) hr
      have hr := getD_ok c (i := i) hi
      have hn := hstep_len (h.take i) (List.replicate 12 false)
      rw [List.length_replicate] at hn
      simp only [hand_Held.l0]; rw [if_pos (by omega), if_pos (by omega), if_pos (by omega), rdn, w64 (a := (i : Int) + 1) (by omega) (by omega)]
      by_cases c1 : h.getD i 0 = -1
      · rw [if_pos c1]; simp only [hstep, if_pos c1]
      · rw [if_neg c1, if_pos (by omega), if_pos (by omega)]; simp only [hstep, if_neg c1]
  · simp only [decide_eq_false c, Bool.not_false, if_true]
    rw [if_neg c]; exact Ev.now _
theorem rheld_ev (h : List Int) (hl' : h.length ≤ 4611686018427387904) : Ev (fun k => potsherdref12_Held.f k h) (heldH h) := by
  unfold potsherdref12_Held.f heldH
  refine (may_ev h hl').bind ?_
  by_cases c : okH h
  · simp only [decide_eq_true c, if_true]
    rw [if_pos c]; simp only [if_pos (show 12 ≤ 281474976710656 by decide)]
    have hl := c.1
    have key := Ev_fold (g := fun k s i => potsherdref12_Held.l0 k s h (h.length : Int) i) h.length (fun i => (h.take i).foldl hstep (List.replicate 12 false)) (h.foldl hstep (List.replicate 12 false)) ?_ ?_
    · simpa using key
    · refine Ev.step (f := fun _ => some (h.foldl hstep (List.replicate 12 false))) (fun k => ?_) (Ev.now _)
      simp only [potsherdref12_Held.l0]; rw [if_neg (by omega), List.take_length]
    · intro i hi r hr
      rw [take_fold h _ i hi] at hr
      refine Ev.step (fun k => ?_) hr
      have hr := getD_ok c (i := i) hi
      have hn := hstep_len (h.take i) (List.replicate 12 false)
      rw [List.length_replicate] at hn
      simp only [potsherdref12_Held.l0]; rw [if_pos (by omega), if_pos (by omega), if_pos (by omega), rdn, w64 (a := (i : Int) + 1) (by omega) (by omega)]
      by_cases c1 : h.getD i 0 = -1
      · rw [if_neg (by omega)]; simp only [hstep, if_pos c1]
      · rw [if_pos (by omega), if_pos (by omega), if_pos (by omega)]; simp only [hstep, if_neg c1]
  · simp only [decide_eq_false c, Bool.false_eq_true, if_false]
    rw [if_neg c]; exact Ev.now _
theorem ints_ev (a : List Int) (hl : a.length ≤ 4611686018427387904) : Ev (fun k => potsherdref12_Ints.f k a a) true := by
  unfold potsherdref12_Ints.f
  simp only [if_true]
  refine Ev_fold (g := fun k (_ : Unit) i => potsherdref12_Ints.l0 k a a (a.length : Int) i) a.length (fun _ => ()) true ?_ ?_
  · refine Ev.step (f := fun _ => some true) (fun k => ?_) (Ev.now _)
    simp only [potsherdref12_Ints.l0]; rw [if_neg (by omega)]
  · intro i hi r hr
    refine Ev.step (fun k => ?_) hr
    simp only [potsherdref12_Ints.l0]; rw [if_pos (by omega), if_pos (by omega), if_pos (by omega), if_pos (by omega)]; simp only [if_true]; rw [w64 (by omega) (by omega)]

end Go.Proofs.Ytnjnmegjbcgajaa.HandLib
