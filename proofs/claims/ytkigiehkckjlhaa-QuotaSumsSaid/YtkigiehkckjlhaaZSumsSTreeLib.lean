/- What a tree may be: the reference's own function tells it within the reach; no other condition. -/
import Derived.Test.YtkigiehkckjlhaaZSumsSQuotaLib
import Derived.Test.YtkigiehkckjlhaaZSumsPSumsx15
import Derived.Test.YtkigiehkckjlhaaZSumsPSumsx16
import Derived.Test.YtkigiehkckjlhaaZSumsPSumsx17
import Derived.Test.YtkigiehkckjlhaaZSumsPSumsx18
import Derived.Test.YtkigiehkckjlhaaZSumsPSumsx19
import Derived.Test.YtkigiehkckjlhaaZSumsPSumsx20
namespace Go.Proofs.Ytkigiehkckjlhaa.SumsLib
set_option linter.unusedVariables false
open Go.RowKit Go.Proofs.Ytkigiehkckjlhaa.PSums Go.Proofs.YtkigiehkckjlhaaW.PrintWords
open Go Go.Proofs.Ytkigiehkckjlhaa.Plain Go.Proofs.YtkigiehkckjlhaaW.PrintMore
theorem ref_copy_is (t li si : Int) (q : List Int) (e : List S78) (hq : q.length ≤ 17592186043904) (hl : e.length ≤ 5864062014634) : potsherdref12_CopyNode.f t li si q e = some (t, li, si, q, e) := by
  unfold potsherdref12_CopyNode.f
  rw [if_pos (by simp only [List.length_nil]; omega), if_pos (by simp only [List.length_nil]; omega)]; rfl
theorem ents_tells (l : List S28) : ∀ (e : List S78), (∀ y ∈ e, 0 ≤ y.f1 ∧ y.f1 < l.length) → ∃ b, mtEnts l e = some b ∧ (b = true ↔ ∀ y ∈ e, (rd_T28 l y.f1).f0 ≠ 0)
  | [], _ => ⟨true, rfl, by simp⟩
  | y :: r, h => by
    obtain ⟨b, h1, h2⟩ := ents_tells l r (fun z hz => h z (by simp [hz]))
    have hy := h y (by simp)
    simp only [mtEnts]
    rw [if_pos hy]
    by_cases c : (rd_T28 l y.f1).f0 = 0
    · rw [if_pos c]; exact ⟨false, rfl, by simp only [Bool.false_eq_true, false_iff]; intro x; exact x y (by simp) c⟩
    · rw [if_neg c]
      refine ⟨b, h1, h2.trans ?_⟩
      simp only [List.mem_cons, forall_eq_or_imp, ne_eq, c, not_false_eq_true, true_and]
/-- No writing stands twice, nor stands among those that were met. -/
def seqOk : List Int → List Int → Prop
  | _, [] => True
  | seen, s :: r => ¬ (s ≠ 0 ∧ s ∈ seen) ∧ seqOk (s :: seen) r
theorem seqOk_append : ∀ (a b seen : List Int), seqOk seen (a ++ b) ↔ seqOk seen a ∧ seqOk (a.reverse ++ seen) b
  | [], b, seen => by simp [seqOk]
  | s :: a, b, seen => by
    simp only [List.cons_append, seqOk]
    rw [seqOk_append a b (s :: seen)]
    simp only [List.reverse_cons, List.append_assoc, List.singleton_append, and_assoc]
theorem seqs_tells : ∀ (q seen : List Int), seen.length + q.length ≤ 1000 → (∀ s ∈ q, (Lit.int .i64 s).wf = true) → ∃ o, mtSeqs seen q = some o ∧ (o = none ∨ o = some (q.reverse ++ seen)) ∧ (o = some (q.reverse ++ seen) ↔ seqOk seen q)
  | [], seen, _, _ => ⟨some seen, rfl, Or.inr rfl, by simp [seqOk]⟩
  | s :: r, seen, hl, hw => by
    simp only [List.length_cons] at hl
    simp only [mtSeqs]
    rw [if_pos (hw s (by simp))]
    by_cases c : s ≠ 0 ∧ s ∈ seen
    · rw [if_pos c]
      exact ⟨none, rfl, Or.inl rfl, by simp only [reduceCtorEq, false_iff, seqOk]; exact fun x => x.1 c⟩
    · rw [if_neg c, if_pos (by omega)]
      obtain ⟨o, h1, h2, h3⟩ := seqs_tells r (s :: seen) (by simp only [List.length_cons]; omega) (fun z hz => hw z (by simp [hz]))
      simp only [List.reverse_cons, List.append_assoc, List.singleton_append]
      refine ⟨o, h1, h2, h3.trans ?_⟩
      simp only [seqOk]
      exact ⟨fun x => ⟨c, x⟩, fun x => x.2⟩
theorem okX_wf {x : S28} (h : okX x) : ∀ s ∈ x.f3, (Lit.int .i64 s).wf = true := by
  intro s hs
  obtain ⟨i, hi, rfl⟩ := List.getElem_of_mem hs
  rcases h with h | h | h
  · omega
  · have := h.2.1 i hi
    have e : x.f3.getD i 0 = x.f3[i] := by rw [List.getD_eq_getElem?_getD, List.getElem?_eq_getElem hi]; rfl
    unfold okQ at this
    rw [e] at this
    simp [Lit.wf, IntKind.min, IntKind.max, IntKind.signed, IntKind.bits]; omega
  · omega
theorem okX_ents {x : S28} (h : okX x) : ∀ y ∈ x.f4, 1 ≤ y.f1 ∧ y.f1 < 12 := by
  intro y hy
  rcases h with h | h | h
  · have : x.f4 = [] := List.length_eq_zero_iff.1 h.2.2.2.2
    rw [this] at hy; cases hy
  · have : x.f4 = [] := List.length_eq_zero_iff.1 h.2.2.2.2.2.2.2
    rw [this] at hy; cases hy
  · obtain ⟨i, hi, rfl⟩ := List.getElem_of_mem hy
    have := (h.2.2.2.2.1 i hi).1
    have e : x.f4.getD i z78 = x.f4[i] := by rw [List.getD_eq_getElem?_getD, List.getElem?_eq_getElem hi]; rfl
    unfold okE at this
    rw [e] at this
    exact this.2
/-- What the nodes of a row must be, one by one. -/
def scanP (l : List S28) (seen : List Int) (r : List S28) : Prop := (∀ x ∈ r, okX x) ∧ (∀ x ∈ r, ∀ y ∈ x.f4, (rd_T28 l y.f1).f0 ≠ 0) ∧ seqOk seen (r.flatMap (·.f3))
theorem scan_tells (l : List S28) (hl : l.length = 12) : ∀ (r : List S28) (seen : List Int), seen.length + 5 * r.length ≤ 1000 → (∀ x ∈ r, reach x) → ∃ o, Ev (fun k => mtScan k l seen r) o ∧ (o.isSome = true ↔ scanP l seen r)
  | [], seen, _, _ => ⟨some seen, Ev.now _, by simp [scanP, seqOk]⟩
  | x :: r, seen, hs, hr => by
    have hx := hr x (by simp)
    simp only [List.length_cons] at hs
    have hno : ¬ scanP l seen (x :: r) → ((none : Option (List Int)).isSome = true ↔ scanP l seen (x :: r)) := fun h => by simp only [Option.isSome_none, Bool.false_eq_true, false_iff]; exact h
    simp only [mtScan]
    by_cases c1 : okX x
    · have hq := okN_len c1
      have hN := (ref_node_tells x.f0 x.f1 x.f2 x.f3 x.f4 hx.1 hx.2).yes c1
      obtain ⟨b, e1, e2⟩ := ents_tells l x.f4 (fun y hy => by have := okX_ents c1 y hy; omega)
      cases b with
      | false =>
        refine ⟨none, hN.bind ?_, hno ?_⟩
        · simp only [if_true, e1, Option.bind_some, Bool.false_eq_true, if_false]; exact Ev.now _
        · intro h
          have := e2.2 (h.2.1 x (by simp))
          cases this
      | true =>
        have e2 := e2.1 rfl
        obtain ⟨o, s1, s2, s3⟩ := seqs_tells x.f3 seen (by omega) (okX_wf c1)
        rcases s2 with rfl | rfl
        · refine ⟨none, hN.bind ?_, hno ?_⟩
          · simp only [if_true, e1, s1, Option.bind_some]; exact Ev.now _
          · intro h
            have h := h.2.2
            simp only [List.flatMap_cons] at h
            have := s3.2 ((seqOk_append _ _ _).1 h).1
            cases this
        · have s3 := s3.1 rfl
          obtain ⟨o, h1, h2⟩ := scan_tells l hl r (x.f3.reverse ++ seen) (by simp only [List.length_append, List.length_reverse]; omega) (fun z hz => hr z (by simp [hz]))
          refine ⟨o, hN.bind ?_, h2.trans ?_⟩
          · simp only [if_true, e1, s1, Option.bind_some]; exact h1
          · unfold scanP
            simp only [List.mem_cons, forall_eq_or_imp, List.flatMap_cons, seqOk_append, s3, true_and]
            exact ⟨fun h => ⟨⟨c1, h.1⟩, ⟨e2, h.2.1⟩, h.2.2⟩, fun h => ⟨h.1.2, h.2.1.2, h.2.2⟩⟩
    · refine ⟨none, ((ref_node_tells _ _ _ _ _ hx.1 hx.2).no c1).bind ?_, hno (fun h => c1 (h.1 x (by simp)))⟩
      simp only [Bool.false_eq_true, if_false]
      exact Ev.now _
/-- How many entries name a node. -/
def named (l : List S28) (i : Int) : Nat := (l.flatMap (·.f4)).countP fun y => decide (y.f1 = i)
theorem named_le {l : List S28} (hX : ∀ x ∈ l, okX x) (i : Int) : named l i ≤ 10 * l.length := by
  unfold named
  induction l with
  | nil => simp
  | cons x r ih =>
    have := ih (fun z hz => hX z (by simp [hz]))
    have h1 := (okN_len (hX x (by simp))).2
    have h2 := List.countP_le_length (p := fun y : S78 => decide (y.f1 = i)) (l := x.f4)
    simp only [List.flatMap_cons, List.countP_append, List.length_cons]
    omega
theorem rd78 (l : List S78) (i : Nat) : rd_T78 l (i : Int) = l.getD i z78 := by unfold rd_T78; rw [Int.toNat_natCast]
theorem take_getD {α : Type} (l : List α) (z : α) {i : Nat} (h : i < l.length) : l.take (i + 1) = l.take i ++ [l.getD i z] := by
  rw [List.take_succ_eq_append_getElem h, List.getD_eq_getElem?_getD, List.getElem?_eq_getElem h]; rfl
theorem named_ev (l : List S28) (hl : l.length ≤ 12) (hX : ∀ x ∈ l, okX x) (a : Int) : Ev (fun k => potsherdref12_Named.f k l a) (named l a : Int) := by
  unfold potsherdref12_Named.f
  have hb := named_le hX a
  have hpre : ∀ i, named (l.take i) a ≤ 120 := fun i => by
    have := named_le (l := l.take i) (fun x hx => hX x (List.mem_of_mem_take hx)) a
    rw [List.length_take] at this; omega
  have key := Ev_fold (g := fun k s i => potsherdref12_Named.l0 k a s l (l.length : Int) i) l.length (fun i => (named (l.take i) a : Int)) (named l a : Int) ?_ ?_
  · simpa [named] using key
  · refine Ev.step (f := fun _ => some (named l a : Int)) (fun k => ?_) (Ev.now _)
    simp only [potsherdref12_Named.l0]; rw [if_neg (by omega), List.take_length]
  · intro i hi r hr
    refine Ev.step (fun k => by simp only [potsherdref12_Named.l0]; rw [if_pos (by omega), if_pos (by omega), if_pos (by omega), rd28]) ?_
    have hx := okN_len (hX _ (getD_mem l hi))
    generalize hxe : l.getD i z28 = x at hx
    have hnx : named (l.take (i + 1)) a = named (l.take i) a + x.f4.countP (fun y => decide (y.f1 = a)) := by
      rw [take_getD l z28 hi, hxe]; unfold named; rw [List.flatMap_append, List.countP_append]; simp
    have hp := hpre i
    generalize named (l.take i) a = s0 at hnx hp
    have k2 := Ev_fold (g := fun k s j => potsherdref12_Named.l1 k a s l (l.length : Int) i x.f4 (x.f4.length : Int) j) x.f4.length (fun j => ((s0 + (x.f4.take j).countP (fun y => decide (y.f1 = a)) : Nat) : Int)) r ?_ ?_
    · simpa using k2
    · refine Ev.step (fun k => by simp only [potsherdref12_Named.l1]; rw [if_neg (by omega), w64 (a := (i : Int) + 1) (by omega) (by omega), List.take_length]) ?_
      rw [← hnx]; exact hr
    · intro j hj r' h'
      refine Ev.step (fun k => ?_) h'
      have h2 := List.countP_le_length (p := fun y : S78 => decide (y.f1 = a)) (l := x.f4.take j)
      rw [List.length_take] at h2
      simp only [potsherdref12_Named.l1]
      rw [if_pos (by omega), if_pos (by omega), if_pos (by omega), rd78, w64 (a := (j : Int) + 1) (by omega) (by omega), take_getD x.f4 z78 hj, List.countP_append]
      generalize (x.f4.take j).countP (fun y => decide (y.f1 = a)) = s1 at h2 ⊢
      by_cases c : (x.f4.getD j z78).f1 = a
      · rw [if_pos c, w64 (by omega) (by omega)]; simp only [List.countP_cons, List.countP_nil, decide_eq_true c, if_true]; congr 1
      · rw [if_neg c]; simp only [List.countP_cons, List.countP_nil, decide_eq_false c, Bool.false_eq_true, if_false]; congr 1
/-- A node's place among the others. -/
def hangOk (l : List S28) (on : List Bool) (n : S28) (j : Nat) : Prop := (n.f0 = 2 → on.getD j false = true ∧ (0 < j → named l j = 1)) ∧ (n.f0 = 1 → n.f1 = named l j)
theorem rdB (q : List Bool) (i : Nat) : rdOf false q (i : Int) = q.getD i false := by unfold rdOf; rw [Int.toNat_natCast]
theorem tail_tells (l : List S28) (hl : l.length = 12) (hX : ∀ x ∈ l, okX x) (on : List Bool) (ho : on.length = 12) : ∀ (r : List S28) (i : Nat), i + r.length ≤ 12 → Tells (fun k => mtTail k l on r i) (∀ j, j < r.length → hangOk l on (r.getD j z28) (i + j))
  | [], i, _ => ⟨true, Ev.now _, by simp⟩
  | n :: r, i, h => by
    simp only [List.length_cons] at h
    have ih := tail_tells l hl hX on ho r (i + 1) (by omega)
    have hsplit : (∀ j, j < (n :: r).length → hangOk l on ((n :: r).getD j z28) (i + j)) ↔ hangOk l on n i ∧ ∀ j, j < r.length → hangOk l on (r.getD j z28) (i + 1 + j) := by
      constructor
      · intro x
        exact ⟨x 0 (by simp), fun j hj => by have := x (j + 1) (by simp; omega); rw [show i + 1 + j = i + (j + 1) by omega]; exact this⟩
      · rintro ⟨x, y⟩ j hj
        cases j with
        | zero => exact x
        | succ j => have := y j (by simp at hj; omega); rw [show i + (j + 1) = i + 1 + j by omega]; exact this
    simp only [mtTail]
    obtain ⟨b, i1, i2⟩ := ih
    have hn := named_ev l (by omega) hX (i : Int)
    have e : ((i + 1 : Nat) : Int) = (i : Int) + 1 := by push_cast; rfl
    rw [e] at i1
    by_cases c2 : n.f0 = 2
    · simp only [if_pos c2]
      by_cases c3 : on.getD i false = false ∨ 0 < (i : Int) ∧ (named l i : Int) ≠ 1
      · refine ⟨false, hn.bind ?_, ?_⟩
        · simp only [if_pos (show (0 ≤ (i : Int) ∧ (i : Int) < (on.length : Int)) from by omega), rdB, if_pos c3]; exact Ev.now _
        · rw [hsplit]
          simp only [Bool.false_eq_true, false_iff]
          rintro ⟨x, _⟩
          have := x.1 c2
          rcases c3 with c3 | c3
          · rw [c3] at this; cases this.1
          · exact c3.2 (by have := this.2 (by omega); omega)
      · refine ⟨b, hn.bind ?_, i2.trans ?_⟩
        · simp only [if_pos (show (0 ≤ (i : Int) ∧ (i : Int) < (on.length : Int)) from by omega), rdB, if_neg c3]; exact i1
        · rw [hsplit]
          refine ⟨fun x => ⟨⟨fun _ => ⟨?_, ?_⟩, fun y => by omega⟩, x⟩, fun x => x.2⟩
          · cases hh : on.getD i false with
            | true => rfl
            | false => exact absurd (Or.inl hh) c3
          · intro hi
            by_cases c4 : (named l i : Int) = 1
            · omega
            · exact absurd (Or.inr ⟨by omega, c4⟩) c3
    · simp only [if_neg c2]
      by_cases c3 : n.f0 = 1 ∧ n.f1 ≠ (named l i : Int)
      · refine ⟨false, hn.bind ?_, ?_⟩
        · simp only [if_pos c3]; exact Ev.now _
        · rw [hsplit]
          simp only [Bool.false_eq_true, false_iff]
          rintro ⟨x, _⟩
          exact c3.2 (x.2 c3.1)
      · refine ⟨b, hn.bind ?_, i2.trans ?_⟩
        · simp only [if_neg c3]; exact i1
        · rw [hsplit]
          refine ⟨fun x => ⟨⟨fun y => absurd y c2, fun y => ?_⟩, x⟩, fun x => x.2⟩
          by_cases c4 : n.f1 = (named l i : Int)
          · exact c4
          · exact absurd ⟨y, c4⟩ c3
theorem set_getD (l : List Bool) (i j : Nat) (v : Bool) : (l.set i v).getD j false = if i = j ∧ j < l.length then v else l.getD j false := by
  rw [List.getD_eq_getElem?_getD, List.getD_eq_getElem?_getD, List.getElem?_set]
  by_cases c : i = j
  · subst c
    by_cases c2 : i < l.length
    · rw [if_pos rfl, if_pos c2, if_pos ⟨rfl, c2⟩]; rfl
    · rw [if_pos rfl, if_neg c2, if_neg (fun x => c2 x.2), List.getElem?_eq_none (by omega)]
  · rw [if_neg c, if_neg (fun x => c x.1)]
/-- What the marks have in common, at each step of the going through: I. -/
structure marks (l : List S28) (I : List Bool → Prop) : Prop where
  start : I ((List.replicate 12 false).set 0 true)
  step : ∀ on x, on.length = 12 → I on → x < 12 → on.getD x false = true → ∀ y ∈ (l.getD x z28).f4, (l.getD y.f1.toNat z28).f0 = 2 → I (on.set y.f1.toNat true)
theorem mem_getD78 {l : List S78} {i : Nat} (hi : i < l.length) : l.getD i z78 ∈ l := by
  rw [List.getD_eq_getElem?_getD, List.getElem?_eq_getElem hi]; exact List.getElem_mem hi
theorem reached_in (l : List S28) (hl : l.length = 12) (hX : ∀ x ∈ l, okX x) (I : List Bool → Prop) (hI : marks l I) (a b : Int) (i : Nat) (hi : i < 12) :
    ∀ d j : Nat, j + d = (l.getD i z28).f4.length → ∀ on : List Bool, on.length = 12 → on.getD i false = true → I on → ∀ R : List Bool → Prop,
      (∀ on', on'.length = 12 → I on' → (∀ y, on.getD y false = true → on'.getD y false = true) → ∃ r, Ev (fun k => potsherdref12_reached.l1 k on' a b l 12 ((i : Int) + 1) l) r ∧ R r) →
      ∃ r, Ev (fun k => potsherdref12_reached.l2 k on a b l 12 i (l.getD i z28).f4 ((l.getD i z28).f4.length : Int) j l) r ∧ R r := by
  intro d
  induction d with
  | zero =>
    intro j hj on ho _ hon R hk
    obtain ⟨r, h1, h2⟩ := hk on ho hon (fun _ h => h)
    refine ⟨r, Ev.step (fun k => ?_) h1, h2⟩
    simp only [potsherdref12_reached.l2]; rw [if_neg (by omega), w64 (a := (i : Int) + 1) (by omega) (by omega)]
  | succ d ih =>
    intro j hj on ho hoi hon R hk
    have hx := hX _ (getD_mem l (i := i) (by omega))
    have hlen := (okN_len hx).2
    have hy := okX_ents hx _ (mem_getD78 (l := (l.getD i z28).f4) (i := j) (by omega))
    have hym := mem_getD78 (l := (l.getD i z28).f4) (i := j) (by omega)
    generalize hY : (l.getD i z28).f4.getD j z78 = y at hy hym
    have hrd : rd_T28 l y.f1 = l.getD y.f1.toNat z28 := rfl
    have e1 : ((j + 1 : Nat) : Int) = (j : Int) + 1 := by push_cast; rfl
    by_cases c : (rd_T28 l y.f1).f0 = 2
    · obtain ⟨r, h1, h2⟩ := ih (j + 1) (by omega) (on.set y.f1.toNat true) (by rw [List.length_set]; exact ho) (by rw [set_getD]; split <;> first | rfl | exact hoi) (hI.step on i ho hon hi hoi y hym (by rw [← hrd]; exact c)) R
        (fun on' ho' hI' hm => hk on' ho' hI' (fun z hz => hm z (by rw [set_getD]; split <;> first | rfl | exact hz)))
      refine ⟨r, Ev.step (fun k => ?_) h1, h2⟩
      simp only [potsherdref12_reached.l2]
      rw [if_pos (by omega), if_pos (by omega), if_pos (by omega), rd78, hY, if_pos (by omega), if_pos (by omega), if_pos (by omega), if_pos (by omega), if_pos c, w64 (a := (j : Int) + 1) (by omega) (by omega), e1]
    · obtain ⟨r, h1, h2⟩ := ih (j + 1) (by omega) on ho hoi hon R hk
      refine ⟨r, Ev.step (fun k => ?_) h1, h2⟩
      simp only [potsherdref12_reached.l2]
      rw [if_pos (by omega), if_pos (by omega), if_pos (by omega), rd78, hY, if_pos (by omega), if_pos (by omega), if_pos (by omega), if_pos (by omega), if_neg c, w64 (a := (j : Int) + 1) (by omega) (by omega), e1]
theorem reached_mid (l : List S28) (hl : l.length = 12) (hX : ∀ x ∈ l, okX x) (I : List Bool → Prop) (hI : marks l I) (b : Nat) (hb : b < 12) :
    ∀ d i : Nat, i + d = 12 → ∀ on : List Bool, on.length = 12 → I on → ∀ R : List Bool → Prop,
      (∀ on', on'.length = 12 → I on' → ∃ r, Ev (fun k => potsherdref12_reached.l0 k on' 12 ((b : Int) + 1) l) r ∧ R r) →
      ∃ r, Ev (fun k => potsherdref12_reached.l1 k on 12 b l 12 i l) r ∧ R r := by
  intro d
  induction d with
  | zero =>
    intro i hi on ho hon R hk
    obtain ⟨r, h1, h2⟩ := hk on ho hon
    refine ⟨r, Ev.step (fun k => ?_) h1, h2⟩
    simp only [potsherdref12_reached.l1]; rw [if_neg (by omega), w64 (a := (b : Int) + 1) (by omega) (by omega)]
  | succ d ih =>
    intro i hi on ho hon R hk
    have e1 : ((i + 1 : Nat) : Int) = (i : Int) + 1 := by push_cast; rfl
    by_cases c : on.getD i false = true
    · obtain ⟨r, h1, h2⟩ := reached_in l hl hX I hI 12 b i (by omega) _ 0 (by rw [Nat.zero_add]) on ho c hon R (fun on' ho' hI' _ => by have := ih (i + 1) (by omega) on' ho' hI' R hk; rwa [e1] at this)
      refine ⟨r, Ev.step (fun k => ?_) h1, h2⟩
      simp only [potsherdref12_reached.l1]; rw [if_pos (by omega), if_pos (by omega), if_pos (by omega), if_pos (by omega), rdB, if_pos c, rd28]; rfl
    · obtain ⟨r, h1, h2⟩ := ih (i + 1) (by omega) on ho hon R hk
      refine ⟨r, Ev.step (fun k => ?_) h1, h2⟩
      simp only [potsherdref12_reached.l1]; rw [if_pos (by omega), if_pos (by omega), if_pos (by omega), if_pos (by omega), rdB, if_neg c, w64 (a := (i : Int) + 1) (by omega) (by omega), e1]
theorem reached_out (l : List S28) (hl : l.length = 12) (hX : ∀ x ∈ l, okX x) (I : List Bool → Prop) (hI : marks l I) :
    ∀ d b : Nat, b + d = 12 → ∀ on : List Bool, on.length = 12 → I on → ∃ r, Ev (fun k => potsherdref12_reached.l0 k on 12 b l) r ∧ (r.length = 12 ∧ I r) := by
  intro d
  induction d with
  | zero =>
    intro b hb on ho hon
    refine ⟨on, Ev.step (f := fun _ => some on) (fun k => ?_) (Ev.now _), ho, hon⟩
    simp only [potsherdref12_reached.l0]; rw [if_neg (by omega)]
  | succ d ih =>
    intro b hb on ho hon
    have e1 : ((b + 1 : Nat) : Int) = (b : Int) + 1 := by push_cast; rfl
    obtain ⟨r, h1, h2⟩ := reached_mid l hl hX I hI b (by omega) 12 0 (by omega) on ho hon (fun r => r.length = 12 ∧ I r) (fun on' ho' hI' => by have := ih (b + 1) (by omega) on' ho' hI'; rwa [e1] at this)
    refine ⟨r, Ev.step (fun k => ?_) h1, h2⟩
    simp only [potsherdref12_reached.l0]; rw [if_pos (by omega), hl]; rfl
theorem reached_ev (l : List S28) (hl : l.length = 12) (hX : ∀ x ∈ l, okX x) (h2 : (rd_T28 l 0).f0 = 2) (I : List Bool → Prop) (hI : marks l I) : ∃ on, Ev (fun k => potsherdref12_reached.f k l 0) on ∧ on.length = 12 ∧ I on := by
  obtain ⟨r, h1, h3⟩ := reached_out l hl hX I hI 12 0 (by omega) _ (by rw [List.length_set, List.length_replicate]) hI.start
  have e : ∀ k, potsherdref12_reached.f k l 0 = potsherdref12_reached.j0 k 0 (List.replicate 12 false) false l := by
    intro k
    unfold potsherdref12_reached.f
    have hn : ((l.length : Int)).toNat = 12 := by omega
    rw [if_pos (by omega), if_pos (by omega), hn]
    simp only [Option.bind_some, List.length_replicate]
    rw [if_neg (by omega), if_neg (by omega), if_pos (by omega), if_pos (by omega), h2]
    rfl
  have hs : Ev (fun k => potsherdref12_reached.j0 k 0 (List.replicate 12 false) false l) r := by
    refine Ev.step (fun k => ?_) h1
    simp only [potsherdref12_reached.j0]
    rw [if_neg (by decide), if_pos (by omega), if_pos (by rw [List.length_replicate]; omega), List.length_replicate]; rfl
  obtain ⟨K, hK⟩ := hs
  exact ⟨r, ⟨K, fun k hk => (e k).trans (hK k hk)⟩, h3⟩
/-- What a tree may be. -/
def treeP (l : List S28) : Prop := l.length = 12 ∧ (rd_T28 l 0).f0 = 2 ∧ scanP l [] l ∧ ∃ on, on.length = 12 ∧ Ev (fun k => potsherdref12_reached.f k l 0) on ∧ ∀ j, j < 12 → hangOk l on (l.getD j z28) j
theorem maytree_tells (l : List S28) (hr : ∀ x ∈ l, reach x) : Tells (fun k => potsherdref12_MayTree.f k l) (treeP l) := by
  unfold potsherdref12_MayTree.f
  by_cases hl : l.length = 12
  · simp only [if_pos hl]
    by_cases h2 : (rd_T28 l 0).f0 = 2
    · simp only [if_pos h2]
      obtain ⟨o, s1, s2⟩ := scan_tells l hl l [] (by simp [hl]) hr
      cases o with
      | none =>
        refine ⟨false, s1.bind (Ev.now _), ?_⟩
        simp only [Bool.false_eq_true, false_iff]
        intro h
        have := s2.2 h.2.2.1
        cases this
      | some s =>
        have hs := s2.1 rfl
        obtain ⟨on, r1, r2, _⟩ := reached_ev l hl hs.1 h2 (fun _ => True) ⟨trivial, fun _ _ _ _ _ _ _ _ _ => trivial⟩
        obtain ⟨b, t1, t2⟩ := tail_tells l hl hs.1 on r2 l 0 (by omega)
        refine ⟨b, s1.bind (r1.bind t1), t2.trans ?_⟩
        constructor
        · intro x
          exact ⟨hl, h2, hs, on, r2, r1, fun j hj => by have := x j (by omega); rwa [Nat.zero_add] at this⟩
        · rintro ⟨_, _, _, on', _, r1', x⟩ j hj
          obtain rfl := Ev.one r1 r1'
          have := x j (by omega); rwa [Nat.zero_add]
    · simp only [if_neg h2]
      exact ⟨false, Ev.now _, by simp only [Bool.false_eq_true, false_iff]; exact fun h => h2 h.2.1⟩
  · simp only [if_neg hl]
    exact ⟨false, Ev.now _, by simp only [Bool.false_eq_true, false_iff]; exact fun h => hl h.1⟩
theorem copytree_ev (l : List S28) (hl : l.length = 12) (hX : ∀ x ∈ l, okX x) : Ev (fun k => potsherdref12_CopyTree.f k l) l := by
  unfold potsherdref12_CopyTree.f
  have key := Ev_fold (g := fun k s i => potsherdref12_CopyTree.l0 k l (l.length : Int) i s) l.length (fun i => l.take i) l ?_ ?_
  · simpa using key
  · refine Ev.step (f := fun _ => some l) (fun k => ?_) (Ev.now _)
    simp only [potsherdref12_CopyTree.l0]; rw [if_neg (by omega), List.take_length]
  · intro i hi r hr
    have hx := okN_len (hX _ (getD_mem l hi))
    refine Ev.step (fun k => ?_) hr
    simp only [potsherdref12_CopyTree.l0]
    rw [if_pos (by omega), if_pos (by omega), if_pos (by omega), rd28, ref_copy_is _ _ _ _ _ (by omega) (by omega)]
    simp only [Option.bind_some]
    rw [if_pos (by rw [List.length_take]; omega), w64 (a := (i : Int) + 1) (by omega) (by omega), take_getD l z28 hi]
end Go.Proofs.Ytkigiehkckjlhaa.SumsLib
