/- How many pages and nodes a tree has and how many are left: the printed functions tell it at every input within the reach; no other condition. -/
import Derived.Test.YtkigiehkckjlhaaZSumsSNodeLib
import Derived.Test.YtkigiehkckjlhaaZSumsPSumsx8
import Derived.Test.YtkigiehkckjlhaaZSumsPSumsx9
import Derived.Test.YtkigiehkckjlhaaZSumsPSumsx10
namespace Go.Proofs.Ytkigiehkckjlhaa.SumsLib
set_option linter.unusedVariables false
open Go.RowKit Go.Proofs.Ytkigiehkckjlhaa.PSums Go.Proofs.YtkigiehkckjlhaaW.PrintWords
open Go Go.Proofs.Ytkigiehkckjlhaa.Plain Go.Proofs.YtkigiehkckjlhaaW.PrintMore
/-- What a node may be, as one. -/
abbrev okX (x : S28) : Prop := okN x.f0 x.f1 x.f2 x.f3 x.f4
/-- What a tree may be, for counting. -/
def okT (l : List S28) : Prop := l.length = 12 ∧ ∀ x ∈ l, okX x
/-- The reach of a node. -/
def reach (x : S28) : Prop := x.f4.length ≤ 5864062014634 ∧ ∀ y ∈ x.f4, y.f0.size ≤ 140737488351232
theorem awake_ev : Ev (fun k => potsherdlaw18_awake.f k) true := Ev.of potsherdlaw18_awake.mono (k := 40) (by decide +kernel)
theorem awake_bind : Ev (fun k => (potsherdlaw18_awake.f k).bind fun t => some t) true := awake_ev.bind (Ev.now _)
theorem rd28 (l : List S28) (i : Nat) : rd_T28 l (i : Int) = l.getD i z28 := by unfold rd_T28; rw [Int.toNat_natCast]
theorem getD_mem (l : List S28) {i : Nat} (hi : i < l.length) : l.getD i z28 ∈ l := by
  rw [List.getD_eq_getElem?_getD, List.getElem?_eq_getElem hi]; exact List.getElem_mem hi
theorem bad_ev (l : List S28) (hr : ∀ x ∈ l, reach x) : ∀ i : Int, 0 ≤ i → ∃ r, Ev (fun k => badAt k l i) r ∧ (0 ≤ r ↔ ¬ ∀ x ∈ l, okX x) := by
  induction l with
  | nil => intro i hi; exact ⟨-1, Ev.now _, by simp⟩
  | cons x r ih =>
    intro i hi
    obtain ⟨s, hs, he⟩ := ih (fun y hy => hr y (by simp [hy])) (i + 1) (by omega)
    have hx := hr x (by simp)
    obtain ⟨b, hb, hk⟩ := node_tells x.f0 x.f1 x.f2 x.f3 x.f4 hx.1 hx.2
    cases b with
    | true =>
      refine ⟨s, hb.bind (by simpa using hs), he.trans ?_⟩
      have hk := hk.1 rfl
      simp only [List.mem_cons, forall_eq_or_imp, hk, true_and]
    | false =>
      refine ⟨i, hb.bind (by simpa using Ev.now i), ?_⟩
      simp only [hi, true_iff]
      intro h
      have := hk.2 (h x (by simp))
      cases this
theorem off_tells (l : List S28) (hr : ∀ x ∈ l, reach x) : Tells (fun k => quota_off.f k l) (¬ okT l) := by
  unfold quota_off.f
  by_cases c : l.length = 12
  · simp only [if_pos c]
    obtain ⟨r, h1, h2⟩ := bad_ev l hr 0 (Int.le_refl _)
    refine ⟨decide (0 ≤ r), h1.bind (Ev.now _), ?_⟩
    rw [decide_eq_true_eq, h2]
    unfold okT
    simp only [c, true_and]
  · simp only [if_neg c]
    exact ⟨true, Ev.now _, by simp only [true_iff]; exact fun h => c h.1⟩
/-- How many pages a node has. -/
noncomputable def pagesX (x : S28) : Nat := (refsOf 0 x.f0 x.f1 x.f2 x.f3 x.f4).length
theorem pagesX_le (x : S28) : pagesX x ≤ 5 := refsOf_le _ _ _ _ _ _
/-- How many pages the first nodes have. -/
noncomputable def usum (l : List S28) : Nat → Int
  | 0 => 0
  | i + 1 => usum l i + (pagesX (l.getD i z28) : Int)
theorem usum_le (l : List S28) : ∀ i, 0 ≤ usum l i ∧ usum l i ≤ 5 * i
  | 0 => by simp [usum]
  | i + 1 => by have := usum_le l i; have := pagesX_le (l.getD i z28); simp only [usum]; push_cast; omega
/-- How many pages all files have. -/
noncomputable def used (l : List S28) : Int := open Classical in if okT l then usum l l.length else 0
theorem used_le (l : List S28) : 0 ≤ used l ∧ used l ≤ 60 := by
  unfold used
  split
  · rename_i h; have := usum_le l l.length; have := h.1; omega
  · omega
theorem used_ev (l : List S28) (hr : ∀ x ∈ l, reach x) : Ev (fun k => quota_Used.f k l) (used l) := by
  unfold quota_Used.f used
  by_cases c : okT l
  · refine ((off_tells l hr).no (fun h => h c)).bind ?_
    simp only [Bool.false_eq_true, if_false]
    rw [if_pos c]
    have hl := c.1
    refine Ev_fold (g := fun k s i => quota_Used.l0 k s l (l.length : Int) i) l.length (usum l) (usum l l.length) ?_ ?_
    · refine Ev.step (f := fun _ => some (usum l l.length)) (fun k => ?_) (Ev.now _)
      simp only [quota_Used.l0]; rw [if_neg (by omega)]
    · intro i hi r h
      have hx := hr _ (getD_mem l hi)
      refine Ev.step (fun k => by simp only [quota_Used.l0]; rw [if_pos (by omega), if_pos (by omega), if_pos (by omega), rd28, w64 (a := (i : Int) + 1) (by omega) (by omega)]) ((pages_ev _ _ _ _ _ hx.1 hx.2).bind ?_)
      have h1 := usum_le l i
      have h2 := pagesX_le (l.getD i z28)
      have e : wrap64 (usum l i + (pagesX (l.getD i z28) : Int)) = usum l (i + 1) := by rw [w64 (by omega) (by omega)]; rfl
      unfold pagesX at e
      rw [e]; exact h
  · refine ((off_tells l hr).yes c).bind ?_
    simp only [if_true]
    rw [if_neg c]; exact Ev.now _
/-- How many pages are left. -/
noncomputable def left (l : List S28) (d : Int) : Int := open Classical in if okT l then (if d > used l then d - used l else 0) else 0
theorem left_ev (l : List S28) (d : Int) (hd : -9223372036854775808 ≤ d ∧ d ≤ 9223372036854775807) (hr : ∀ x ∈ l, reach x) : Ev (fun k => quota_Left.f k l d) (left l d) := by
  unfold quota_Left.f left
  refine (used_ev l hr).bind ?_
  have hu := used_le l
  by_cases c : okT l
  · refine ((off_tells l hr).no (fun h => h c)).bind ?_
    simp only [Bool.false_eq_true, if_false]
    rw [if_pos c]
    by_cases c1 : d > used l
    · rw [if_pos c1]; simp only [if_pos c1]; rw [w64 (by omega) (by omega)]; exact Ev.now _
    · rw [if_neg c1]; simp only [if_neg c1]; exact Ev.now _
  · refine ((off_tells l hr).yes c).bind ?_
    simp only [if_true]
    rw [if_neg c]; exact Ev.now _
/-- How many of the first nodes are none. -/
def fsum (l : List S28) : Nat → Int
  | 0 => 0
  | i + 1 => fsum l i + (if (l.getD i z28).f0 = 0 then 1 else 0)
theorem fsum_le (l : List S28) : ∀ i, 0 ≤ fsum l i ∧ fsum l i ≤ i
  | 0 => by simp [fsum]
  | i + 1 => by have := fsum_le l i; simp only [fsum]; split <;> (push_cast; omega)
/-- How many nodes are left. -/
noncomputable def nfree (l : List S28) : Int := open Classical in if okT l then fsum l l.length else 0
theorem nodes_ev (l : List S28) (hr : ∀ x ∈ l, reach x) : Ev (fun k => quota_Nodes.f k l) (nfree l) := by
  unfold quota_Nodes.f nfree
  by_cases c : okT l
  · refine ((off_tells l hr).no (fun h => h c)).bind ?_
    simp only [Bool.false_eq_true, if_false]
    rw [if_pos c]
    have hl := c.1
    refine Ev_fold (g := fun k s i => quota_Nodes.l0 k s l (l.length : Int) i) l.length (fsum l) (fsum l l.length) ?_ ?_
    · refine Ev.step (f := fun _ => some (fsum l l.length)) (fun k => ?_) (Ev.now _)
      simp only [quota_Nodes.l0]; rw [if_neg (by omega)]
    · intro i hi r h
      refine Ev.step (fun k => ?_) h
      have h1 := fsum_le l i
      simp only [quota_Nodes.l0]; rw [if_pos (by omega), if_pos (by omega), if_pos (by omega), rd28, w64 (a := (i : Int) + 1) (by omega) (by omega), w64 (a := fsum l i + 1) (by omega) (by omega)]
      simp only [fsum]
      by_cases c1 : (l.getD i z28).f0 = 0
      · rw [if_pos c1, if_pos c1]
      · rw [if_neg c1, if_neg c1, Int.add_zero]
  · refine ((off_tells l hr).yes c).bind ?_
    simp only [if_true]
    rw [if_neg c]; exact Ev.now _
theorem light15_ev (l : List S28) (hl : l.length ≤ 4611686018427387904) (hr : ∀ x ∈ l, reach x) : ∃ r, Ev (fun k => potsherdlaw15_Light.f k l) r ∧ 0 ≤ r ∧ r ≤ 40 := by
  unfold potsherdlaw15_Light.f
  by_cases c : (l.length : Int) > 40
  · simp only [if_pos c]; exact ⟨1, Ev.now _, by omega, by omega⟩
  simp only [if_neg c]
  have key : ∀ d i : Nat, i + d = l.length → ∀ s : Int, 0 ≤ s → s ≤ i → ∃ r, Ev (fun k => potsherdlaw15_Light.l0 k s l (l.length : Int) (i : Int)) r ∧ 0 ≤ r ∧ r ≤ 40 := by
    intro d
    induction d with
    | zero =>
      intro i hi s h0 h1
      refine ⟨s, Ev.step (f := fun _ => some s) (fun k => ?_) (Ev.now _), h0, by omega⟩
      simp only [potsherdlaw15_Light.l0]; rw [if_neg (by omega)]
    | succ d ih =>
      intro i hi s h0 h1
      have hx := hr _ (getD_mem l (i := i) (by omega))
      obtain ⟨r, hr1, hr2⟩ := light_ev (l.getD i z28).f0 (l.getD i z28).f1 (l.getD i z28).f2 (l.getD i z28).f3 (l.getD i z28).f4 hx.1
      obtain ⟨r', h2, h3⟩ := ih (i + 1) (by omega) (s + r) (by omega) (by push_cast; omega)
      refine ⟨r', Ev.step (fun k => by simp only [potsherdlaw15_Light.l0]; rw [if_pos (by omega), if_pos (by omega), if_pos (by omega), rd28, w64 (a := (i : Int) + 1) (by omega) (by omega)]) (hr1.bind ?_), h3⟩
      rw [w64 (by omega) (by omega)]
      push_cast at h2
      exact h2
  exact key l.length 0 (by omega) 0 (by omega) (by omega)
end Go.Proofs.Ytkigiehkckjlhaa.SumsLib
