/- What QuotaLess leans on: the first tree, its node put in, what the callees answer of it; conditions: those of each theorem. -/
import Derived.Test.YtkigiehkckjlhaaPQuotax21
import Derived.Test.YtkigiehkckjlhaaPQuotax22
import Derived.Test.YtkigiehkckjlhaaMoreLib
import Derived.Test.YtkigiehkckjlhaaLessBase
import Derived.Deep.RegionHeld3
import Derived.WalkKit
namespace Go.Proofs.Ytkigiehkckjlhaa.Less
set_option linter.unusedVariables false
open Go.RowKit Go.Proofs.Ytkigiehkckjlhaa.PQuota Go.Proofs.YtkigiehkckjlhaaW.PrintWords Go.Proofs.YtkigiehkckjlhaaW.PrintLast Go.Proofs.Ytkigiehkckjlhaa.QuotaLib
open Go Go.Proofs.Ytkigiehkckjlhaa.Plain Go.Proofs.YtkigiehkckjlhaaW.PrintMore
attribute [local go_sem] max2_int min2_int max_two min_two max_three min_three max_four min_four
/-- The first tree, in which all rows of all nodes are empty. -/
def T0 : List S28 := ⟨2, 1, 0, [], []⟩ :: List.replicate 11 z28
theorem first_is : potsherdref12_First.f = some T0 := rfl
theorem T0_len : T0.length = 12 := rfl
theorem T0_empty : ∀ x ∈ T0, x.f3 = [] ∧ x.f4 = [] := by
  intro x hx
  simp only [T0, List.mem_cons, List.mem_replicate] at hx
  rcases hx with rfl | ⟨_, rfl⟩
  · exact ⟨rfl, rfl⟩
  · exact ⟨rfl, rfl⟩
theorem C_empty {α : Type} (d : Kd α) (w : World) (A : Option Addr) : d.C w A 0 [] := ⟨rfl, by simp, fun h => absurd h (Nat.lt_irrefl 0)⟩
theorem K_any {w w' : World} {x : S28} {cs : List Value} (h : k28.K w x cs) (h3 : x.f3 = []) (h4 : x.f4 = []) : k28.K w' x cs := by
  obtain ⟨A3, c3, A4, c4, rfl, l3, g3, l4, g4⟩ := k28_open h
  refine k28_mk w' x l3 ?_ l4 ?_
  · rw [h3]; exact C_empty _ _ _
  · rw [h4]; exact C_empty _ _ _
/-- A block's cells read as a tree of empty rows, in whatever world. -/
def ReadsC (cs : Array Value) (T : List S28) : Prop := ∀ (j : Nat) (p : S28), T[j]? = some p → ∃ c : List Value, c.length = 5 ∧ (∀ w, k28.K w p c) ∧ ∀ i u, c[i]? = some u → cs[j * 5 + i]? = some u
theorem add_at (g n : Nat) : (⟨g, 0, none⟩ : Addr).add n = ⟨g, n, none⟩ := by unfold Addr.add; split <;> simp_all
theorem reads_of {w : World} {g : Nat} {cs : Array Value} {T : List S28} (hT : ∀ x ∈ T, x.f3 = [] ∧ x.f4 = []) (hl : 0 < T.length) (hb : w.heap[g]? = some (.cells cs 28 (0, 0))) (h : Kd.C k28 w (some ⟨g, 0, none⟩) T.length T) : ReadsC cs T := by
  obtain ⟨h1, h2, h3⟩ := h
  obtain ⟨ad, ea, hc⟩ := h3 hl
  cases ea
  intro j p hj
  obtain ⟨c, hs, hk, hcell⟩ := hc j p hj
  have hm := hT p (List.mem_of_getElem? hj)
  refine ⟨c, hs, fun w' => K_any hk hm.1 hm.2, fun i u hi => ?_⟩
  have := hcell i u hi
  rw [add_at, blk_cell hb] at this
  exact this
theorem C_reads {w : World} {g : Nat} {cs : Array Value} {T : List S28} (hl : T.length ≤ 100) (hb : w.heap[g]? = some (.cells cs 28 (0, 0))) (h : ReadsC cs T) : Kd.C k28 w (some ⟨g, 0, none⟩) T.length T := by
  refine ⟨rfl, by omega, fun _ => ⟨_, rfl, fun j p hj => ?_⟩⟩
  obtain ⟨c, hs, hk, hcell⟩ := h j p hj
  refine ⟨c, hs, hk w, fun i u hi => ?_⟩
  show w.cell? ((⟨g, 0, none⟩ : Addr).add (j * 5 + i)) = some u
  rw [add_at, blk_cell hb]
  exact hcell i u hi
/-- A node laid into the second place. -/
def put5 (cs : Array Value) (v0 v1 v2 v3 v4 : Value) : Array Value := ((((cs.setIfInBounds 5 v0).setIfInBounds 6 v1).setIfInBounds 7 v2).setIfInBounds 8 v3).setIfInBounds 9 v4
theorem C_put {w : World} {g : Nat} {cs : Array Value} {T : List S28} (hl : T.length = 12) (x : S28) {A3 : Option Addr} {c3 : Nat} {A4 : Option Addr} {c4 : Nat}
    (hb : w.heap[g]? = some (.cells (put5 cs (.int .i64 x.f0) (.int .i64 x.f1) (.int .i64 x.f2) (.slice A3 x.f3.length c3) (.slice A4 x.f4.length c4)) 28 (0, 0))) (h : ReadsC cs T)
    (l3 : x.f3.length ≤ c3) (g3 : (Kd.int .i64).C w A3 x.f3.length x.f3) (l4 : x.f4.length ≤ c4) (g4 : k78.C w A4 x.f4.length x.f4) : Kd.C k28 w (some ⟨g, 0, none⟩) 12 (T.set 1 x) := by
  have hsz : 9 < cs.size := by
    obtain ⟨c, hs, _, hcell⟩ := h 1 _ (List.getElem?_eq_getElem (by omega))
    have := hcell 4 _ (List.getElem?_eq_getElem (by omega))
    exact (Array.getElem?_eq_some_iff.1 this).1
  refine ⟨by rw [List.length_set, hl], by omega, fun _ => ⟨_, rfl, fun j p hj => ?_⟩⟩
  rw [List.getElem?_set] at hj
  by_cases c1 : 1 = j
  · subst c1
    rw [if_pos rfl, if_pos (by omega)] at hj
    obtain rfl := Option.some.inj hj
    refine ⟨[.int .i64 x.f0, .int .i64 x.f1, .int .i64 x.f2, .slice A3 x.f3.length c3, .slice A4 x.f4.length c4], rfl, k28_mk w x l3 g3 l4 g4, fun i u hi => ?_⟩
    show w.cell? ((⟨g, 0, none⟩ : Addr).add (1 * 5 + i)) = some u
    rw [add_at, blk_cell hb]
    unfold put5
    rcases i with _ | _ | _ | _ | _ | i
    · cases hi; simp [Array.getElem?_setIfInBounds]; omega
    · cases hi; simp [Array.getElem?_setIfInBounds]; omega
    · cases hi; simp [Array.getElem?_setIfInBounds]; omega
    · cases hi; simp [Array.getElem?_setIfInBounds]; omega
    · cases hi; simp [Array.getElem?_setIfInBounds]; omega
    · simp at hi
  · rw [if_neg c1] at hj
    obtain ⟨c, hs, hk, hcell⟩ := h j p hj
    refine ⟨c, hs, hk w, fun i u hi => ?_⟩
    show w.cell? ((⟨g, 0, none⟩ : Addr).add (j * 5 + i)) = some u
    rw [add_at, blk_cell hb]
    have hi5 : i < 5 := by have := (List.getElem?_eq_some_iff.1 hi).1; omega
    unfold put5
    simp only [Array.getElem?_setIfInBounds]
    rw [if_neg (by omega), if_neg (by omega), if_neg (by omega), if_neg (by omega), if_neg (by omega)]
    exact hcell i u hi
theorem old5 {w : World} {g : Nat} {cs : Array Value} {T : List S28} (hl : T.length = 12) (hb : w.heap[g]? = some (.cells cs 28 (0, 0))) (h : ReadsC cs T) (i : Nat) (hi : i < 5) : ∃ v, w.cell? ⟨g, 5 + i, none⟩ = some v := by
  obtain ⟨c, hs, _, hcell⟩ := h 1 _ (List.getElem?_eq_getElem (by omega))
  exact ⟨_, by rw [blk_cell hb]; exact hcell i _ (List.getElem?_eq_getElem (by omega))⟩
theorem copytree_ev (l : List S28) (hl : l.length ≤ 100) (hr : ∀ x ∈ l, x.f3.length ≤ 17592186043904 ∧ x.f4.length ≤ 5864062014634) : Ev (fun k => potsherdref12_CopyTree.f k l) l := by
  unfold potsherdref12_CopyTree.f
  have key := Ev_fold (g := fun k s i => potsherdref12_CopyTree.l0 k l (l.length : Int) i s) l.length (fun i => l.take i) l ?_ ?_
  · simpa using key
  · refine Ev.step (f := fun _ => some l) (fun k => ?_) (Ev.now _)
    simp only [potsherdref12_CopyTree.l0]; rw [if_neg (by omega), List.take_length]
  · intro i hi r h
    have hx := hr _ (getD_mem l hi)
    refine Ev.step (fun k => ?_) h
    simp only [potsherdref12_CopyTree.l0]; rw [if_pos (by omega), if_pos (by omega), if_pos (by omega), rd28, ref_copy_is _ _ _ _ _ hx.1 hx.2, w64 (a := (i : Int) + 1) (by omega) (by omega)]
    simp only [Option.bind_some]
    rw [if_pos (by simp; omega), List.take_succ_eq_append_getElem hi, List.getD_eq_getElem?_getD, List.getElem?_eq_getElem hi]
    rfl
theorem copy_T0 : ∃ k, potsherdref12_CopyTree.f k T0 = some T0 := by
  obtain ⟨K, h⟩ := copytree_ev T0 (by decide) (fun x hx => by have := T0_empty x hx; rw [this.1, this.2]; simp)
  exact ⟨K, h K (Nat.le_refl _)⟩
/-- The first pages from an end on, struck. -/
def zq (q : List Int) (z : Int) : Nat → List Int
  | 0 => q
  | i + 1 => if (i : Int) * 16 ≥ z then (zq q z i).set i 0 else zq q z i
theorem zq_len (q : List Int) (z : Int) : ∀ i, (zq q z i).length = q.length
  | 0 => rfl
  | i + 1 => by simp only [zq]; split <;> simp [zq_len q z i]
theorem getD_set0 (q : List Int) (p r : Nat) (v : Int) (hp : p < q.length) : (q.set p v).getD r 0 = if r = p then v else q.getD r 0 := by
  rw [List.getD_eq_getElem?_getD, List.getD_eq_getElem?_getD, List.getElem?_set]
  by_cases c : p = r
  · subst c; rw [if_pos rfl, if_pos rfl, if_pos hp]; rfl
  · rw [if_neg c, if_neg (fun x => c x.symm)]
theorem zq_get (q : List Int) (z : Int) : ∀ i, i ≤ q.length → ∀ r : Nat, (zq q z i).getD r 0 = if r < i ∧ (r : Int) * 16 ≥ z then 0 else q.getD r 0
  | 0, _, r => by rw [if_neg (by omega)]; rfl
  | i + 1, hi, r => by
    have ih := zq_get q z i (by omega) r
    simp only [zq]
    by_cases c : (i : Int) * 16 ≥ z
    · rw [if_pos c, getD_set0 _ _ _ _ (by rw [zq_len]; omega), ih]
      by_cases d : r = i
      · subst d; rw [if_pos rfl, if_pos ⟨by omega, c⟩]
      · rw [if_neg d]
        by_cases f : r < i ∧ (r : Int) * 16 ≥ z
        · rw [if_pos f, if_pos ⟨by omega, f.2⟩]
        · rw [if_neg f, if_neg (fun x => f ⟨by omega, x.2⟩)]
    · rw [if_neg c, ih]
      by_cases f : r < i ∧ (r : Int) * 16 ≥ z
      · rw [if_pos f, if_pos ⟨by omega, f.2⟩]
      · rw [if_neg f, if_neg (fun x => ?_)]
        have : r ≠ i := fun y => by subst y; exact c x.2
        exact f ⟨by omega, x.2⟩
/-- How many of the first pages there are. -/
def nz (q : List Int) : Nat → Nat
  | 0 => 0
  | n + 1 => nz q n + (if q.getD n 0 = 0 then 0 else 1)
theorem nz_refs (i : Int) (q : List Int) : ∀ n, (refsTo i q n).length = nz q n
  | 0 => by simp [refsTo, nz]
  | n + 1 => by
    have := nz_refs i q n
    by_cases c : q.getD n 0 = 0
    · rw [refs_skip i q n c, this]; simp only [nz]; rw [if_pos c]; rfl
    · rw [refs_add i q n c, List.length_append, this]; simp only [nz]; rw [if_neg c]; rfl
theorem nz_le (q : List Int) : ∀ n, nz q n ≤ n
  | 0 => by simp [nz]
  | n + 1 => by have := nz_le q n; simp only [nz]; split <;> omega
/-- Pages that are none, and pages that are there, are all pages of a range that holds all that are there. -/
theorem cnt_nz (q : List Int) (m : Nat) : ∀ n, m ≤ n → (∀ p, m ≤ p → p < n → q.getD p 0 = 0) → cntZ q (List.range m) + nz q n = m := by
  have h0 : ∀ m, cntZ q (List.range m) + nz q m = m := by
    intro m
    induction m with
    | zero => rfl
    | succ m ih =>
      have : cntZ q (List.range (m + 1)) = cntZ q (List.range m) + (if q.getD m 0 = 0 then 1 else 0) := by
        unfold cntZ
        rw [List.range_succ, List.filter_append, List.length_append]
        by_cases c : q.getD m 0 = 0
        · rw [if_pos c]; simp only [List.filter_cons, List.filter_nil, decide_eq_true c, if_true, List.length_singleton]
        · rw [if_neg c]; simp only [List.filter_cons, List.filter_nil, decide_eq_false c, Bool.false_eq_true, if_false, List.length_nil]
      rw [this]
      simp only [nz]
      by_cases c : q.getD m 0 = 0
      · rw [if_pos c, if_pos c]; omega
      · rw [if_neg c, if_neg c]; omega
  intro n hmn h
  obtain ⟨d, rfl⟩ : ∃ d, n = m + d := ⟨n - m, by omega⟩
  clear hmn
  induction d with
  | zero => exact h0 m
  | succ d ih =>
    have := ih (fun p h1 h2 => h p h1 (by omega))
    have hz := h (m + d) (by omega) (by omega)
    rw [show m + (d + 1) = m + d + 1 from rfl]
    simp only [nz]
    rw [if_pos hz]; omega
theorem pgs_zero (n : Nat) : pgs 0 n = List.range ((n + 15) / 16) := by
  unfold pgs
  by_cases h : n = 0
  · subst h; rfl
  · rw [if_neg h]
    have e : (List.range ((0 % 16 + n + 15) / 16)).map (0 / 16 + ·) = List.range ((n + 15) / 16) := by
      rw [show 0 % 16 + n + 15 = n + 15 by omega]
      have : (fun x : Nat => 0 / 16 + x) = id := by funext x; simp
      rw [this, List.map_id]
    exact e
/-- The first tree with a node in its second place. -/
def T1 (x : S28) : List S28 := T0.set 1 x
theorem T1_is (x : S28) : T1 x = [⟨2, 1, 0, [], []⟩, x, z28, z28, z28, z28, z28, z28, z28, z28, z28, z28] := rfl
theorem T1_len (x : S28) : (T1 x).length = 12 := rfl
theorem T1_ok {x : S28} (h : okX x) : okT (T1 x) := by
  refine ⟨rfl, fun y hy => ?_⟩
  rw [T1_is] at hy
  have hd : okX ⟨2, 1, 0, [], []⟩ := Or.inr (Or.inr ⟨rfl, rfl, rfl, rfl, by simp [okL]⟩)
  have hz : okX z28 := Or.inl ⟨rfl, rfl, rfl, rfl, rfl⟩
  simp only [List.mem_cons, List.not_mem_nil, or_false] at hy
  rcases hy with rfl | rfl | rfl | rfl | rfl | rfl | rfl | rfl | rfl | rfl | rfl | rfl
  · exact hd
  · exact h
  all_goals exact hz
theorem pages_file {li si : Int} {q : List Int} {e : List S78} (h : okN 1 li si q e) : pagesX ⟨1, li, si, q, e⟩ = nz q 5 := by
  have hq : q.length = 5 := (okN_file h).2.2.2.2.2.1
  unfold pagesX refsOf
  rw [if_pos ⟨rfl, h, by decide, by decide⟩, nz_refs, hq]
theorem pages_none : pagesX z28 = 0 := by unfold pagesX refsOf; rw [if_neg (fun x => by have := x.1; simp [z28] at this)]; rfl
theorem pages_dir : pagesX ⟨2, 1, 0, [], []⟩ = 0 := by unfold pagesX refsOf; rw [if_neg (fun x => by have := x.1; simp at this)]; rfl
theorem used_T1 {x : S28} (h : okX x) : used (T1 x) = (pagesX x : Int) := by
  unfold used
  rw [if_pos (T1_ok h), T1_len, T1_is]
  simp only [usum, List.getD_cons_zero, List.getD_cons_succ, pages_none, pages_dir]
  omega
theorem left_T1 {x : S28} (h : okX x) : left (T1 x) 60 = 60 - (pagesX x : Int) := by
  have h5 := pagesX_le x
  unfold left
  rw [if_pos (T1_ok h), used_T1 h, if_pos (by omega)]
theorem nz_mono {q q' : List Int} (h : ∀ r : Nat, q'.getD r 0 ≠ 0 → q.getD r 0 ≠ 0) : ∀ n, nz q' n ≤ nz q n
  | 0 => Nat.le_refl _
  | n + 1 => by
    have ih := nz_mono h n
    simp only [nz]
    by_cases c : q'.getD n 0 = 0
    · rw [if_pos c]; omega
    · rw [if_neg c, if_neg (h n c)]; omega
theorem zq_ok {li si z : Int} {q : List Int} {e : List S78} (h : okN 1 li si q e) (h0 : 0 ≤ z) (h1 : z ≤ si) : okN 1 li z (zq q z 5) e := by
  obtain ⟨hQ, f1, f2, f3, f4, f5, f6⟩ := okN_file h
  refine Or.inr (Or.inl ⟨rfl, fun p hp => ?_, f1, f2, h0, by omega, by rw [zq_len]; exact f5, f6⟩)
  rw [zq_len] at hp
  have hp' := hQ p hp
  unfold okQ at hp' ⊢
  rw [zq_get q z 5 (by omega) p]
  by_cases c : p < 5 ∧ (p : Int) * 16 ≥ z
  · rw [if_pos c]; omega
  · rw [if_neg c]; exact ⟨hp'.1, hp'.2.1, fun x => absurd ⟨by omega, x⟩ c⟩
theorem more_file {li si : Int} {q : List Int} {e : List S78} (z : Int) (h : okN 1 li z q e) (h0 : 0 ≤ si) (h1 : si ≤ 80) (hq : ∀ p : Nat, (p : Int) * 16 ≥ si → p < 5 → q.getD p 0 = 0) :
    moreN 1 li z q e 0 si + (nz q 5 : Int) = ((si.toNat + 15) / 16 : Nat) := by
  unfold moreN
  rw [if_pos ⟨rfl, h, by omega, h0, by omega⟩]
  have e0 : (0 : Int).toNat = 0 := rfl
  rw [e0, pgs_zero]
  have := cnt_nz q ((si.toNat + 15) / 16) 5 (by omega) (fun p h1 h2 => hq p (by omega) h2)
  omega
theorem more_le (t li si : Int) (q : List Int) (e : List S78) (a n : Int) : 0 ≤ moreN t li si q e a n ∧ moreN t li si q e a n ≤ 6 := by
  unfold moreN; split
  · rename_i h; have := cntZ_le q (pgs a.toNat n.toNat); have := pgs_len h.2.2; omega
  · omega
theorem less_facts {li si z : Int} {q : List Int} {e : List S78} (h : okN 1 li si q e) (h0 : 0 ≤ z) (h1 : z ≤ si) :
    ∃ P P' C C' : Int, used (T1 ⟨1, li, si, q, e⟩) = P ∧ used (T1 ⟨1, li, z, zq q z 5, e⟩) = P' ∧ left (T1 ⟨1, li, si, q, e⟩) 60 = 60 - P ∧ left (T1 ⟨1, li, z, zq q z 5, e⟩) 60 = 60 - P' ∧
      moreN 1 li si q e 0 si = C ∧ moreN 1 li z (zq q z 5) e 0 si = C' ∧ C' + P' = C + P ∧ 0 ≤ P' ∧ P' ≤ P ∧ P ≤ 5 ∧ 0 ≤ C ∧ C ≤ 6 ∧ 0 ≤ C' ∧ C' ≤ 6 := by
  have h' := zq_ok h h0 h1
  obtain ⟨hQ, f1, f2, f3, f4, f5, f6⟩ := okN_file h
  have hz : ∀ p : Nat, (p : Int) * 16 ≥ si → p < 5 → q.getD p 0 = 0 := fun p h1 h2 => (hQ p (by omega)).2.2 h1
  have m1 := more_file (li := li) (si := si) (q := q) (e := e) si h f3 f4 hz
  have m2 := more_file (li := li) (si := si) (q := zq q z 5) (e := e) z h' f3 f4 (fun p h1 h2 => by
    rw [zq_get q z 5 (by omega) p]
    by_cases c : p < 5 ∧ (p : Int) * 16 ≥ z
    · rw [if_pos c]
    · rw [if_neg c]; exact hz p h1 h2)
  have hm := nz_mono (q := q) (q' := zq q z 5) (fun r hr => by
    rw [zq_get q z 5 (by omega) r] at hr
    by_cases c : r < 5 ∧ (r : Int) * 16 ≥ z
    · rw [if_pos c] at hr; exact absurd rfl hr
    · rw [if_neg c] at hr; exact hr) 5
  have hl := nz_le q 5
  have b1 := more_le 1 li si q e 0 si
  have b2 := more_le 1 li z (zq q z 5) e 0 si
  have p1 := pages_file h
  have p2 := pages_file h'
  refine ⟨nz q 5, nz (zq q z 5) 5, _, _, by rw [used_T1 h, p1], by rw [used_T1 h', p2], by rw [left_T1 h, p1], by rw [left_T1 h', p2], rfl, rfl, by omega, by omega, by omega, by omega, ?_, ?_, ?_, ?_⟩ <;> omega
def cellOf (w : World) (g i : Nat) : Value := (w.cell? ⟨g, i, none⟩).getD undef
theorem cellOf_eq {w : World} {g i : Nat} {cs : Array Value} {t : TypeId} (h : w.heap[g]? = some (.cells cs t (0, 0))) (hi : i < cs.size) : w.cell? ⟨g, i, none⟩ = some (cellOf w g i) := by
  unfold cellOf
  rw [blk_cell h i, Array.getElem?_eq_getElem hi]; rfl
/-- The blocks that a store of two nodes reads and writes. -/
structure Blk (bt bu bn bm gt gu : Nat) (vt vu n0 n1 n2 n3 n4 m0 m1 m2 m3 m4 : Value) (w : World) : Prop where
  t : w.heap[bt]? = some (.cells #[vt] 24 (0, 0))
  u : w.heap[bu]? = some (.cells #[vu] 24 (0, 0))
  n : w.heap[bn]? = some (.cells #[n0, n1, n2, n3, n4] 28 (0, 0))
  m : w.heap[bm]? = some (.cells #[m0, m1, m2, m3, m4] 28 (0, 0))
  gt_ : ∃ cs, w.heap[gt]? = some (.cells cs 28 (0, 0)) ∧ 9 < cs.size
  gu_ : ∃ cs, w.heap[gu]? = some (.cells cs 28 (0, 0)) ∧ 9 < cs.size
section
variable {bt bu bn bm gt gu : Nat} {vt vu n0 n1 n2 n3 n4 m0 m1 m2 m3 m4 : Value} {w : World}
theorem Blk.set (h : Blk bt bu bn bm gt gu vt vu n0 n1 n2 n3 n4 m0 m1 m2 m3 m4 w) {g : Nat} (hg : g = gt ∨ g = gu) (h1 : bn ≠ gt ∧ bn ≠ gu ∧ bm ≠ gt ∧ bm ≠ gu ∧ gt ≠ gu) (i : Nat) (v : Value) :
    Blk bt bu bn bm gt gu vt vu n0 n1 n2 n3 n4 m0 m1 m2 m3 m4 (w.setCell ⟨g, i, none⟩ v) := by
  obtain ⟨ct, ht, hts⟩ := h.gt_
  obtain ⟨cu, hu, hus⟩ := h.gu_
  have ntt : bt ≠ gt := blk_ne h.t ht (by decide)
  have ntu : bt ≠ gu := blk_ne h.t hu (by decide)
  have nut : bu ≠ gt := blk_ne h.u ht (by decide)
  have nuu : bu ≠ gu := blk_ne h.u hu (by decide)
  rcases hg with rfl | rfl
  · exact ⟨blk_far h.t ntt _, blk_far h.u nut _, blk_far h.n h1.1 _, blk_far h.m h1.2.2.1 _, ⟨_, blk_put ht i v rfl, by simpa using hts⟩, ⟨_, blk_far hu (Ne.symm h1.2.2.2.2) _, hus⟩⟩
  · exact ⟨blk_far h.t ntu _, blk_far h.u nuu _, blk_far h.n h1.2.1 _, blk_far h.m h1.2.2.2.1 _, ⟨_, blk_far ht h1.2.2.2.2 _, hts⟩, ⟨_, blk_put hu i v rfl, by simpa using hus⟩⟩
theorem Blk.drew (h : Blk bt bu bn bm gt gu vt vu n0 n1 n2 n3 n4 m0 m1 m2 m3 m4 w) : Blk bt bu bn bm gt gu vt vu n0 n1 n2 n3 n4 m0 m1 m2 m3 m4 w.drew := ⟨h.t, h.u, h.n, h.m, h.gt_, h.gu_⟩
abbrev S14 (bt bu bn bm gt gu : Nat) (vt vu n0 n1 n2 n3 n4 m0 m1 m2 m3 m4 : Value) (w : World) : Prop :=
  w.cell? ⟨bt, 0, none⟩ = some vt ∧ w.cell? ⟨bu, 0, none⟩ = some vu ∧
  w.cell? ⟨bn, 0, none⟩ = some n0 ∧ w.cell? ⟨bn, 1, none⟩ = some n1 ∧ w.cell? ⟨bn, 2, none⟩ = some n2 ∧ w.cell? ⟨bn, 3, none⟩ = some n3 ∧ w.cell? ⟨bn, 4, none⟩ = some n4 ∧
  w.cell? ⟨bm, 0, none⟩ = some m0 ∧ w.cell? ⟨bm, 1, none⟩ = some m1 ∧ w.cell? ⟨bm, 2, none⟩ = some m2 ∧ w.cell? ⟨bm, 3, none⟩ = some m3 ∧ w.cell? ⟨bm, 4, none⟩ = some m4 ∧
  w.cell? ⟨gt, 5, none⟩ = some (cellOf w gt 5) ∧ w.cell? ⟨gt, 6, none⟩ = some (cellOf w gt 6) ∧ w.cell? ⟨gt, 7, none⟩ = some (cellOf w gt 7) ∧ w.cell? ⟨gt, 8, none⟩ = some (cellOf w gt 8) ∧ w.cell? ⟨gt, 9, none⟩ = some (cellOf w gt 9) ∧
  w.cell? ⟨gu, 5, none⟩ = some (cellOf w gu 5) ∧ w.cell? ⟨gu, 6, none⟩ = some (cellOf w gu 6) ∧ w.cell? ⟨gu, 7, none⟩ = some (cellOf w gu 7) ∧ w.cell? ⟨gu, 8, none⟩ = some (cellOf w gu 8) ∧ w.cell? ⟨gu, 9, none⟩ = some (cellOf w gu 9) ∧
  w.frozen? ⟨gt, 5, none⟩ = false ∧ w.frozen? ⟨gt, 6, none⟩ = false ∧ w.frozen? ⟨gt, 7, none⟩ = false ∧ w.frozen? ⟨gt, 8, none⟩ = false ∧ w.frozen? ⟨gt, 9, none⟩ = false ∧
  w.frozen? ⟨gu, 5, none⟩ = false ∧ w.frozen? ⟨gu, 6, none⟩ = false ∧ w.frozen? ⟨gu, 7, none⟩ = false ∧ w.frozen? ⟨gu, 8, none⟩ = false ∧ w.frozen? ⟨gu, 9, none⟩ = false ∧
  Aside0 (Blk bt bu bn bm gt gu vt vu n0 n1 n2 n3 n4 m0 m1 m2 m3 m4 w)
theorem Blk.s (h : Blk bt bu bn bm gt gu vt vu n0 n1 n2 n3 n4 m0 m1 m2 m3 m4 w) : S14 bt bu bn bm gt gu vt vu n0 n1 n2 n3 n4 m0 m1 m2 m3 m4 w := by
  obtain ⟨ct, ht, hts⟩ := h.gt_
  obtain ⟨cu, hu, hus⟩ := h.gu_
  exact ⟨(blk_cell h.t 0).trans rfl, (blk_cell h.u 0).trans rfl, (blk_cell h.n 0).trans rfl, (blk_cell h.n 1).trans rfl, (blk_cell h.n 2).trans rfl, (blk_cell h.n 3).trans rfl, (blk_cell h.n 4).trans rfl,
    (blk_cell h.m 0).trans rfl, (blk_cell h.m 1).trans rfl, (blk_cell h.m 2).trans rfl, (blk_cell h.m 3).trans rfl, (blk_cell h.m 4).trans rfl,
    cellOf_eq ht (by omega), cellOf_eq ht (by omega), cellOf_eq ht (by omega), cellOf_eq ht (by omega), cellOf_eq ht (by omega),
    cellOf_eq hu (by omega), cellOf_eq hu (by omega), cellOf_eq hu (by omega), cellOf_eq hu (by omega), cellOf_eq hu (by omega),
    blk_frozen ht _, blk_frozen ht _, blk_frozen ht _, blk_frozen ht _, blk_frozen ht _, blk_frozen hu _, blk_frozen hu _, blk_frozen hu _, blk_frozen hu _, blk_frozen hu _, ⟨h⟩⟩
theorem S14.blk (h : S14 bt bu bn bm gt gu vt vu n0 n1 n2 n3 n4 m0 m1 m2 m3 m4 w) : Blk bt bu bn bm gt gu vt vu n0 n1 n2 n3 n4 m0 m1 m2 m3 m4 w := h.2.2.2.2.2.2.2.2.2.2.2.2.2.2.2.2.2.2.2.2.2.2.2.2.2.2.2.2.2.2.2.2.out
theorem Blk.five (h : Blk bt bu bn bm gt gu vt vu n0 n1 n2 n3 n4 m0 m1 m2 m3 m4 w) {g : Nat} (hg : g = gt ∨ g = gu) (h1 : bn ≠ gt ∧ bn ≠ gu ∧ bm ≠ gt ∧ bm ≠ gu ∧ gt ≠ gu) (a0 a1 a2 a3 a4 : Value) :
    S14 bt bu bn bm gt gu vt vu n0 n1 n2 n3 n4 m0 m1 m2 m3 m4 (((((w.setCell ⟨g, 5, none⟩ a0).setCell ⟨g, 6, none⟩ a1).setCell ⟨g, 7, none⟩ a2).setCell ⟨g, 8, none⟩ a3).setCell ⟨g, 9, none⟩ a4) :=
  (((((h.set hg h1 5 a0).set hg h1 6 a1).set hg h1 7 a2).set hg h1 8 a3).set hg h1 9 a4).s
end
theorem size9 {cs : Array Value} (h : ReadsC cs T0) : 9 < cs.size := by
  obtain ⟨c, hs, _, hcell⟩ := h 1 _ (List.getElem?_eq_getElem (by decide))
  have := hcell 4 _ (List.getElem?_eq_getElem (by omega))
  exact (Array.getElem?_eq_some_iff.1 this).1
/-- What lies in memory behind the stores of the two nodes. -/
structure P14 (w0 : World) (bt bu bn bm gt gu gq cc cu cq : Nat) (li si z : Int) (q : List Int) (e : List S78) (A3 : Option Addr) (c3 : Nat) (A4 : Option Addr) (c4 : Nat) (Ae : Option Addr) (ce : Nat) (w : World) : Prop where
  t : w.heap[bt]? = some (.cells #[.slice (some ⟨gt, 0, none⟩) 12 cc] 24 (0, 0))
  u : w.heap[bu]? = some (.cells #[.slice (some ⟨gu, 0, none⟩) 12 cu] 24 (0, 0))
  n : w.heap[bn]? = some (.cells #[.int .i64 1, .int .i64 li, .int .i64 si, .slice A3 q.length c3, .slice A4 e.length c4] 28 (0, 0))
  m : w.heap[bm]? = some (.cells #[.int .i64 1, .int .i64 li, .int .i64 z, .slice (some ⟨gq, 0, none⟩) q.length cq, .slice Ae e.length ce] 28 (0, 0))
  below : Below w0.heap.size w0 w
  ct : Kd.C k28 w (some ⟨gt, 0, none⟩) 12 (T1 ⟨1, li, si, q, e⟩)
  cu' : Kd.C k28 w (some ⟨gu, 0, none⟩) 12 (T1 ⟨1, li, z, zq q z 5, e⟩)
  q3 : Kd.C (Kd.int .i64) w A3 q.length q
  e4 : Kd.C k78 w A4 e.length e
  qm : Kd.C (Kd.int .i64) w (some ⟨gq, 0, none⟩) q.length (zq q z 5)
  em : Kd.C k78 w Ae e.length e
section
variable {w0 w w' : World} {bt bu bn bm gt gu gq cc cu cq : Nat} {li si z : Int} {q : List Int} {e : List S78} {A3 : Option Addr} {c3 : Nat} {A4 : Option Addr} {c4 : Nat} {Ae : Option Addr} {ce : Nat}
theorem P14.step (h : P14 w0 bt bu bn bm gt gu gq cc cu cq li si z q e A3 c3 A4 c4 Ae ce w) (hb : Below w.heap.size w w') : P14 w0 bt bu bn bm gt gu gq cc cu cq li si z q e A3 c3 A4 c4 Ae ce w' :=
  ⟨blk_below h.t hb, blk_below h.u hb, blk_below h.n hb, blk_below h.m hb, below_step h.below hb, Kd.C_below h.ct hb, Kd.C_below h.cu' hb, Kd.C_below h.q3 hb, Kd.C_below h.e4 hb, Kd.C_below h.qm hb, Kd.C_below h.em hb⟩
theorem P14.drew (h : P14 w0 bt bu bn bm gt gu gq cc cu cq li si z q e A3 c3 A4 c4 Ae ce w) : P14 w0 bt bu bn bm gt gu gq cc cu cq li si z q e A3 c3 A4 c4 Ae ce w.drew := h.step (below_drew (Below.refl _ _))
theorem P14.make {ct cus : Array Value} (ht : w.heap[bt]? = some (.cells #[.slice (some ⟨gt, 0, none⟩) 12 cc] 24 (0, 0)))
    (hu : w.heap[bu]? = some (.cells #[.slice (some ⟨gu, 0, none⟩) 12 cu] 24 (0, 0)))
    (hn : w.heap[bn]? = some (.cells #[.int .i64 1, .int .i64 li, .int .i64 si, .slice A3 q.length c3, .slice A4 e.length c4] 28 (0, 0)))
    (hm : w.heap[bm]? = some (.cells #[.int .i64 1, .int .i64 li, .int .i64 z, .slice (some ⟨gq, 0, none⟩) q.length cq, .slice Ae e.length ce] 28 (0, 0)))
    (hb : Below w0.heap.size w0 w) (rt : ReadsC ct T0) (ru : ReadsC cus T0)
    (hgt : w.heap[gt]? = some (.cells (put5 ct (.int .i64 1) (.int .i64 li) (.int .i64 si) (.slice A3 q.length c3) (.slice A4 e.length c4)) 28 (0, 0)))
    (hgu : w.heap[gu]? = some (.cells (put5 cus (.int .i64 1) (.int .i64 li) (.int .i64 z) (.slice (some ⟨gq, 0, none⟩) q.length cq) (.slice Ae e.length ce)) 28 (0, 0)))
    (l3 : q.length ≤ c3) (g3 : Kd.C (Kd.int .i64) w A3 q.length q) (l4 : e.length ≤ c4) (g4 : Kd.C k78 w A4 e.length e)
    (lm : q.length ≤ cq) (gm : Kd.C (Kd.int .i64) w (some ⟨gq, 0, none⟩) q.length (zq q z 5)) (le : e.length ≤ ce) (ge : Kd.C k78 w Ae e.length e) : P14 w0 bt bu bn bm gt gu gq cc cu cq li si z q e A3 c3 A4 c4 Ae ce w := by
  refine ⟨ht, hu, hn, hm, hb, C_put (by decide) ⟨1, li, si, q, e⟩ hgt rt l3 g3 l4 g4, C_put (A3 := some ⟨gq, 0, none⟩) (c3 := cq) (A4 := Ae) (c4 := ce) (by decide) ⟨1, li, z, zq q z 5, e⟩ ?_ ru (by show (zq q z 5).length ≤ cq; rw [zq_len]; exact lm) (by show Kd.C (Kd.int .i64) w (some ⟨gq, 0, none⟩) (zq q z 5).length (zq q z 5); rw [zq_len]; exact gm) le ge, g3, g4, gm, ge⟩
  show w.heap[gu]? = some (.cells (put5 cus (.int .i64 1) (.int .i64 li) (.int .i64 z) (.slice (some ⟨gq, 0, none⟩) (zq q z 5).length cq) (.slice Ae e.length ce)) 28 (0, 0))
  rw [zq_len]; exact hgu
abbrev S15 (w0 : World) (bt bu bn bm gt gu gq cc cu cq : Nat) (li si z : Int) (q : List Int) (e : List S78) (A3 : Option Addr) (c3 : Nat) (A4 : Option Addr) (c4 : Nat) (Ae : Option Addr) (ce : Nat) (w : World) : Prop :=
  w.cell? ⟨bt, 0, none⟩ = some (.slice (some ⟨gt, 0, none⟩) 12 cc) ∧ w.cell? ⟨bu, 0, none⟩ = some (.slice (some ⟨gu, 0, none⟩) 12 cu) ∧
  w.cell? ⟨bn, 0, none⟩ = some (.int .i64 1) ∧ w.cell? ⟨bn, 1, none⟩ = some (.int .i64 li) ∧ w.cell? ⟨bn, 2, none⟩ = some (.int .i64 si) ∧ w.cell? ⟨bn, 3, none⟩ = some (.slice A3 q.length c3) ∧ w.cell? ⟨bn, 4, none⟩ = some (.slice A4 e.length c4) ∧
  w.cell? ⟨bm, 0, none⟩ = some (.int .i64 1) ∧ w.cell? ⟨bm, 1, none⟩ = some (.int .i64 li) ∧ w.cell? ⟨bm, 2, none⟩ = some (.int .i64 z) ∧ w.cell? ⟨bm, 3, none⟩ = some (.slice (some ⟨gq, 0, none⟩) q.length cq) ∧ w.cell? ⟨bm, 4, none⟩ = some (.slice Ae e.length ce) ∧
  Aside0 (P14 w0 bt bu bn bm gt gu gq cc cu cq li si z q e A3 c3 A4 c4 Ae ce w)
theorem P14.s (h : P14 w0 bt bu bn bm gt gu gq cc cu cq li si z q e A3 c3 A4 c4 Ae ce w) : S15 w0 bt bu bn bm gt gu gq cc cu cq li si z q e A3 c3 A4 c4 Ae ce w :=
  ⟨(blk_cell h.t 0).trans rfl, (blk_cell h.u 0).trans rfl, (blk_cell h.n 0).trans rfl, (blk_cell h.n 1).trans rfl, (blk_cell h.n 2).trans rfl, (blk_cell h.n 3).trans rfl, (blk_cell h.n 4).trans rfl,
    (blk_cell h.m 0).trans rfl, (blk_cell h.m 1).trans rfl, (blk_cell h.m 2).trans rfl, (blk_cell h.m 3).trans rfl, (blk_cell h.m 4).trans rfl, ⟨h⟩⟩
theorem S15.p (h : S15 w0 bt bu bn bm gt gu gq cc cu cq li si z q e A3 c3 A4 c4 Ae ce w) : P14 w0 bt bu bn bm gt gu gq cc cu cq li si z q e A3 c3 A4 c4 Ae ce w := h.2.2.2.2.2.2.2.2.2.2.2.2.out
/-- Five cells of one block are written: another block is as it was. -/
theorem far5 {g b t : Nat} {cs : Array Value} (h : w.heap[b]? = some (.cells cs t (0, 0))) (hne : b ≠ g) (a0 a1 a2 a3 a4 : Value) : (((((w.setCell ⟨g, 5, none⟩ a0).setCell ⟨g, 6, none⟩ a1).setCell ⟨g, 7, none⟩ a2).setCell ⟨g, 8, none⟩ a3).setCell ⟨g, 9, none⟩ a4).heap[b]? = some (.cells cs t (0, 0)) :=
  blk_far (blk_far (blk_far (blk_far (blk_far h hne _) hne _) hne _) hne _) hne _
theorem own5 {g : Nat} {cs : Array Value} (h : w.heap[g]? = some (.cells cs 28 (0, 0))) (a0 a1 a2 a3 a4 : Value) : (((((w.setCell ⟨g, 5, none⟩ a0).setCell ⟨g, 6, none⟩ a1).setCell ⟨g, 7, none⟩ a2).setCell ⟨g, 8, none⟩ a3).setCell ⟨g, 9, none⟩ a4).heap[g]? = some (.cells (put5 cs a0 a1 a2 a3 a4) 28 (0, 0)) :=
  blk_put (blk_put (blk_put (blk_put (blk_put h 5 _ rfl) 6 _ rfl) 7 _ rfl) 8 _ rfl) 9 _ rfl
theorem bel5 {g : Nat} (h : Below w0.heap.size w0 w) (hg : w0.heap.size ≤ g) (a0 a1 a2 a3 a4 : Value) : Below w0.heap.size w0 (((((w.setCell ⟨g, 5, none⟩ a0).setCell ⟨g, 6, none⟩ a1).setCell ⟨g, 7, none⟩ a2).setCell ⟨g, 8, none⟩ a3).setCell ⟨g, 9, none⟩ a4) :=
  below_set (below_set (below_set (below_set (below_set h hg) hg) hg) hg) hg
theorem R5 {α : Type} {d : Kd α} {t base : Nat} {v : Value} {xs : List α} {g : Nat} {cs : Array Value} (h : Kd.R d t w base (fun _ => True) v xs) (hb : w.heap[g]? = some (.cells cs 28 (0, 0))) (hE : ∀ q, q ∈ t :: d.E → q ≠ 28) (a0 a1 a2 a3 a4 : Value) :
    Kd.R d t (((((w.setCell ⟨g, 5, none⟩ a0).setCell ⟨g, 6, none⟩ a1).setCell ⟨g, 7, none⟩ a2).setCell ⟨g, 8, none⟩ a3).setCell ⟨g, 9, none⟩ a4) base (fun _ => True) v xs :=
  have h0 := Kd.R_types h hb hE
  Kd.R_mono (Kd.R_far (p := ⟨g, 9, none⟩) (Kd.R_far (p := ⟨g, 8, none⟩) (Kd.R_far (p := ⟨g, 7, none⟩) (Kd.R_far (p := ⟨g, 6, none⟩) (Kd.R_far (p := ⟨g, 5, none⟩) h0 (fun _ hk => hk.2) a0) (fun _ hk => hk.2) a1) (fun _ hk => hk.2) a2) (fun _ hk => hk.2) a3) (fun _ hk => hk.2) a4) (fun _ _ => trivial)
/-- Both nodes stored, whichever is stored first. -/
structure Pre (w0 : World) (bt bu bn bm gt gu gq cc cu cq : Nat) (ct cus : Array Value) (li si z : Int) (q : List Int) (e : List S78) (A3 : Option Addr) (c3 : Nat) (A4 : Option Addr) (c4 : Nat) (Ae : Option Addr) (ce : Nat) (w : World) : Prop where
  t : w.heap[bt]? = some (.cells #[.slice (some ⟨gt, 0, none⟩) 12 cc] 24 (0, 0))
  u : w.heap[bu]? = some (.cells #[.slice (some ⟨gu, 0, none⟩) 12 cu] 24 (0, 0))
  n : w.heap[bn]? = some (.cells #[.int .i64 1, .int .i64 li, .int .i64 si, .slice A3 q.length c3, .slice A4 e.length c4] 28 (0, 0))
  m : w.heap[bm]? = some (.cells #[.int .i64 1, .int .i64 li, .int .i64 z, .slice (some ⟨gq, 0, none⟩) q.length cq, .slice Ae e.length ce] 28 (0, 0))
  below : Below w0.heap.size w0 w
  gt_ : w.heap[gt]? = some (.cells ct 28 (0, 0))
  gu_ : w.heap[gu]? = some (.cells cus 28 (0, 0))
  hq : Kd.R (Kd.int .i64) 3 w w0.heap.size (fun _ => True) (.slice (some ⟨gq, 0, none⟩) q.length cq) (zq q z 5)
  he : Kd.R k78 78 w w0.heap.size (fun _ => True) (.slice Ae e.length ce) e
variable {ct cus : Array Value}
theorem Pre.put (h : Pre w0 bt bu bn bm gt gu gq cc cu cq ct cus li si z q e A3 c3 A4 c4 Ae ce w) (hne : bn ≠ gt ∧ bn ≠ gu ∧ bm ≠ gt ∧ bm ≠ gu ∧ gt ≠ gu) (hg : w0.heap.size ≤ gt) (a0 a1 a2 a3 a4 : Value) :
    Pre w0 bt bu bn bm gt gu gq cc cu cq (put5 ct a0 a1 a2 a3 a4) cus li si z q e A3 c3 A4 c4 Ae ce (((((w.setCell ⟨gt, 5, none⟩ a0).setCell ⟨gt, 6, none⟩ a1).setCell ⟨gt, 7, none⟩ a2).setCell ⟨gt, 8, none⟩ a3).setCell ⟨gt, 9, none⟩ a4) :=
  ⟨far5 h.t (blk_ne h.t h.gt_ (by decide)) .., far5 h.u (blk_ne h.u h.gt_ (by decide)) .., far5 h.n hne.1 .., far5 h.m hne.2.2.1 .., bel5 h.below hg .., own5 h.gt_ .., far5 h.gu_ (Ne.symm hne.2.2.2.2) .., R5 h.hq h.gt_ (by decide) .., R5 h.he h.gt_ (by decide) ..⟩
theorem Pre.put' (h : Pre w0 bt bu bn bm gt gu gq cc cu cq ct cus li si z q e A3 c3 A4 c4 Ae ce w) (hne : bn ≠ gt ∧ bn ≠ gu ∧ bm ≠ gt ∧ bm ≠ gu ∧ gt ≠ gu) (hg : w0.heap.size ≤ gu) (a0 a1 a2 a3 a4 : Value) :
    Pre w0 bt bu bn bm gt gu gq cc cu cq ct (put5 cus a0 a1 a2 a3 a4) li si z q e A3 c3 A4 c4 Ae ce (((((w.setCell ⟨gu, 5, none⟩ a0).setCell ⟨gu, 6, none⟩ a1).setCell ⟨gu, 7, none⟩ a2).setCell ⟨gu, 8, none⟩ a3).setCell ⟨gu, 9, none⟩ a4) :=
  ⟨far5 h.t (blk_ne h.t h.gu_ (by decide)) .., far5 h.u (blk_ne h.u h.gu_ (by decide)) .., far5 h.n hne.2.1 .., far5 h.m hne.2.2.2.1 .., bel5 h.below hg .., far5 h.gt_ hne.2.2.2.2 .., own5 h.gu_ .., R5 h.hq h.gu_ (by decide) .., R5 h.he h.gu_ (by decide) ..⟩
theorem Pre.p14 (h : Pre w0 bt bu bn bm gt gu gq cc cu cq (put5 ct (.int .i64 1) (.int .i64 li) (.int .i64 si) (.slice A3 q.length c3) (.slice A4 e.length c4)) (put5 cus (.int .i64 1) (.int .i64 li) (.int .i64 z) (.slice (some ⟨gq, 0, none⟩) q.length cq) (.slice Ae e.length ce)) li si z q e A3 c3 A4 c4 Ae ce w)
    (rt : ReadsC ct T0) (ru : ReadsC cus T0) (h3 : Kd.C (Kd.int .i64) w0 A3 q.length q) (l3 : q.length ≤ c3) (h4 : Kd.C k78 w0 A4 e.length e) (l4 : e.length ≤ c4) : P14 w0 bt bu bn bm gt gu gq cc cu cq li si z q e A3 c3 A4 c4 Ae ce w := by
  have rq := Kd.R_reads' h.hq
  have re := Kd.R_reads' h.he
  rw [zq_len] at rq
  exact P14.make h.t h.u h.n h.m h.below rt ru h.gt_ h.gu_ l3 (Kd.C_below h3 h.below) l4 (Kd.C_below h4 h.below) rq.2.1 rq.2.2 re.2.1 re.2.2
end
/-- One way alone behind the code: this state of the slots, a world of this kind. -/
def OneAct (act : Act) (Pk : World → Prop) : Exit → Act → World → Prop := fun e a w => e = Exit.normal ∧ a = act ∧ Pk w
theorem T1_reach {x : S28} (h : reach x) : ∀ y ∈ T1 x, reach y := by
  intro y hy
  rw [T1_is] at hy
  have hd : reach ⟨2, 1, 0, [], []⟩ := ⟨by simp, by simp⟩
  have hz : reach z28 := ⟨by simp [z28], by simp [z28]⟩
  simp only [List.mem_cons, List.not_mem_nil, or_false] at hy
  rcases hy with rfl | rfl | rfl | rfl | rfl | rfl | rfl | rfl | rfl | rfl | rfl | rfl
  · exact hd
  · exact h
  all_goals exact hz
/-- What the law's last line asks, as its callees answer it. -/
theorem less_calls {li si z : Int} {q : List Int} {e : List S78} (h : okN 1 li si q e) (h0 : 0 ≤ z) (h1 : z ≤ si) (hs : ∀ x ∈ e, x.f0.size ≤ 140737488351232) :
    ∃ (k : Nat) (P P' L L' C C' D E : Int), quota_Used.f k (T1 ⟨1, li, si, q, e⟩) = some P ∧ quota_Used.f k (T1 ⟨1, li, z, zq q z 5, e⟩) = some P' ∧ quota_Left.f k (T1 ⟨1, li, si, q, e⟩) 60 = some L ∧ quota_Left.f k (T1 ⟨1, li, z, zq q z 5, e⟩) 60 = some L' ∧
      quota_More.f k 1 li si q e 0 si = some C ∧ quota_More.f k 1 li z (zq q z 5) e 0 si = some C' ∧ potsherdlaw18_awake.f k = some true ∧ decide (P' ≤ P) = true ∧ wrap64 (L' - L) = D ∧ wrap64 (P - P') = D ∧ wrap64 (C + P) = E ∧ wrap64 (E - P') = C' := by
  obtain ⟨P, P', C, C', u1, u2, l1, l2, m1, m2, b⟩ := less_facts h h0 h1
  have hl : e.length ≤ 5864062014634 := by have := (okN_file h).2.2.2.2.2.2; omega
  have r1 : ∀ y ∈ T1 ⟨1, li, si, q, e⟩, reach y := T1_reach ⟨hl, hs⟩
  have r2 : ∀ y ∈ T1 ⟨1, li, z, zq q z 5, e⟩, reach y := T1_reach ⟨hl, hs⟩
  obtain ⟨K1, e1⟩ := used_ev _ r1
  obtain ⟨K2, e2⟩ := used_ev _ r2
  obtain ⟨K3, e3⟩ := left_ev _ 60 (by omega) r1
  obtain ⟨K4, e4⟩ := left_ev _ 60 (by omega) r2
  obtain ⟨K5, e5⟩ := more_ev 1 li si q e 0 si (by omega) hl hs
  obtain ⟨K6, e6⟩ := more_ev 1 li z (zq q z 5) e 0 si (by omega) hl hs
  obtain ⟨K7, e7⟩ := awake_ev
  rw [u1] at e1; rw [u2] at e2; rw [l1] at e3; rw [l2] at e4; rw [m1] at e5; rw [m2] at e6
  refine ⟨K1 + K2 + K3 + K4 + K5 + K6 + K7, P, P', 60 - P, 60 - P', C, C', P - P', C + P, e1 _ (by omega), e2 _ (by omega), e3 _ (by omega), e4 _ (by omega), e5 _ (by omega), e6 _ (by omega), e7 _ (by omega), decide_eq_true (by omega), ?_, ?_, ?_, ?_⟩
  · rw [w64 (by omega) (by omega)]; omega
  · exact w64 (by omega) (by omega)
  · exact w64 (by omega) (by omega)
  · rw [w64 (by omega) (by omega)]; omega
section
variable {w0 w w' : World} {bt bu bn bm gt gu gq cc cu cq : Nat} {li si z : Int} {q : List Int} {e : List S78} {A3 : Option Addr} {c3 : Nat} {A4 : Option Addr} {c4 : Nat} {Ae : Option Addr} {ce : Nat} {k : Nat} {r n : Int}
theorem P14.used_t (h : P14 w0 bt bu bn bm gt gu gq cc cu cq li si z q e A3 c3 A4 c4 Ae ce w) (hc : 12 ≤ cc) (hk : quota_Used.f k (T1 ⟨1, li, si, q, e⟩) = some r) :
    Calls Try.prog 16 #[.agg #[.slice (some ⟨gt, 0, none⟩) 12 cc]] w fun e w' => e = .returned (.int .i64 r) ∧ Below w.heap.size w w' := quota_Used.calls k (some ⟨gt, 0, none⟩) cc (T1 ⟨1, li, si, q, e⟩) r w h.ct hc hk
theorem P14.used_u (h : P14 w0 bt bu bn bm gt gu gq cc cu cq li si z q e A3 c3 A4 c4 Ae ce w) (hc : 12 ≤ cu) (hk : quota_Used.f k (T1 ⟨1, li, z, zq q z 5, e⟩) = some r) :
    Calls Try.prog 16 #[.agg #[.slice (some ⟨gu, 0, none⟩) 12 cu]] w fun e w' => e = .returned (.int .i64 r) ∧ Below w.heap.size w w' := quota_Used.calls k (some ⟨gu, 0, none⟩) cu (T1 ⟨1, li, z, zq q z 5, e⟩) r w h.cu' hc hk
theorem P14.left_t (h : P14 w0 bt bu bn bm gt gu gq cc cu cq li si z q e A3 c3 A4 c4 Ae ce w) (hc : 12 ≤ cc) (hk : quota_Left.f k (T1 ⟨1, li, si, q, e⟩) n = some r) :
    Calls Try.prog 18 #[.agg #[.slice (some ⟨gt, 0, none⟩) 12 cc], .int .i64 n] w fun e w' => e = .returned (.int .i64 r) ∧ Below w.heap.size w w' := quota_Left.calls k (some ⟨gt, 0, none⟩) cc (T1 ⟨1, li, si, q, e⟩) n r w h.ct hc hk
theorem P14.left_u (h : P14 w0 bt bu bn bm gt gu gq cc cu cq li si z q e A3 c3 A4 c4 Ae ce w) (hc : 12 ≤ cu) (hk : quota_Left.f k (T1 ⟨1, li, z, zq q z 5, e⟩) n = some r) :
    Calls Try.prog 18 #[.agg #[.slice (some ⟨gu, 0, none⟩) 12 cu], .int .i64 n] w fun e w' => e = .returned (.int .i64 r) ∧ Below w.heap.size w w' := quota_Left.calls k (some ⟨gu, 0, none⟩) cu (T1 ⟨1, li, z, zq q z 5, e⟩) n r w h.cu' hc hk
theorem P14.more_n (h : P14 w0 bt bu bn bm gt gu gq cc cu cq li si z q e A3 c3 A4 c4 Ae ce w) (h3 : q.length ≤ c3) (h4 : e.length ≤ c4) (hk : quota_More.f k 1 li si q e 0 n = some r) :
    Calls Try.prog 22 #[.agg #[.int .i64 1, .int .i64 li, .int .i64 si, .slice A3 q.length c3, .slice A4 e.length c4], .int .i64 0, .int .i64 n] w fun e w' => e = .returned (.int .i64 r) ∧ Below w.heap.size w w' := quota_More.calls k 1 li si A3 c3 q A4 c4 e 0 n r w h.q3 h3 h.e4 h4 hk
theorem P14.more_m (h : P14 w0 bt bu bn bm gt gu gq cc cu cq li si z q e A3 c3 A4 c4 Ae ce w) (h3 : q.length ≤ cq) (h4 : e.length ≤ ce) (hk : quota_More.f k 1 li z (zq q z 5) e 0 n = some r) :
    Calls Try.prog 22 #[.agg #[.int .i64 1, .int .i64 li, .int .i64 z, .slice (some ⟨gq, 0, none⟩) q.length cq, .slice Ae e.length ce], .int .i64 0, .int .i64 n] w fun e w' => e = .returned (.int .i64 r) ∧ Below w.heap.size w w' := by
  have := quota_More.calls k 1 li z (some ⟨gq, 0, none⟩) cq (zq q z 5) Ae ce e 0 n r w (by rw [zq_len]; exact h.qm) (by rw [zq_len]; exact h3) h.em h4 hk
  rwa [zq_len] at this
end
theorem i64_w (n : Int) : IntKind.i64.wrap n = wrap64 n := by rw [IntKind.wrap_i64]; unfold wrap64; omega
end Go.Proofs.Ytkigiehkckjlhaa.Less
