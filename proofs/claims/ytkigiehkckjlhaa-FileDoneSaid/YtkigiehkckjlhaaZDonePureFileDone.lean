/- The law FileDone, as printed, comes to true at every input within the reach. -/
import Derived.Test.YtkigiehkckjlhaaZDoneDoneLibB
namespace Go.Proofs.Ytkigiehkckjlhaa.PureFileDone
set_option linter.unusedVariables false
open Go.RowKit Go.Proofs.Ytkigiehkckjlhaa.PDone Go.Proofs.YtkigiehkckjlhaaW.PrintWords
open Go.Proofs.Ytkigiehkckjlhaa.DoneLib
open Go Go.Proofs.Ytkigiehkckjlhaa.Plain Go.Proofs.YtkigiehkckjlhaaW.PrintMore
theorem rd60 (l : List S60) (i : Nat) : rd_T60 l (i : Int) = l.getD i z60 := by unfold rd_T60; rw [Int.toNat_natCast]
def putS : List Int → List Nat → List Int → List Int
  | q, p :: ps, s :: ss => putS (q.set p s) ps ss
  | q, _, _ => q
theorem putS_len : ∀ (ps : List Nat) (q ss : List Int), (putS q ps ss).length = q.length
  | [], q, ss => by cases ss <;> rfl
  | p :: ps, q, [] => rfl
  | p :: ps, q, s :: ss => by simp only [putS]; rw [putS_len, List.length_set]
theorem putS_get : ∀ (ps : List Nat) (q ss : List Int), (∀ p ∈ ps, p < q.length) → ss.length = ps.length → ∀ r, (r ∉ ps → (putS q ps ss).getD r 0 = q.getD r 0) ∧ (r ∈ ps → (putS q ps ss).getD r 0 ∈ ss)
  | [], q, ss, _, _, r => by cases ss <;> simp [putS]
  | p :: ps, q, [], _, h, r => by simp at h
  | p :: ps, q, s :: ss, hp, h, r => by
    simp only [List.length_cons] at h
    obtain ⟨a, b⟩ := putS_get ps (q.set p s) ss (fun x hx => by rw [List.length_set]; exact hp x (by simp [hx])) (by omega) r
    have hp0 := hp p (by simp)
    simp only [putS]
    constructor
    · intro hr
      simp only [List.mem_cons, not_or] at hr
      rw [a hr.2, getD_set q p r s hp0, if_neg hr.1]
    · intro hr
      by_cases c : r ∈ ps
      · exact List.mem_cons_of_mem _ (b c)
      · have : r = p := by
          rcases List.mem_cons.1 hr with h | h
          · exact h
          · exact absurd h c
        rw [a c, getD_set q p r s hp0, if_pos this]; simp
abbrev paged (x : S28) (q : List Int) : S28 := ⟨x.f0, x.f1, x.f2, q, x.f4⟩
theorem done_loop {u : List S28} {i : Nat} (h : fileAt u i) (x : S28) (td : List S60) (ps : List Nat) (ss : List Int) (ht : td.map (·.f1) = ps.map (fun p : Nat => (p : Int))) (hf : ∀ t ∈ td, t.f0 = (i : Int)) (hl : ss.length = td.length) (h5 : td.length ≤ 5) (hp : ∀ p ∈ ps, p < 5) (hs : ∀ s ∈ ss, 1 ≤ s ∧ s ≤ 1099511627776) :
    ∀ d j : Nat, j + d = td.length → ∀ q : List Int, q.length = 5 → ∀ R, Ev (fun k => (dir_May.f k (withN u i (paged x (putS q (ps.drop j) (ss.drop j))))).bind fun t331 => if t331 = true then some (withN u i (paged x (putS q (ps.drop j) (ss.drop j))), (0 : Int)) else none) R →
      Ev (fun k => file_Done.l0 k ss td (td.length : Int) j u (withN u i (paged x q))) R := by
  have hpl : ps.length = td.length := by have := congrArg List.length ht; simp at this; omega
  have hu := h.len
  have hi := h.lt
  intro d
  induction d with
  | zero =>
    intro j hj q hq R hR
    have e1 : ps.drop j = [] := List.drop_eq_nil_of_le (by omega)
    have e2 : putS q (ps.drop j) (ss.drop j) = q := by rw [e1]; cases ss.drop j <;> rfl
    rw [e2] at hR
    refine Ev.step (fun k => ?_) hR
    simp only [file_Done.l0]; rw [if_neg (by omega)]
  | succ d ih =>
    intro j hj q hq R hR
    have hjt : j < td.length := by omega
    have hjp : j < ps.length := by omega
    have hjs : j < ss.length := by omega
    have e1 : ps.drop j = ps[j] :: ps.drop (j + 1) := List.drop_eq_getElem_cons hjp
    have e2 : ss.drop j = ss[j] :: ss.drop (j + 1) := List.drop_eq_getElem_cons hjs
    rw [e1, e2] at hR
    simp only [putS] at hR
    have := ih (j + 1) (by omega) (q.set ps[j] ss[j]) (by rw [List.length_set]; exact hq) R hR
    have hrt : rd_T60 td (j : Int) = td[j] := by rw [rd60, List.getD_eq_getElem?_getD, List.getElem?_eq_getElem hjt]; rfl
    have hf0 := hf _ (List.getElem_mem hjt)
    have hf1 : td[j].f1 = (ps[j] : Int) := by
      have := congrArg (fun z => z[j]?) ht
      simp only [List.getElem?_map, List.getElem?_eq_getElem hjt, List.getElem?_eq_getElem hjp, Option.map_some, Option.some.injEq] at this
      exact this
    have hpj := hp _ (List.getElem_mem hjp)
    have hsj := hs _ (List.getElem_mem hjs)
    have hrs : rd ss (j : Int) = ss[j] := by rw [rdn, List.getD_eq_getElem?_getD, List.getElem?_eq_getElem hjs]; rfl
    have hget : (withN u i (paged x q)).getD i z28 = paged x q := by rw [withN_get u i i _ (by omega), if_pos rfl]
    refine Ev.step (fun k => by
      simp only [file_Done.l0]
      rw [if_pos (by omega), if_pos (by omega), if_pos (by omega), hrt, hf0, hf1, hrs]) (h.is.bind ?_)
    simp only [if_true]
    refine Ev.step (f := fun k => file_Done.l0 k ss td (td.length : Int) ((j + 1 : Nat) : Int) u (withN u i (paged x (q.set ps[j] ss[j])))) (fun k => ?_) this
    rw [if_neg (by omega), if_neg (by omega), if_pos (by omega), if_neg (by omega), decide_eq_false (by omega)]
    simp only [file_Done.j2, Bool.false_eq_true, if_false]
    rw [if_pos (by omega), if_pos (by rw [List.length_set]; omega), if_pos (by omega), if_pos (by omega), if_pos (by omega), rd28, hget, if_pos (by simp only [hq]; omega), hrs, Int.toNat_natCast, Int.toNat_natCast, List.set_set, w64 (a := (j : Int) + 1) (by omega) (by omega)]
    rfl
theorem awake_ev : Ev (fun k => potsherdlaw20_awake.f k) true := Ev.of potsherdlaw20_awake.mono (k := 200) (by decide +kernel)
theorem awake_bind : Ev (fun k => (potsherdlaw20_awake.f k).bind fun t => some t) true := awake_ev.bind (Ev.now _)
theorem tree_file {l : List S28} (h : treeP l) (hr : ∀ x ∈ l, reach x) {i : Nat} (hi : i < 12) (hk : (l.getD i z28).f0 = 1) : fileAt l i := ⟨h.1, h.2.2.1.1, hr, tree_tied h, h.2.2.1.2.2, hi, hk⟩
theorem ints_same (q : List Int) (hq : q.length ≤ 1000) : Ev (fun k => potsherdref12_Ints.f k q q) true := by
  unfold potsherdref12_Ints.f
  simp only [if_true]
  refine Ev_fold (g := fun k (_ : Unit) i => potsherdref12_Ints.l0 k q q (q.length : Int) i) q.length (fun _ => ()) true ?_ ?_
  · refine Ev.step (f := fun _ => some true) (fun k => ?_) (Ev.now _)
    simp only [potsherdref12_Ints.l0]; rw [if_neg (by omega)]
  · intro i hi r hr
    refine Ev.step (fun k => ?_) hr
    simp only [potsherdref12_Ints.l0]
    rw [if_pos (by omega), if_pos (by omega), if_pos (by omega)]
    simp only [if_true]
    rw [if_pos (by omega), w64 (a := (i : Int) + 1) (by omega) (by omega)]
theorem ents_same (e : List S78) (he : e.length ≤ 1000) : Ev (fun k => potsherdref12_SameEntries.f k e e) true := by
  unfold potsherdref12_SameEntries.f
  simp only [if_true]
  refine Ev_fold (g := fun k (_ : Unit) i => potsherdref12_SameEntries.l0 k e e (e.length : Int) i) e.length (fun _ => ()) true ?_ ?_
  · refine Ev.step (f := fun _ => some true) (fun k => ?_) (Ev.now _)
    simp only [potsherdref12_SameEntries.l0]; rw [if_neg (by omega)]
  · intro i hi r hr
    refine Ev.step (fun k => ?_) hr
    simp only [potsherdref12_SameEntries.l0]
    rw [if_pos (by omega), if_pos (by omega), if_pos (by omega)]
    rw [if_pos (by omega), if_neg (by simp), w64 (a := (i : Int) + 1) (by omega) (by omega)]
theorem node_same (x : S28) (h : okX x) : Ev (fun k => potsherdref12_SameNode.f k x.f0 x.f1 x.f2 x.f3 x.f4 x.f0 x.f1 x.f2 x.f3 x.f4) true := by
  have hl := okN_len h
  unfold potsherdref12_SameNode.f
  simp only [if_true]
  refine (ints_same x.f3 (by omega)).bind ?_
  simp only [if_true]
  exact (ents_same x.f4 (by omega)).bind (Ev.now _)
theorem tree_same (l : List S28) (hl : l.length = 12) (hX : ∀ x ∈ l, okX x) : Ev (fun k => potsherdref12_SameTree.f k l l) true := by
  unfold potsherdref12_SameTree.f
  simp only [if_true]
  refine Ev_fold (g := fun k (_ : Unit) i => potsherdref12_SameTree.l0 k (l.length : Int) i l l) l.length (fun _ => ()) true ?_ ?_
  · refine Ev.step (f := fun _ => some true) (fun k => ?_) (Ev.now _)
    simp only [potsherdref12_SameTree.l0]; rw [if_neg (by omega)]
  · intro i hi r hr
    have h2 := (node_same _ (hX _ (getD_mem l hi))).bind (f := fun k (t : Bool) => if t = true then potsherdref12_SameTree.l0 k (l.length : Int) ((i : Int) + 1) l l else none) (by simpa only [if_true] using hr)
    refine Ev.step (fun k => ?_) h2
    simp only [potsherdref12_SameTree.l0]
    rw [if_pos (by omega), if_pos (by omega), if_pos (by omega), if_pos (by omega), rd28, w64 (a := (i : Int) + 1) (by omega) (by omega)]
theorem write_none {l : List S28} {i : Nat} (h : fileAt l i) {a : Int} (ha : 0 ≤ a) (d : Int) : Ev (fun k => file_Write.f k l d i a []) (l, [], 0) := by
  unfold file_Write.f
  refine h.is.bind ?_
  simp only [if_true, decide_eq_false (show ¬ a < 0 from by omega)]
  refine Ev.step (fun k => by simp only [file_Write.j0, Bool.false_eq_true, if_false]; rw [if_pos (by rfl)]) ((dircopy_ev l h.len h.all).bind (Ev.now _))
theorem write_big {l : List S28} {i : Nat} (h : fileAt l i) {a : Int} {b : List Int} (hb : b.length ≠ 0) (ha : 0 ≤ a) (ha2 : a ≤ 1000) (hf : ¬ fits a (b.length : Int)) (d : Int) : Ev (fun k => file_Write.f k l d i a b) ([], [], 16) := by
  unfold file_Write.f
  refine h.is.bind ?_
  simp only [if_true, decide_eq_false (show ¬ a < 0 from by omega)]
  refine Ev.step (f := fun _ => some ([], [], 16)) (fun k => ?_) (Ev.now _)
  simp only [file_Write.j0, Bool.false_eq_true, if_false]
  rw [if_neg (by omega), fits_some a _ (by omega), decide_eq_false hf]
  rfl
def maxL (q : List Int) (m : Int) : Int := q.foldl mx m
theorem maxL_step (q : List Int) (m : Int) {i : Nat} (h : i < q.length) : maxL (q.take (i + 1)) m = mx (maxL (q.take i) m) (q.getD i 0) := by
  unfold maxL; rw [take_getD q 0 h, List.foldl_append]; rfl
theorem maxL_le : ∀ (q : List Int) (m : Int), m ≤ maxL q m ∧ ∀ s ∈ q, s ≤ maxL q m
  | [], m => ⟨Int.le_refl _, by simp⟩
  | x :: q, m => by
    obtain ⟨a, b⟩ := maxL_le q (mx m x)
    have h1 : m ≤ mx m x ∧ x ≤ mx m x := by rw [mx_eq]; split <;> omega
    have e : maxL (x :: q) m = maxL q (mx m x) := rfl
    rw [e]
    refine ⟨by omega, fun s hs => ?_⟩
    rcases List.mem_cons.1 hs with rfl | h
    · omega
    · exact b s h
def topL (l : List S28) (m : Int) : Int := l.foldl (fun m x => maxL x.f3 m) m
theorem topL_step (l : List S28) (m : Int) {i : Nat} (h : i < l.length) : topL (l.take (i + 1)) m = maxL (l.getD i z28).f3 (topL (l.take i) m) := by
  unfold topL; rw [take_getD l z28 h, List.foldl_append]; rfl
theorem topL_le : ∀ (l : List S28) (m : Int), m ≤ topL l m ∧ ∀ x ∈ l, ∀ s ∈ x.f3, s ≤ topL l m
  | [], m => ⟨Int.le_refl _, by simp⟩
  | x :: l, m => by
    obtain ⟨a, b⟩ := topL_le l (maxL x.f3 m)
    obtain ⟨c, d⟩ := maxL_le x.f3 m
    have e : topL (x :: l) m = topL l (maxL x.f3 m) := rfl
    rw [e]
    refine ⟨by omega, fun y hy s hs => ?_⟩
    rcases List.mem_cons.1 hy with rfl | h
    · have := d s hs; omega
    · exact b y h s hs
def newT (top : Int) (n : Nat) : List Int := (List.range n).map fun j : Nat => top + 1 + (j : Int)
theorem newT_len (top : Int) (n : Nat) : (newT top n).length = n := by unfold newT; rw [List.length_map, List.length_range]
theorem newT_mem {top : Int} {n : Nat} : ∀ s ∈ newT top n, top + 1 ≤ s ∧ s ≤ top + (n : Int) := by
  intro s hs
  unfold newT at hs
  rw [List.mem_map] at hs
  obtain ⟨j, hj, rfl⟩ := hs
  rw [List.mem_range] at hj
  omega
theorem newT_succ (top : Int) (n : Nat) : newT top (n + 1) = newT top n ++ [top + 1 + (n : Int)] := by
  unfold newT; rw [List.range_succ, List.map_append]; rfl
theorem newT_count (top s : Int) : ∀ n, (newT top n).count s ≤ 1
  | 0 => by simp [newT]
  | n + 1 => by
    rw [newT_succ, List.count_append]
    have ih := newT_count top s n
    by_cases c : top + 1 + (n : Int) = s
    · have : (newT top n).count s = 0 := List.count_eq_zero.2 (fun h => by have := newT_mem s h; omega)
      rw [this]; simp [c]
    · have : [top + 1 + (n : Int)].count s = 0 := List.count_eq_zero.2 (by simp; exact fun h => c h.symm)
      omega
theorem seqOk_count : ∀ (L seen : List Int), seqOk seen L ↔ ∀ s, s ≠ 0 → (s ∈ seen → L.count s = 0) ∧ L.count s ≤ 1
  | [], seen => by simp [seqOk]
  | x :: r, seen => by
    simp only [seqOk]
    rw [seqOk_count r (x :: seen)]
    constructor
    · intro ⟨h1, h2⟩ s hs
      obtain ⟨a, b⟩ := h2 s hs
      rw [List.count_cons]
      by_cases c : x = s
      · subst c
        have := a (by simp)
        refine ⟨fun hm => absurd ⟨hs, hm⟩ h1, by simp; omega⟩
      · have e : (x == s) = false := by simpa using c
        rw [e]
        exact ⟨fun hm => by have := a (List.mem_cons_of_mem _ hm); simp [this], by simpa using b⟩
    · intro h
      refine ⟨fun ⟨h0, hm⟩ => ?_, fun s hs => ?_⟩
      · have := (h x h0).1 hm; rw [List.count_cons] at this; simp at this
      · obtain ⟨a, b⟩ := h s hs
        rw [List.count_cons] at a b
        refine ⟨fun hm => ?_, by omega⟩
        rcases List.mem_cons.1 hm with c | c
        · subst c; simp at b; omega
        · have := a c; omega
theorem count_set_le (s x : Int) : ∀ (q : List Int) (p : Nat), (q.set p x).count s ≤ q.count s + [x].count s
  | [], p => by simp
  | y :: q, 0 => by rw [List.set_cons_zero, List.count_cons, List.count_cons, List.count_cons]; simp
  | y :: q, p + 1 => by have := count_set_le s x q p; rw [List.set_cons_succ, List.count_cons, List.count_cons]; omega
theorem putS_count (s : Int) : ∀ (ps : List Nat) (q ss : List Int), (putS q ps ss).count s ≤ q.count s + ss.count s
  | [], q, ss => by cases ss <;> simp [putS]
  | p :: ps, q, [] => by simp [putS]
  | p :: ps, q, x :: ss => by
    simp only [putS]
    have h1 := putS_count s ps (q.set p x) ss
    have h2 := count_set_le s x q p
    have h3 : (x :: ss).count s = ss.count s + [x].count s := by rw [List.count_cons, List.count_cons]; simp
    omega
theorem flat_count (s : Int) : ∀ (l : List S28) (i : Nat) (x : S28), i < l.length → ((l.set i x).flatMap (·.f3)).count s + (l.getD i z28).f3.count s = (l.flatMap (·.f3)).count s + x.f3.count s
  | [], i, x, h => by simp at h
  | y :: l, 0, x, _ => by
    simp only [List.set_cons_zero, List.flatMap_cons, List.count_append, List.getD_cons_zero]; omega
  | y :: l, i + 1, x, h => by
    have := flat_count s l i x (by simpa using h)
    simp only [List.set_cons_succ, List.flatMap_cons, List.count_append, List.getD_cons_succ]; omega
theorem fresh_ok {u : List S28} {i : Nat} (hi : i < u.length) (h : seqOk [] (u.flatMap (·.f3))) (ps : List Nat) (top : Int) (ht : ∀ x ∈ u, ∀ s ∈ x.f3, s ≤ top) (n : Nat) : seqOk [] ((withN u i (paged (u.getD i z28) (putS (u.getD i z28).f3 ps (newT top n)))).flatMap (·.f3)) := by
  rw [seqOk_count] at h ⊢
  intro s hs
  refine ⟨fun hm => absurd hm (by simp), ?_⟩
  have h1 := (h s hs).2
  have h2 := flat_count s u i (paged (u.getD i z28) (putS (u.getD i z28).f3 ps (newT top n))) hi
  have h3 := putS_count s ps (u.getD i z28).f3 (newT top n)
  have h4 := newT_count top s n
  simp only at h2
  show ((u.set i (paged (u.getD i z28) (putS (u.getD i z28).f3 ps (newT top n)))).flatMap (·.f3)).count s ≤ 1
  by_cases c : s ∈ newT top n
  · have h5 := newT_mem s c
    have : (u.flatMap (·.f3)).count s = 0 := List.count_eq_zero.2 (fun hm => by
      rw [List.mem_flatMap] at hm
      obtain ⟨x, hx, hy⟩ := hm
      have := ht x hx s hy
      omega)
    omega
  · have : (newT top n).count s = 0 := List.count_eq_zero.2 c
    omega
theorem putS_at : ∀ (ps : List Nat) (q ss : List Int), (∀ p ∈ ps, p < q.length) → ss.length = ps.length → ps.Nodup → ∀ (j : Nat) (h : j < ps.length), (putS q ps ss).getD ps[j] 0 = ss.getD j 0
  | [], _, _, _, _, _, j, h => by simp at h
  | p :: ps, q, [], _, hl, _, _, _ => by simp at hl
  | p :: ps, q, x :: ss, hp, hl, hn, j, h => by
    simp only [List.length_cons] at hl
    rw [List.nodup_cons] at hn
    have hp2 : ∀ y ∈ ps, y < (q.set p x).length := fun y hy => by rw [List.length_set]; exact hp y (by simp [hy])
    cases j with
    | zero =>
      simp only [putS, List.getElem_cons_zero, List.getD_cons_zero]
      rw [(putS_get ps (q.set p x) ss hp2 (by omega) p).1 hn.1, getD_set q p p x (hp p (by simp)), if_pos rfl]
    | succ j =>
      simp only [putS, List.getElem_cons_succ, List.getD_cons_succ]
      exact putS_at ps (q.set p x) ss hp2 (by omega) hn.2 j (by simpa using h)
def backS (q : List Int) : List Int → List Nat → List Int
  | r, [] => r
  | r, p :: ps => backS q (r.set p (q.getD p 0)) ps
theorem backS_len (q : List Int) : ∀ (ps : List Nat) (r : List Int), (backS q r ps).length = r.length
  | [], _ => rfl
  | p :: ps, r => by rw [backS, backS_len, List.length_set]
theorem backS_get (q : List Int) : ∀ (ps : List Nat) (r : List Int), (∀ p ∈ ps, p < r.length) → ∀ j, (backS q r ps).getD j 0 = if j ∈ ps then q.getD j 0 else r.getD j 0
  | [], r, _, j => by simp [backS]
  | p :: ps, r, hp, j => by
    rw [backS, backS_get q ps _ (fun y hy => by rw [List.length_set]; exact hp y (by simp [hy])) j]
    by_cases c : j ∈ ps
    · rw [if_pos c, if_pos (by simp [c])]
    · rw [if_neg c, getD_set r p j _ (hp p (by simp))]
      by_cases c2 : j = p
      · rw [if_pos c2, if_pos (by simp [c2]), c2]
      · rw [if_neg c2, if_neg (by simp [c, c2])]
theorem backS_succ (q : List Int) : ∀ (ps : List Nat) (r : List Int) (j : Nat) (h : j < ps.length), backS q r (ps.take (j + 1)) = (backS q r (ps.take j)).set ps[j] (q.getD ps[j] 0)
  | [], _, _, h => by simp at h
  | p :: ps, r, 0, _ => rfl
  | p :: ps, r, j + 1, h => by
    simp only [List.take_succ_cons, backS, List.getElem_cons_succ]
    exact backS_succ q ps _ j (by simpa using h)
theorem back_put (ps : List Nat) (q ss : List Int) (hp : ∀ p ∈ ps, p < q.length) (hl : ss.length = ps.length) : backS q (putS q ps ss) ps = q := by
  apply List.ext_getElem
  · rw [backS_len, putS_len]
  · intro j h1 h2
    have e := backS_get q ps (putS q ps ss) (fun p hq => by rw [putS_len]; exact hp p hq) j
    rw [List.getD_eq_getElem?_getD, List.getElem?_eq_getElem h1] at e
    have e2 : q.getD j 0 = q[j] := by rw [List.getD_eq_getElem?_getD, List.getElem?_eq_getElem h2]; rfl
    have e3 : (backS q (putS q ps ss) ps)[j] = if j ∈ ps then q.getD j 0 else (putS q ps ss).getD j 0 := e
    rw [e3]
    by_cases c : j ∈ ps
    · rw [if_pos c, e2]
    · rw [if_neg c, (putS_get ps q ss hp hl j).1 c, e2]
theorem done_args {u : List S28} {i : Nat} (h : fileAt u i) (td : List S60) (ss : List Int) (hl : td.length ≠ ss.length) : Ev (fun k => file_Done.f k u td ss) ([], 1) := by
  unfold file_Done.f
  refine h.may.bind ?_
  simp only [if_true, show ((td.length : Int) != (ss.length : Int)) = true from by rw [bne_iff_ne]; omega]
  exact Ev.step (f := fun _ => some ([], 1)) (fun k => by simp only [file_Done.j0, if_true]) (Ev.now _)
theorem write_arg {l : List S28} (hm : Ev (fun k => dir_May.f k l) true) (i a d : Int) (b : List Int) (h : ¬ (0 ≤ i ∧ i < (l.length : Int) ∧ (rd_T28 l i).f0 = 1)) : Ev (fun k => file_Write.f k l d i a b) ([], [], 1) := by
  have his : Ev (fun k => file_is.f k l i) false := by
    unfold file_is.f
    refine hm.bind ?_
    simp only [if_true]
    refine Ev.const (o := some false) (fun k => ?_) rfl
    by_cases c1 : i ≥ 0
    · by_cases c2 : i < (l.length : Int)
      · rw [if_pos c1, if_pos c2, if_pos c1]
        have : ¬ (rd_T28 l i).f0 = 1 := fun z => h ⟨c1, c2, z⟩
        rw [beq_eq_false_iff_ne.mpr this]
      · rw [if_pos c1, if_neg c2]
    · rw [if_neg c1]
  unfold file_Write.f
  refine his.bind ?_
  simp only [Bool.false_eq_true, if_false]
  exact Ev.step (f := fun _ => some ([], [], 1)) (fun k => by simp only [file_Write.j0, if_true]) (Ev.now _)
theorem light_td (td : List S60) (h : td.length ≤ 5) (h2 : ∀ t ∈ td, t.f5.length ≤ 80) : Ev (fun k => potsherdlaw20_light.f k td) true := by
  unfold potsherdlaw20_light.f
  refine Ev_fold (g := fun k (_ : Unit) i => potsherdlaw20_light.l0 k td (td.length : Int) i) td.length (fun _ => ()) true ?_ ?_
  · refine Ev.step (f := fun _ => some true) (fun k => ?_) (Ev.now _)
    simp only [potsherdlaw20_light.l0]; rw [if_neg (by omega)]
  · intro i hi r hr
    refine Ev.step (fun k => ?_) hr
    have hm : (td.getD i z60).f5.length ≤ 80 := by rw [List.getD_eq_getElem?_getD, List.getElem?_eq_getElem hi]; exact h2 _ (List.getElem_mem hi)
    simp only [potsherdlaw20_light.l0]
    rw [if_pos (by omega), if_pos (by omega), if_pos (by omega), if_neg (by omega), rd60, if_neg (by omega), w64 (a := (i : Int) + 1) (by omega) (by omega)]
theorem back_loop {u : List S28} {i : Nat} (hU : fileAt u i) (x : S28) (hx : u.getD i z28 = x) (hq5 : x.f3.length = 5) (td : List S60) (ps : List Nat) (ss : List Int) (ht : td.map (·.f1) = ps.map (fun p : Nat => (p : Int))) (hf : ∀ t ∈ td, t.f0 = (i : Int)) (hl : ss.length = td.length) (h5 : td.length ≤ 5) (hp : ∀ p ∈ ps, p < 5) (hnd : ps.Nodup)
    (hend : Ev (fun k => (potsherdref12_SameTree.f k u u).bind fun t557 => if t557 = true then (potsherdlaw20_awake.f k).bind fun t558 => some t558 else none) true) :
    Ev (fun k => potsherdlaw20_FileDone.l3 k i ss td (td.length : Int) 0 u (withN u i (paged x (putS x.f3 ps ss))) (withN u i (paged x (putS x.f3 ps ss)))) true := by
  have hu := hU.len
  have hi := hU.lt
  have hpl : ps.length = td.length := by have := congrArg List.length ht; simp at this; omega
  have hself : withN u i (paged x x.f3) = u := by
    subst hx
    apply List.ext_getElem?
    intro j
    rw [List.getElem?_set]
    by_cases c : i = j
    · subst c
      rw [if_pos rfl, if_pos (by omega), List.getD_eq_getElem?_getD, List.getElem?_eq_getElem (show i < u.length from by omega)]; rfl
    · rw [if_neg c]
  have hps : ∀ p ∈ ps, p < x.f3.length := fun p h => by have := hp p h; omega
  have hget : ∀ q : List Int, rd_T28 (withN u i (paged x q)) (i : Int) = paged x q := fun q => by rw [rd28, withN_get _ _ _ _ (by omega), if_pos rfl]
  have hlen : ∀ q : List Int, (withN u i (paged x q)).length = 12 := fun q => by rw [List.length_set]; exact hu
  refine Ev_fold (g := fun k s j => potsherdlaw20_FileDone.l3 k i ss td (td.length : Int) j u (withN u i (paged x (putS x.f3 ps ss))) s) td.length (fun j => withN u i (paged x (backS x.f3 (putS x.f3 ps ss) (ps.take j)))) true ?_ ?_
  · refine Ev.step (fun k => by simp only [potsherdlaw20_FileDone.l3]; rw [if_neg (by omega), ← hpl, List.take_length, back_put ps x.f3 ss hps (by omega), hself]) hend
  · intro j hj R hR
    have hjp : j < ps.length := by omega
    have hm : (td.getD j z60).f1 = (ps[j] : Int) := by
      have h1 : (td.map (·.f1))[j]? = (ps.map (fun p : Nat => (p : Int)))[j]? := by rw [ht]
      rw [List.getElem?_map, List.getElem?_map, List.getElem?_eq_getElem hj, List.getElem?_eq_getElem hjp] at h1
      rw [List.getD_eq_getElem?_getD, List.getElem?_eq_getElem hj]
      exact Option.some.inj h1
    have hd0 : (td.getD j z60).f0 = (i : Int) := by rw [List.getD_eq_getElem?_getD, List.getElem?_eq_getElem hj]; exact hf _ (List.getElem_mem hj)
    have hpj : ps[j] < 5 := hp _ (List.getElem_mem hjp)
    have hat := putS_at ps x.f3 ss hps (by omega) hnd j hjp
    have hpl5 : (putS x.f3 ps ss).length = 5 := by rw [putS_len]; exact hq5
    have hbl5 : (backS x.f3 (putS x.f3 ps ss) (ps.take j)).length = 5 := by rw [backS_len]; exact hpl5
    have hR2 : Ev (fun k => potsherdlaw20_FileDone.j7 k i ss td (td.length : Int) (j : Int) false u (withN u i (paged x (putS x.f3 ps ss))) (withN u i (paged x (backS x.f3 (putS x.f3 ps ss) (ps.take j)))) (td.getD j z60).f0 (ps[j] : Int) (td.getD j z60).f2 (td.getD j z60).f3 (td.getD j z60).f4) R := by
      refine Ev.step (fun k => ?_) hR
      simp only [potsherdlaw20_FileDone.j7, Bool.false_eq_true, if_false]
      rw [if_pos (by omega), if_pos (by rw [hlen]; omega), if_pos (by omega), if_pos (by omega), rd28, hx, if_pos (by omega), hget, if_pos (by show _ < ((backS x.f3 (putS x.f3 ps ss) (ps.take j)).length : Int); omega), w64 (a := (j : Int) + 1) (by omega) (by omega)]
      rw [backS_succ _ _ _ j hjp]
      simp only [Int.toNat_natCast, rdn]
      unfold withN
      rw [List.set_set]
    refine Ev.step (fun k => ?_) hR2
    simp only [potsherdlaw20_FileDone.l3]
    rw [if_pos (by omega), if_pos (by omega), if_pos (by omega), rd60, if_pos hd0, hm, if_neg (by omega), if_neg (by omega), if_pos (by omega), if_pos (by rw [hlen]; omega), if_pos (by omega), hget, if_pos (by show _ < ((putS x.f3 ps ss).length : Int); omega), if_pos (by omega)]
    simp only [rdn]
    rw [hat, bne_self_eq_false]
theorem done_yes {u : List S28} {i : Nat} (h : fileAt u i) (td : List S60) (ps : List Nat) (ss : List Int) (ht : td.map (·.f1) = ps.map (fun p : Nat => (p : Int))) (hf : ∀ t ∈ td, t.f0 = (i : Int)) (hl : ss.length = td.length) (h5 : td.length ≤ 5) (hp : ∀ p ∈ ps, p < 5 ∧ (p : Int) * 16 < (u.getD i z28).f2) (hs : ∀ s ∈ ss, 1 ≤ s ∧ s ≤ 1099511627776)
    (hq : seqOk [] ((withN u i (paged (u.getD i z28) (putS (u.getD i z28).f3 ps ss))).flatMap (·.f3))) : Ev (fun k => file_Done.f k u td ss) (withN u i (paged (u.getD i z28) (putS (u.getD i z28).f3 ps ss)), 0) ∧ fileAt (withN u i (paged (u.getD i z28) (putS (u.getD i z28).f3 ps ss))) i := by
  have hu := h.len
  have hi := h.lt
  have hxm := getD_mem u (i := i) (by omega)
  have hx := h.all _ hxm
  have hr := h.small _ hxm
  have hF : okF (u.getD i z28).f1 (u.getD i z28).f2 (u.getD i z28).f3 (u.getD i z28).f4 := by
    rcases hx with y | y | y
    · rw [h.kind] at y; omega
    · exact y.2
    · rw [h.kind] at y; omega
  have hpl : ps.length = td.length := by have := congrArg List.length ht; simp at this; omega
  have hself : withN u i (paged (u.getD i z28) (u.getD i z28).f3) = u := by
    apply List.ext_getElem?
    intro j
    rw [List.getElem?_set]
    by_cases c : i = j
    · subst c
      rw [if_pos rfl, if_pos (by omega), List.getD_eq_getElem?_getD, List.getElem?_eq_getElem (show i < u.length from by omega)]; rfl
    · rw [if_neg c]
  obtain ⟨g1, g2, g3, g4, g5, g6, g7⟩ := hF
  have hget := putS_get ps (u.getD i z28).f3 ss (fun p hq => by have := hp p hq; omega) (by omega)
  have hX : okX (paged (u.getD i z28) (putS (u.getD i z28).f3 ps ss)) := by
    refine Or.inr (Or.inl ⟨h.kind, fun r hrl => ?_, g2, g3, g4, g5, by simp only [putS_len]; exact g6, g7⟩)
    simp only [putS_len] at hrl
    have hQ := g1 r hrl
    unfold okQ at hQ ⊢
    simp only
    by_cases c : r ∈ ps
    · have h1 := hs _ ((hget r).2 c)
      have h2 := hp r c
      exact ⟨by omega, by omega, fun z => by omega⟩
    · rw [(hget r).1 c]; exact hQ
  generalize hv : withN u i (paged (u.getD i z28) (putS (u.getD i z28).f3 ps ss)) = v
  have hvl : v.length = 12 := by rw [← hv, List.length_set]; exact hu
  have hvX : ∀ y ∈ v, okX y := by rw [← hv]; exact withN_all h.all hX
  have hvr : ∀ y ∈ v, reach y := by rw [← hv]; exact withN_all h.small hr
  have hvt : tied v := by rw [← hv]; exact withN_tied (by omega) rfl rfl rfl h.tie
  obtain ⟨bm, m1, m2⟩ := dirmay_tells v hvl hvX hvr hvt
  have loop : ∀ R : List S28 × Int, Ev (fun k => (dir_May.f k v).bind fun t331 => if t331 = true then some (v, (0 : Int)) else none) R → Ev (fun k => file_Done.l0 k ss td (td.length : Int) ((0 : Nat) : Int) u u) R := fun R hR => by
    have := done_loop h (u.getD i z28) td ps ss ht hf hl h5 (fun p hq => (hp p hq).1) hs td.length 0 (by omega) (u.getD i z28).f3 g6 R (by rw [List.drop_zero, List.drop_zero, hv]; exact hR)
    rwa [hself] at this
  have pre : ∀ {R}, Ev (fun k => file_Done.l0 k ss td (td.length : Int) ((0 : Nat) : Int) u u) R → Ev (fun k => file_Done.f k u td ss) R := by
    intro R hR
    unfold file_Done.f
    refine h.may.bind ?_
    simp only [if_true, show ((td.length : Int) != (ss.length : Int)) = false from by rw [hl]; simp]
    exact Ev.step (fun k => by simp only [file_Done.j0, Bool.false_eq_true, if_false]; rfl) ((dircopy_ev u hu h.all).bind hR)
  cases bm with
  | true =>
    refine ⟨pre (loop _ (m1.bind (Ev.now _))), hvl, hvX, hvr, hvt, m2.1 rfl, hi, ?_⟩
    rw [← hv, withN_get u i i _ (by omega), if_pos rfl]; exact h.kind
  | false => have z := m2.2 (by rw [← hv]; exact hq); cases z
theorem done_tail {t u : List S28} {n : Nat} (hT : t.length = 12) (hT5 : ∀ x ∈ t, x.f3.length ≤ 5) (hU : fileAt u n) (hsame : ∀ x ∈ u, ∀ s ∈ x.f3, ∃ y ∈ t, s ∈ y.f3) (td : List S60) (ps : List Nat) (hmap : td.map (·.f1) = ps.map (fun p : Nat => (p : Int))) (hf : ∀ d ∈ td, d.f0 = (n : Int)) (h5 : td.length ≤ 5) (hp : ∀ p ∈ ps, p < 5 ∧ (p : Int) * 16 < (u.getD n z28).f2) (hnd : ps.Nodup) : Ev (fun k => potsherdlaw20_FileDone.j1 k n td 0 false t u) true := by
  have hu := hU.len
  have hi := hU.lt
  have hxm := getD_mem u (i := n) (by omega)
  have hx := hU.all _ hxm
  have hx0 : okN (u.getD n z28).f0 (u.getD n z28).f1 (u.getD n z28).f2 (u.getD n z28).f3 (u.getD n z28).f4 := hx
  rw [hU.kind] at hx0
  have hq5 := (okN_file hx0).2.2.2.2.2.1
  have hps : ∀ p ∈ ps, p < (u.getD n z28).f3.length := fun p h => by have := (hp p h).1; omega
  refine Ev.step (fun k => by simp only [potsherdlaw20_FileDone.j1, Bool.false_eq_true, if_false]; rfl) ?_
  refine Ev_fold (g := fun k s j => potsherdlaw20_FileDone.l0 k n td s t (t.length : Int) j u) t.length (fun j => topL (t.take j) 0) true ?_ ?_
  · refine Ev.step (fun k => by simp only [potsherdlaw20_FileDone.l0]; rw [if_neg (by omega), List.take_length]) ?_
    obtain ⟨t0, t1⟩ := topL_le t 0
    generalize topL t 0 = top at *
    by_cases c : top > 1099511627766
    · simp only [if_pos c]; exact awake_bind
    simp only [if_neg c]
    have htop : ∀ x ∈ u, ∀ s ∈ x.f3, s ≤ top := fun x hx s hs => by obtain ⟨y, hy, hz⟩ := hsame x hx s hs; exact t1 y hy s hz
    refine Ev_fold (g := fun k s j => potsherdlaw20_FileDone.l2 k n td top s (td.length : Int) j u) td.length (newT top) true ?_ ?_
    · have hss : ∀ s ∈ newT top td.length, 1 ≤ s ∧ s ≤ 1099511627776 := fun s h => by have := newT_mem s h; omega
      have hfr := fresh_ok (u := u) (i := n) (by omega) hU.seqs ps top htop td.length
      obtain ⟨d1, hV⟩ := done_yes hU td ps (newT top td.length) hmap hf (newT_len _ _) h5 hp hss hfr
      have d2 := done_args hU td (newT top td.length ++ [1]) (by rw [List.length_append, newT_len]; simp)
      have hVl := hV.len
      have hVn : rd_T28 (withN u n (paged (u.getD n z28) (putS (u.getD n z28).f3 ps (newT top td.length)))) (n : Int) = paged (u.getD n z28) (putS (u.getD n z28).f3 ps (newT top td.length)) := by rw [rd28, withN_get _ _ _ _ (by omega), if_pos rfl]
      refine Ev.step (fun k => by simp only [potsherdlaw20_FileDone.l2]; rw [if_neg (by omega)]) (d1.bind ?_)
      simp only [Option.bind_some]
      simp only [if_pos (show (newT top td.length).length + [(1 : Int)].length < 17592186044416 from by rw [newT_len]; simp; omega)]
      refine d2.bind ?_
      simp only [if_true]
      simp only [if_pos (show ((withN u n (paged (u.getD n z28) (putS (u.getD n z28).f3 ps (newT top td.length)))).length : Int) = (u.length : Int) from by omega), if_neg (show ¬ (n : Int) < 0 from by omega), if_neg (show ¬ (n : Int) ≥ ((withN u n (paged (u.getD n z28) (putS (u.getD n z28).f3 ps (newT top td.length)))).length : Int) from by omega), if_pos (show 0 ≤ (n : Int) from by omega), if_pos (show (n : Int) < ((withN u n (paged (u.getD n z28) (putS (u.getD n z28).f3 ps (newT top td.length)))).length : Int) from by omega), hVn]
      have h55 : (((paged (u.getD n z28) (putS (u.getD n z28).f3 ps (newT top td.length))).f3.length : Int) != 5) = false := by
        have : (putS (u.getD n z28).f3 ps (newT top td.length)).length = 5 := by rw [putS_len]; exact hq5
        rw [bne_eq_false_iff_eq]; show ((putS (u.getD n z28).f3 ps (newT top td.length)).length : Int) = 5; omega
      simp only [h55]
      refine Ev.step (fun k => by simp only [potsherdlaw20_FileDone.j5, Bool.false_eq_true, if_false]; rfl) ((copytree_ev _ hVl hV.all).bind ?_)
      refine back_loop hU (u.getD n z28) rfl hq5 td ps (newT top td.length) hmap hf (newT_len _ _) h5 (fun p h => (hp p h).1) hnd ?_
      refine (tree_same u hu hU.all).bind ?_
      simp only [if_true]; exact awake_bind
    · intro j hj R hR
      refine Ev.step (fun k => ?_) hR
      simp only [potsherdlaw20_FileDone.l2, Option.bind_some]
      rw [if_pos (by omega), if_pos (by rw [newT_len]; simp; omega), newT_succ, w64 (a := top + 1) (by omega) (by omega), w64 (a := top + 1 + (j : Int)) (by omega) (by omega), w64 (a := (j : Int) + 1) (by omega) (by omega)]
  · intro j hj R hR
    have hq := hT5 _ (getD_mem t hj)
    rw [topL_step t 0 hj] at hR
    generalize topL (t.take j) 0 = m at *
    refine Ev.step (fun k => by simp only [potsherdlaw20_FileDone.l0]; rw [if_pos (by omega), if_pos (by omega), if_pos (by omega), rd28]) ?_
    generalize (t.getD j z28).f3 = q at *
    refine Ev_fold (g := fun k s i => potsherdlaw20_FileDone.l1 k n td s t (t.length : Int) (j : Int) q (q.length : Int) i u) q.length (fun i => maxL (q.take i) m) R ?_ ?_
    · refine Ev.step (fun k => by simp only [potsherdlaw20_FileDone.l1]; rw [if_neg (by omega), List.take_length, w64 (a := (j : Int) + 1) (by omega) (by omega)]) hR
    · intro i hi R2 hR2
      refine Ev.step (fun k => ?_) hR2
      simp only [potsherdlaw20_FileDone.l1]
      rw [if_pos (by omega), if_pos (by omega), if_pos (by omega), rdn, maxL_step q m hi, w64 (a := (i : Int) + 1) (by omega) (by omega)]
theorem FileDone (t : List S28) (i a : Int) (b : List Int) (hl : t.length ≤ 4611686018427387904) (hr : ∀ x ∈ t, reach x) : ∃ k, potsherdlaw20_FileDone.f k t i a b = some true := by
  obtain ⟨K, h⟩ : Ev (fun k => potsherdlaw20_FileDone.f k t i a b) true := by
    unfold potsherdlaw20_FileDone.f
    obtain ⟨r', h3, h4⟩ := light15_ev t hl hr
    refine h3.bind ?_
    have hyes : Ev (fun k => potsherdlaw20_FileDone.j0 k i a b true t) true := Ev.step (fun k => by simp only [potsherdlaw20_FileDone.j0, if_true]) awake_bind
    by_cases c : r' > 0
    · simp only [if_pos c]; exact hyes
    simp only [if_neg c]
    by_cases ct : treeP t
    rotate_left
    · refine ((maytree_tells t hr).no ct).bind ?_
      simp only [Bool.false_eq_true, if_false]; exact hyes
    refine ((maytree_tells t hr).yes ct).bind ?_
    simp only [if_true]
    by_cases c1 : (b.length : Int) > 80
    · simp only [decide_eq_true c1]; exact hyes
    simp only [decide_eq_false c1]
    have ht := ct.1
    obtain ⟨p, p0, p1, hp⟩ := umod a 81 (by decide) (by decide)
    have hT5 : ∀ x ∈ t, x.f3.length ≤ 5 := fun x hx => (okN_len (ct.2.2.1.1 x hx)).1
    have bad : ∀ e : Int, e ≠ 0 → Ev (fun k => potsherdlaw20_FileDone.j1 k i [] e true t []) true := fun e he => Ev.step (fun k => by simp only [potsherdlaw20_FileDone.j1, if_true]; rw [if_neg he, if_pos (by rfl)]) awake_bind
    refine Ev.step (fun k => by simp only [potsherdlaw20_FileDone.j0, Bool.false_eq_true, if_false, hp]; rfl) ?_
    by_cases cF : 0 ≤ i ∧ i < (t.length : Int) ∧ (rd_T28 t i).f0 = 1
    rotate_left
    · refine (write_arg (tree_may ct hr) i p 60 b cF).bind ?_
      simp only [show ((1 : Int) = 0) = False from by simp, if_false]
      exact bad 1 (by decide)
    obtain ⟨c3, c4, c5⟩ := cF
    obtain ⟨n, rfl⟩ : ∃ n : Nat, i = n := ⟨i.toNat, by omega⟩
    rw [rd28] at c5
    have hF := tree_file ct hr (i := n) (by omega) c5
    by_cases cb : b.length = 0
    · have hb : b = [] := List.length_eq_zero_iff.mp cb
      subst hb
      refine (write_none hF p0 60).bind ?_
      simp only [if_true]
      refine (light_td [] (by simp) (by simp)).bind ?_
      simp only [Bool.not_true]
      exact done_tail ht hT5 hF (fun x hx s hs => ⟨x, hx, hs⟩) [] [] rfl (by simp) (by simp) (by simp) List.nodup_nil
    by_cases cf : fits p (b.length : Int)
    rotate_left
    · refine (write_big hF cb p0 (by omega) cf 60).bind ?_
      simp only [show ((16 : Int) = 0) = False from by simp, if_false]
      exact bad 16 (by decide)
    have w0 := write_ev hF cb cf 60 (by omega)
    by_cases cu : used t + moreN (t.getD n z28).f0 (t.getD n z28).f1 (t.getD n z28).f2 (t.getD n z28).f3 (t.getD n z28).f4 p (b.length : Int) > 60
    · refine (w0.1 cu).bind ?_
      simp only [show ((13 : Int) = 0) = False from by simp, if_false]
      exact bad 13 (by decide)
    obtain ⟨td, L, w1, w2, w3⟩ := w0.2 cu
    refine w1.bind ?_
    simp only [if_true]
    have hX := hF.all
    have hxm := getD_mem t (i := n) (by omega)
    have hx := hX _ hxm
    have hxr := hr _ hxm
    have hx0 : okN (t.getD n z28).f0 (t.getD n z28).f1 (t.getD n z28).f2 (t.getD n z28).f3 (t.getD n z28).f4 := hx
    rw [c5] at hx0
    have hok := okN_file hx0
    have hlt := pgs_lt cf
    have hplen := pgs_len cf
    rw [Int.toNat_natCast] at hlt hplen
    have hmem : ∀ q ∈ pgs p.toNat b.length, (q : Int) * 16 < p + (b.length : Int) := fun q hq => by have := pgs_mem hq; omega
    have hnd := pgs_nodup p.toNat b.length
    generalize pgs p.toNat b.length = ps at *
    have htl : td.length = ps.length := by have h1 := congrArg List.length w2.1; have h2 := congrArg List.length w3; simp at h1 h2; omega
    refine (light_td td (by omega) (fun t ht => (w2.2 t ht).2)).bind ?_
    simp only [Bool.not_true]
    generalize hsz : mx (t.getD n z28).f2 (p + (b.length : Int)) = s at *
    have hs2 : (t.getD n z28).f2 ≤ s ∧ p + (b.length : Int) ≤ s ∧ s ≤ 80 := by
      have h1 := hok.2.2.2.1; have h2 := hok.2.2.2.2.1
      rw [← hsz, mx_eq]; split <;> omega
    have hg : okX (grown (t.getD n z28) s) := by
      obtain ⟨g1, g2, g3, g4, g5, g6, g7⟩ := hok
      refine Or.inr (Or.inl ⟨c5, fun q hq => ?_, g2, g3, by show (0 : Int) ≤ s; omega, by show s ≤ (80 : Int); omega, g6, g7⟩)
      have := g1 q hq
      unfold okQ at this ⊢
      exact ⟨this.1, this.2.1, fun z => this.2.2 (by have z' : s ≤ (q : Int) * 16 := z; omega)⟩
    have hU : fileAt (withN t n (grown (t.getD n z28) s)) n := by
      refine ⟨by rw [List.length_set]; exact ht, withN_all hX hg, withN_all hr hxr, withN_tied (by omega) rfl rfl rfl hF.tie, ?_, by omega, by rw [withN_get _ _ _ _ (by omega), if_pos rfl]; exact c5⟩
      have e : (withN t n (grown (t.getD n z28) s)).flatMap (·.f3) = t.flatMap (·.f3) := by
        rw [List.flatMap_def, List.flatMap_def]
        congr 1
        apply List.ext_getElem?
        intro j
        rw [List.getElem?_map, List.getElem?_map, List.getElem?_set]
        by_cases d : n = j
        · subst d
          rw [if_pos rfl, if_pos (by omega), List.getD_eq_getElem?_getD, List.getElem?_eq_getElem (show n < t.length from by omega)]; rfl
        · rw [if_neg d]
      rw [e]; exact hF.seqs
    have hUn : (withN t n (grown (t.getD n z28) s)).getD n z28 = grown (t.getD n z28) s := by rw [withN_get _ _ _ _ (by omega), if_pos rfl]
    exact done_tail ht hT5 hU (fun x hx s' hs => by
      rcases List.mem_or_eq_of_mem_set hx with h1 | h1
      · exact ⟨x, h1, hs⟩
      · subst h1; exact ⟨_, hxm, hs⟩) td ps (w2.1.trans w3) (fun t ht => (w2.2 t ht).1) (by omega) (fun q hq => by rw [hUn]; exact ⟨hlt q hq, by have := hmem q hq; show _ < s; omega⟩) hnd
  exact ⟨K, h K (Nat.le_refl _)⟩
end Go.Proofs.Ytkigiehkckjlhaa.PureFileDone
