/- The law FileGrows, as printed, comes to true at every input within the reach. -/
import Derived.Test.YtkigiehkckjlhaaZGrowsGrowsLibB
namespace Go.Proofs.Ytkigiehkckjlhaa.PureFileGrows
set_option linter.unusedVariables false
open Go.RowKit Go.Proofs.Ytkigiehkckjlhaa.PGrows Go.Proofs.YtkigiehkckjlhaaW.PrintWords
open Go.Proofs.Ytkigiehkckjlhaa.GrowsLib
open Go Go.Proofs.Ytkigiehkckjlhaa.Plain Go.Proofs.YtkigiehkckjlhaaW.PrintMore
theorem awake_ev : Ev (fun k => potsherdlaw20_awake.f k) true := Ev.of potsherdlaw20_awake.mono (k := 200) (by decide +kernel)
theorem awake_bind : Ev (fun k => (potsherdlaw20_awake.f k).bind fun t => some t) true := awake_ev.bind (Ev.now _)
theorem tree_file {l : List S28} (h : treeP l) (hr : ∀ x ∈ l, reach x) {i : Nat} (hi : i < 12) (hk : (l.getD i z28).f0 = 1) : fileAt l i := ⟨h.1, h.2.2.1.1, hr, tree_tied h, h.2.2.1.2.2, hi, hk⟩
theorem ints_same (q : List Int) (hq : q.length ≤ 1000) : Ev (fun k => potsherdref12_Ints.f k q q) true := by
  unfold potsherdref12_Ints.f
  simp only [if_true]
  refine Ev_fold (g := fun k (_ : Unit) i => potsherdref12_Ints.l0 k q q (q.length : Int) i) q.length (fun _ => ()) true ?_ ?_
  · refine Ev.step (f := fun _ => some true) (fun k => ?_) (Ev.now _)
    simp only [potsherdref12_Ints.l0]; rw [if_neg (by omega)]
  · intro i hi r hr
    refine Ev.step (fun k => ?_) hr
    simp only [potsherdref12_Ints.l0]
    rw [if_pos (by omega), if_pos (by omega), if_pos (by omega)]
    simp only [if_true]
    rw [if_pos (by omega), w64 (a := (i : Int) + 1) (by omega) (by omega)]
theorem ents_same (e : List S78) (he : e.length ≤ 1000) : Ev (fun k => potsherdref12_SameEntries.f k e e) true := by
  unfold potsherdref12_SameEntries.f
  simp only [if_true]
  refine Ev_fold (g := fun k (_ : Unit) i => potsherdref12_SameEntries.l0 k e e (e.length : Int) i) e.length (fun _ => ()) true ?_ ?_
  · refine Ev.step (f := fun _ => some true) (fun k => ?_) (Ev.now _)
    simp only [potsherdref12_SameEntries.l0]; rw [if_neg (by omega)]
  · intro i hi r hr
    refine Ev.step (fun k => ?_) hr
    simp only [potsherdref12_SameEntries.l0]
    rw [if_pos (by omega), if_pos (by omega), if_pos (by omega)]
    rw [if_pos (by omega), if_neg (by simp), w64 (a := (i : Int) + 1) (by omega) (by omega)]
theorem node_same (x : S28) (h : okX x) : Ev (fun k => potsherdref12_SameNode.f k x.f0 x.f1 x.f2 x.f3 x.f4 x.f0 x.f1 x.f2 x.f3 x.f4) true := by
  have hl := okN_len h
  unfold potsherdref12_SameNode.f
  simp only [if_true]
  refine (ints_same x.f3 (by omega)).bind ?_
  simp only [if_true]
  exact (ents_same x.f4 (by omega)).bind (Ev.now _)
theorem tree_same (l : List S28) (hl : l.length = 12) (hX : ∀ x ∈ l, okX x) : Ev (fun k => potsherdref12_SameTree.f k l l) true := by
  unfold potsherdref12_SameTree.f
  simp only [if_true]
  refine Ev_fold (g := fun k (_ : Unit) i => potsherdref12_SameTree.l0 k (l.length : Int) i l l) l.length (fun _ => ()) true ?_ ?_
  · refine Ev.step (f := fun _ => some true) (fun k => ?_) (Ev.now _)
    simp only [potsherdref12_SameTree.l0]; rw [if_neg (by omega)]
  · intro i hi r hr
    have h2 := (node_same _ (hX _ (getD_mem l hi))).bind (f := fun k (t : Bool) => if t = true then potsherdref12_SameTree.l0 k (l.length : Int) ((i : Int) + 1) l l else none) (by simpa only [if_true] using hr)
    refine Ev.step (fun k => ?_) h2
    simp only [potsherdref12_SameTree.l0]
    rw [if_pos (by omega), if_pos (by omega), if_pos (by omega), if_pos (by omega), rd28, w64 (a := (i : Int) + 1) (by omega) (by omega)]
theorem write_none {l : List S28} {i : Nat} (h : fileAt l i) {a : Int} (ha : 0 ≤ a) (d : Int) : Ev (fun k => file_Write.f k l d i a []) (l, [], 0) := by
  unfold file_Write.f
  refine h.is.bind ?_
  simp only [if_true, decide_eq_false (show ¬ a < 0 from by omega)]
  refine Ev.step (fun k => by simp only [file_Write.j0, Bool.false_eq_true, if_false]; rw [if_pos (by rfl)]) ((dircopy_ev l h.len h.all).bind (Ev.now _))
theorem write_big {l : List S28} {i : Nat} (h : fileAt l i) {a : Int} {b : List Int} (hb : b.length ≠ 0) (ha : 0 ≤ a) (ha2 : a ≤ 1000) (hf : ¬ fits a (b.length : Int)) (d : Int) : Ev (fun k => file_Write.f k l d i a b) ([], [], 16) := by
  unfold file_Write.f
  refine h.is.bind ?_
  simp only [if_true, decide_eq_false (show ¬ a < 0 from by omega)]
  refine Ev.step (f := fun _ => some ([], [], 16)) (fun k => ?_) (Ev.now _)
  simp only [file_Write.j0, Bool.false_eq_true, if_false]
  rw [if_neg (by omega), fits_some a _ (by omega), decide_eq_false hf]
  rfl
def cutF (q : List Int) (p : Nat) : Nat → List Int
  | 0 => q
  | d + 1 => (cutF q p d).set (p + d) 0
theorem cutF_len (q : List Int) (p : Nat) : ∀ d, (cutF q p d).length = q.length
  | 0 => rfl
  | d + 1 => by rw [cutF, List.length_set, cutF_len q p d]
theorem cutF_get (q : List Int) (p r : Nat) : ∀ d, p + d ≤ q.length → (cutF q p d).getD r 0 = if p ≤ r ∧ r < p + d then 0 else q.getD r 0
  | 0, _ => by rw [if_neg (by omega)]; rfl
  | d + 1, h => by
    rw [cutF, List.getD_eq_getElem?_getD, List.getElem?_set]
    by_cases c : p + d = r
    · subst c
      rw [if_pos rfl, if_pos (by rw [cutF_len]; omega), if_pos (by omega)]; rfl
    · rw [if_neg c, ← List.getD_eq_getElem?_getD, cutF_get q p r d (by omega)]
      by_cases c2 : p ≤ r ∧ r < p + d
      · rw [if_pos c2, if_pos (by omega)]
      · rw [if_neg c2, if_neg (by omega)]
abbrev sized (x : S28) (s : Int) (q : List Int) : S28 := ⟨x.f0, x.f1, s, q, x.f4⟩
abbrev pgN (s : Int) : Nat := ((s + 15) / 16).toNat
theorem trunc_loop {l : List S28} {i : Nat} (h : fileAt l i) (s : Int) (td : List S60) (p : Nat) (hp : p ≤ 5) : Ev (fun k => file_Truncate.l0 k i td (p : Int) (withN l i (sized (l.getD i z28) s (l.getD i z28).f3))) (withN l i (sized (l.getD i z28) s (cutF (l.getD i z28).f3 p (5 - p))), td, 0) := by
  have hl := h.len
  have hi := h.lt
  have hx := h.all _ (getD_mem l (i := i) (by omega))
  have hf5 : (l.getD i z28).f3.length = 5 := by
    rcases hx with y | y | y
    · rw [h.kind] at y; omega
    · exact y.2.2.2.2.2.2.1
    · rw [h.kind] at y; omega
  have key := Ev_fold (g := fun k st j => file_Truncate.l0 k i td ((p : Int) + j) st) (5 - p) (fun j => withN l i (sized (l.getD i z28) s (cutF (l.getD i z28).f3 p j))) (withN l i (sized (l.getD i z28) s (cutF (l.getD i z28).f3 p (5 - p))), td, 0) ?_ ?_
  · simpa [cutF] using key
  · refine Ev.step (f := fun _ => some (withN l i (sized (l.getD i z28) s (cutF (l.getD i z28).f3 p (5 - p))), td, 0)) (fun k => ?_) (Ev.now _)
    simp only [file_Truncate.l0]; rw [if_neg (by omega)]
  · intro j hj r hr
    refine Ev.step (fun k => ?_) hr
    have hg : rd_T28 (withN l i (sized (l.getD i z28) s (cutF (l.getD i z28).f3 p j))) (i : Int) = sized (l.getD i z28) s (cutF (l.getD i z28).f3 p j) := by rw [rd28, withN_get _ _ _ _ (by omega), if_pos rfl]
    simp only [file_Truncate.l0]
    rw [if_pos (by omega), if_pos (by omega), if_pos (by rw [List.length_set]; omega), if_pos (by omega), hg, if_pos (by show _ < ((cutF (l.getD i z28).f3 p j).length : Int); rw [cutF_len]; omega)]
    rw [w64 (a := (p : Int) + (j : Int) + 1) (by omega) (by omega), show ((p : Int) + (j : Int)).toNat = p + j from by omega, Int.toNat_natCast]
    unfold withN
    rw [List.set_set, Int.add_assoc]
    rfl
theorem trunc_ev {l : List S28} {i : Nat} (h : fileAt l i) {s : Int} (h0 : 0 ≤ s) (h1 : s ≤ 80) : ∃ td, td.length ≤ 1 ∧ Ev (fun k => file_Truncate.f k l i s) (withN l i (sized (l.getD i z28) s (cutF (l.getD i z28).f3 (pgN s) (5 - pgN s))), td, 0) := by
  have hl := h.len
  have hi := h.lt
  have hxm := getD_mem l (i := i) (by omega)
  have hx := h.all _ hxm
  have hx0 : okN (l.getD i z28).f0 (l.getD i z28).f1 (l.getD i z28).f2 (l.getD i z28).f3 (l.getD i z28).f4 := hx
  rw [h.kind] at hx0
  have hok := okN_file hx0
  have hf5 := hok.2.2.2.2.2.1
  have hs80 := hok.2.2.2.2.1
  have hj2 : ∀ td, Ev (fun k => file_Truncate.j2 k i s td l) (withN l i (sized (l.getD i z28) s (cutF (l.getD i z28).f3 (pgN s) (5 - pgN s))), td, 0) := by
    intro td
    have hp : span_Pages.f s = some ((pgN s : Nat) : Int) := by
      unfold span_Pages.f mx mn pgN
      congr 1
      split <;> split <;> omega
    refine Ev.step (fun k => ?_) (trunc_loop h s td (pgN s) (by unfold pgN; omega))
    simp only [file_Truncate.j2]
    rw [if_pos (by omega), if_pos (by omega), hp, rd28, Int.toNat_natCast]
    rfl
  have hd : Int.tdiv s 16 = s / 16 := tdiv16 h0
  have hm : Int.tmod s 16 = s % 16 := tmod16 h0
  have hj1 : ∀ c m f, 0 ≤ c → c < 5 → ∃ td, td.length ≤ 1 ∧ Ev (fun k => file_Truncate.j1 k i s [] c m f l) (withN l i (sized (l.getD i z28) s (cutF (l.getD i z28).f3 (pgN s) (5 - pgN s))), td, 0) := by
    intro c m f c0 c1
    cases f
    · exact ⟨[], by simp, Ev.step (fun k => by simp only [file_Truncate.j1, Bool.false_eq_true, if_false]) (hj2 [])⟩
    · refine ⟨_, ?_, Ev.step (fun k => ?_) (hj2 [⟨(i : Int), c, rd (l.getD i z28).f3 c, m, 0, []⟩])⟩
      · simp
      · simp only [file_Truncate.j1, if_true]
        rw [if_pos (by omega), if_pos (by omega), if_pos c0, rd28, if_pos (by omega)]
  have hj1f : ∀ c m, ∃ td, td.length ≤ 1 ∧ Ev (fun k => file_Truncate.j1 k i s [] c m false l) (withN l i (sized (l.getD i z28) s (cutF (l.getD i z28).f3 (pgN s) (5 - pgN s))), td, 0) := fun c m => ⟨[], by simp, Ev.step (fun k => by simp only [file_Truncate.j1, Bool.false_eq_true, if_false]) (hj2 [])⟩
  have pre : ∀ {td : List S60} {r : List S28}, Ev (fun k => if s < (l.getD i z28).f2 then (if Int.tmod s 16 > 0 then (if 0 ≤ wrap64 (Int.tdiv s 16) then (if wrap64 (Int.tdiv s 16) < ((l.getD i z28).f3.length : Int) then file_Truncate.j1 k i s [] (wrap64 (Int.tdiv s 16)) (Int.tmod s 16) (rd (l.getD i z28).f3 (wrap64 (Int.tdiv s 16)) != 0) l else none) else none) else file_Truncate.j1 k i s [] (wrap64 (Int.tdiv s 16)) (Int.tmod s 16) false l) else file_Truncate.j1 k i s [] (wrap64 (Int.tdiv s 16)) (Int.tmod s 16) false l) (r, td, 0) → Ev (fun k => file_Truncate.f k l i s) (r, td, 0) := by
    intro td r hh
    unfold file_Truncate.f
    refine h.is.bind ?_
    simp only [if_true, decide_eq_false (show ¬ s < 0 from by omega)]
    refine Ev.step (fun k => by simp only [file_Truncate.j0, Bool.false_eq_true, if_false]; rw [if_neg (by omega)]) ((dircopy_ev l hl h.all).bind ?_)
    simp only [if_pos (show (0 : Int) ≤ (i : Int) from by omega), if_pos (show (i : Int) < (l.length : Int) from by omega), rd28]
    exact hh
  rw [hd, hm, w64 (a := s / 16) (by omega) (by omega)] at pre
  by_cases c1 : s < (l.getD i z28).f2
  · by_cases c2 : s % 16 > 0
    · obtain ⟨td, t1, t2⟩ := hj1 (s / 16) (s % 16) (rd (l.getD i z28).f3 (s / 16) != 0) (by omega) (by omega)
      refine ⟨td, t1, pre ?_⟩
      simp only [if_pos c1, if_pos c2, if_pos (show 0 ≤ s / 16 from by omega), if_pos (show s / 16 < ((l.getD i z28).f3.length : Int) from by omega)]
      exact t2
    · obtain ⟨td, t1, t2⟩ := hj1f (s / 16) (s % 16)
      refine ⟨td, t1, pre ?_⟩
      simp only [if_pos c1, if_neg c2]
      exact t2
  · obtain ⟨td, t1, t2⟩ := hj1f (s / 16) (s % 16)
    refine ⟨td, t1, pre ?_⟩
    simp only [if_neg c1]
    exact t2
theorem grows_tail {l : List S28} {i : Nat} (h : fileAt l i) {s : Int} (h0 : 0 ≤ s) (h1 : s ≤ 80) (e : Int) (he : e = 0 ∨ e = 16 ∨ e = 13) : Ev (fun k => potsherdlaw20_FileGrows.j1 k i s e false l) true := by
  have hl := h.len
  have hi := h.lt
  have hx := h.all _ (getD_mem l (i := i) (by omega))
  have hx0 : okN (l.getD i z28).f0 (l.getD i z28).f1 (l.getD i z28).f2 (l.getD i z28).f3 (l.getD i z28).f4 := hx
  rw [h.kind] at hx0
  have hf5 := (okN_file hx0).2.2.2.2.2.1
  obtain ⟨td, t1, t2⟩ := trunc_ev h h0 h1
  have hpn : pgN s ≤ 5 := by unfold pgN; omega
  generalize hq : cutF (l.getD i z28).f3 (pgN s) (5 - pgN s) = q at *
  have hq5 : q.length = 5 := by rw [← hq, cutF_len]; exact hf5
  have hqg : ∀ j : Nat, j < 5 → (s ≤ (j : Int) * 16 → q.getD j 0 = 0) ∧ ((j : Int) * 16 < s → q.getD j 0 = (l.getD i z28).f3.getD j 0) := by
    intro j hj
    rw [← hq, cutF_get _ _ _ _ (by omega)]
    unfold pgN
    constructor
    · intro hs; rw [if_pos (by omega)]
    · intro hs; rw [if_neg (by omega)]
  have hV : rd_T28 (withN l i (sized (l.getD i z28) s q)) (i : Int) = sized (l.getD i z28) s q := by rw [rd28, withN_get _ _ _ _ (by omega), if_pos rfl]
  have hVl : (withN l i (sized (l.getD i z28) s q)).length = 12 := by rw [List.length_set]; exact hl
  refine Ev.step (fun k => by simp only [potsherdlaw20_FileGrows.j1, Bool.false_eq_true, if_false]; rfl) (t2.bind ?_)
  simp only [if_true, hVl, hV]
  simp only [if_pos (show ((12 : Nat) : Int) = 12 from rfl), if_pos (show (0 : Int) ≤ (i : Int) from by omega), if_pos (show (i : Int) < ((12 : Nat) : Int) from by omega), if_neg (show ¬ (td.length : Int) > 1 from by omega), hq5]
  refine Ev.step (fun k => by simp only [potsherdlaw20_FileGrows.j2]; rw [if_neg (by decide), if_pos (by omega), if_pos (by rw [hVl]; omega), hV]) ?_
  refine Ev_fold (g := fun k (_ : Unit) j => potsherdlaw20_FileGrows.l0 k i s e q (q.length : Int) j l) q.length (fun _ => ()) true ?_ ?_
  · refine Ev.step (fun k => by simp only [potsherdlaw20_FileGrows.l0]; rw [if_neg (by omega)]) ?_
    rcases he with rfl | rfl | rfl
    · simp only [if_true]; exact awake_bind
    · simp only [show ((16 : Int) = 0) = False from by simp, if_false, if_true]; exact awake_bind
    · simp only [show ((13 : Int) = 0) = False from by simp, show ((13 : Int) = 16) = False from by simp, if_false, if_true]; exact awake_bind
  · intro j hj r hr
    have hj5 : j < 5 := by omega
    obtain ⟨g1, g2⟩ := hqg j hj5
    have hj4 : Ev (fun k => potsherdlaw20_FileGrows.j4 k i s e q (q.length : Int) (j : Int) false l) r := Ev.step (fun k => by simp only [potsherdlaw20_FileGrows.j4, Bool.false_eq_true, if_false]; rw [w64 (a := (j : Int) + 1) (by omega) (by omega)]) hr
    refine Ev.step (fun k => ?_) hj4
    simp only [potsherdlaw20_FileGrows.l0]
    rw [if_pos (by omega), if_pos (by omega), if_pos (by omega), rdn, w64 (a := (j : Int) * 16) (by omega) (by omega)]
    by_cases c : q.getD j 0 = 0
    · rw [if_pos c]
      by_cases c2 : (j : Int) * 16 < s
      · rw [if_pos c2, if_pos (by omega), if_pos (by omega), rd28, if_pos (by omega), rdn, g2 c2, bne_self_eq_false]
      · rw [if_neg c2]
    · have c2 : (j : Int) * 16 < s := by
        by_cases c3 : s ≤ (j : Int) * 16
        · exact absurd (g1 c3) c
        · omega
      rw [if_neg c, if_neg (by omega), if_pos c2, if_pos (by omega), if_pos (by omega), rd28, if_pos (by omega), rdn, g2 c2, bne_self_eq_false]
theorem FileGrows (t : List S28) (i a s : Int) (b : List Int) (hl : t.length ≤ 4611686018427387904) (hr : ∀ x ∈ t, reach x) : ∃ k, potsherdlaw20_FileGrows.f k t i a s b = some true := by
  obtain ⟨K, h⟩ : Ev (fun k => potsherdlaw20_FileGrows.f k t i a s b) true := by
    unfold potsherdlaw20_FileGrows.f
    obtain ⟨r', h3, h4⟩ := light15_ev t hl hr
    refine h3.bind ?_
    have hyes : Ev (fun k => potsherdlaw20_FileGrows.j0 k i a s b true t) true := Ev.step (fun k => by simp only [potsherdlaw20_FileGrows.j0, if_true]) awake_bind
    by_cases c : r' > 0
    · simp only [if_pos c]; exact hyes
    simp only [if_neg c]
    by_cases ct : treeP t
    rotate_left
    · refine ((maytree_tells t hr).no ct).bind ?_
      simp only [Bool.false_eq_true, if_false]; exact hyes
    refine ((maytree_tells t hr).yes ct).bind ?_
    simp only [if_true]
    by_cases c1 : (b.length : Int) > 80
    · simp only [if_pos c1]; exact hyes
    simp only [if_neg c1]
    by_cases c3 : i < 0
    · simp only [if_pos c3]; exact hyes
    simp only [if_neg c3]
    by_cases c4 : i ≥ (t.length : Int)
    · simp only [if_pos c4]; exact hyes
    simp only [if_neg c4, if_pos (show 0 ≤ i from by omega), if_pos (show i < (t.length : Int) from by omega)]
    have ht := ct.1
    obtain ⟨n, rfl⟩ : ∃ n : Nat, i = n := ⟨i.toNat, by omega⟩
    simp only [rd28]
    by_cases c5 : (t.getD n z28).f0 = 1
    rotate_left
    · rw [bne_iff_ne.mpr c5]; exact hyes
    rw [bne_eq_false_iff_eq.mpr c5]
    obtain ⟨p, p0, p1, hp⟩ := umod a 81 (by decide) (by decide)
    obtain ⟨z, z0, z1, hz⟩ := umod s 81 (by decide) (by decide)
    have hF := tree_file ct hr (i := n) (by omega) c5
    have tail := fun e he => grows_tail hF z0 (show z ≤ 80 from by omega) e he
    refine Ev.step (fun k => by simp only [potsherdlaw20_FileGrows.j0, Bool.false_eq_true, if_false, hp, hz]; rfl) ?_
    by_cases cb : b.length = 0
    · have hb : b = [] := List.length_eq_zero_iff.mp cb
      subst hb
      refine (write_none hF p0 60).bind ?_
      simp only [if_true, ht, List.length_nil, if_pos (show ((12 : Nat) : Int) = 12 from rfl), if_neg (show ¬ ((0 : Nat) : Int) > 0 from by decide), if_pos (show ((0 : Nat) : Int) = 0 from rfl)]
      refine (tree_same t ht hF.all).bind ?_
      exact tail 0 (Or.inl rfl)
    by_cases cf : fits p (b.length : Int)
    rotate_left
    · refine (write_big hF cb p0 (by omega) cf 60).bind ?_
      simp only [show ((16 : Int) = 0) = False from by simp, if_false]
      exact tail 16 (Or.inr (Or.inl rfl))
    have w0 := write_ev hF cb cf 60 (by omega)
    by_cases cu : used t + moreN (t.getD n z28).f0 (t.getD n z28).f1 (t.getD n z28).f2 (t.getD n z28).f3 (t.getD n z28).f4 p (b.length : Int) > 60
    · refine (w0.1 cu).bind ?_
      simp only [show ((13 : Int) = 0) = False from by simp, if_false]
      exact tail 13 (Or.inr (Or.inr rfl))
    obtain ⟨td, L, w1, w2, w3⟩ := w0.2 cu
    refine w1.bind ?_
    have hg : rd_T28 (withN t n (grown (t.getD n z28) (mx (t.getD n z28).f2 (p + (b.length : Int))))) (n : Int) = grown (t.getD n z28) (mx (t.getD n z28).f2 (p + (b.length : Int))) := by rw [rd28, withN_get _ _ _ _ (by omega), if_pos rfl]
    have hgl : (withN t n (grown (t.getD n z28) (mx (t.getD n z28).f2 (p + (b.length : Int))))).length = 12 := by rw [List.length_set]; exact ht
    simp only [if_true, hgl, hg]
    simp only [if_pos (show ((12 : Nat) : Int) = 12 from rfl), if_pos (show (b.length : Int) > 0 from by omega), if_pos (show (0 : Int) ≤ (n : Int) from by omega), if_pos (show (n : Int) < ((12 : Nat) : Int) from by omega), if_pos (show (n : Int) < (t.length : Int) from by omega), rd28, w64 (a := p + (b.length : Int)) (by omega) (by omega), if_true, if_neg (show ¬ (b.length : Int) = 0 from by omega)]
    exact tail 0 (Or.inl rfl)
  exact ⟨K, h K (Nat.le_refl _)⟩
end Go.Proofs.Ytkigiehkckjlhaa.PureFileGrows
