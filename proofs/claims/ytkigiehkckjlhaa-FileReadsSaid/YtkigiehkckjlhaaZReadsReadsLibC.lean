/- What file.Write, file.Truncate, file.Done and file.Read make of the tree with one file: the printed functions tell it within the reach; no other condition. -/
import Derived.Test.YtkigiehkckjlhaaZReadsReadsLibB
namespace Go.Proofs.Ytkigiehkckjlhaa.ReadsLib
set_option linter.unusedVariables false
set_option linter.unusedSimpArgs false
open Go.RowKit Go.Proofs.Ytkigiehkckjlhaa.PReads Go.Proofs.YtkigiehkckjlhaaW.PrintWords
open Go Go.Proofs.Ytkigiehkckjlhaa.Plain Go.Proofs.YtkigiehkckjlhaaW.PrintMore
def pcs : Nat → Nat → Nat → List S41
  | 0, _, _ => []
  | k + 1, a, n => if n = 0 then [] else ⟨(a / 16 : Nat), (a % 16 : Nat), (min (16 - a % 16) n : Nat)⟩ :: pcs k (a + min (16 - a % 16) n) (n - min (16 - a % 16) n)
theorem pcs_all : ∀ a : Fin 81, ∀ n : Fin 81, a.val + n.val ≤ 80 → (span_Pieces.l0 20 (a.val : Int) (n.val : Int) []).map (fun l => l.map fun x => (x.f0, x.f1, x.f2)) = some ((pcs 6 a.val n.val).map fun x => (x.f0, x.f1, x.f2)) := by decide +kernel
theorem s41_ext (l l' : List S41) (h : l.map (fun x => (x.f0, x.f1, x.f2)) = l'.map fun x => (x.f0, x.f1, x.f2)) : l = l' := by
  have inj : ∀ x y : S41, (x.f0, x.f1, x.f2) = (y.f0, y.f1, y.f2) → x = y := fun x y h => by
    cases x; cases y; simp only [Prod.mk.injEq] at h; obtain ⟨h1, h2, h3⟩ := h; subst h1; subst h2; subst h3; rfl
  induction l generalizing l' with
  | nil => cases l' with
    | nil => rfl
    | cons _ _ => simp at h
  | cons x l ih => cases l' with
    | nil => simp at h
    | cons y l' =>
      simp only [List.map_cons, List.cons.injEq] at h
      rw [inj x y h.1, ih l' h.2]
theorem pieces3_ev {a n : Int} (h : fits a n) : Ev (fun k => span_Pieces.f k a n) (pcs 6 a.toNat n.toNat) := by
  have h1 := pcs_all ⟨a.toNat, by omega⟩ ⟨n.toNat, by omega⟩ (by simp only []; omega)
  simp only [Int.toNat_of_nonneg h.1, Int.toNat_of_nonneg h.2.1] at h1
  cases hq : span_Pieces.l0 20 a n [] with
  | none => rw [hq] at h1; cases h1
  | some l =>
    rw [hq] at h1
    have h2 := s41_ext l _ (qI h1)
    subst h2
    unfold span_Pieces.f
    simp only [fits_some a n ⟨by omega, by omega⟩, Option.bind_some, qT h, if_true]
    exact Ev.of (g := fun k => span_Pieces.l0 k a n []) (fun k => span_Pieces.mono_l k a n []) hq
def tdOf (i : Int) (q : List Int) : List S41 → List Int → List S60
  | [], _ => []
  | p :: L, b => ⟨i, p.f0, rd q p.f0, 16, p.f1, b.take (p.f2).toNat⟩ :: tdOf i q L (b.drop (p.f2).toNat)
theorem tdOf_len (i : Int) (q : List Int) : ∀ (L : List S41) (b : List Int), (tdOf i q L b).length = L.length
  | [], _ => rfl
  | p :: L, b => by simp only [tdOf, List.length_cons, tdOf_len i q L]
theorem write_loop3 (U : List S28) (i : Nat) (hi : i < U.length) (L : List S41) (hL : L.length ≤ 5) (hp : ∀ p ∈ L, 0 ≤ p.f0 ∧ p.f0 < ((U.getD i z28).f3.length : Int)) :
    ∀ d j : Nat, j + d = L.length → ∀ (b : List Int) (td : List S60), b.length ≤ 80 → td.length = j → lensOk (b.length : Int) (L.drop j) = true → Ev (fun k => file_Write.l0 k i b td L (L.length : Int) (j : Int) U) (U, td ++ tdOf i (U.getD i z28).f3 (L.drop j) b, 0) := by
  intro d
  induction d with
  | zero =>
    intro j hj b td _ ht _
    have e : L.drop j = [] := List.drop_eq_nil_of_le (by omega)
    rw [e]
    refine Ev.step (f := fun _ => some (U, td ++ [], 0)) (fun k => ?_) (Ev.now _)
    simp only [file_Write.l0]; rw [if_neg (by omega), List.append_nil]
  | succ d ih =>
    intro j hj b td hb htl hlen
    have hjl : j < L.length := by omega
    have hm := hp _ (List.getElem_mem hjl)
    have hdrop : L.drop j = L[j] :: L.drop (j + 1) := List.drop_eq_getElem_cons hjl
    rw [hdrop] at hlen ⊢
    simp only [lensOk, Bool.and_eq_true, decide_eq_true_eq] at hlen
    obtain ⟨⟨l1, l2⟩, l3⟩ := hlen
    have hrd : rX L (j : Int) = L[j] := by rw [rd41, qG, List.getElem?_eq_getElem hjl]; rfl
    have e1 : ((j + 1 : Nat) : Int) = (j : Int) + 1 := by push_cast; rfl
    have h1 := ih (j + 1) (by omega) (b.drop (L[j].f2).toNat) (td ++ [⟨(i : Int), L[j].f0, rd (U.getD i z28).f3 L[j].f0, 16, L[j].f1, b.take (L[j].f2).toNat⟩]) (by rw [List.length_drop]; omega) (by rw [List.length_append, htl]; rfl)
      (by rw [List.length_drop]; rw [show ((b.length - (L[j].f2).toNat : Nat) : Int) = (b.length : Int) - L[j].f2 from by omega]; exact l3)
    rw [List.append_assoc] at h1
    refine Ev.step (fun k => ?_) h1
    simp only [file_Write.l0]
    rw [if_pos (by omega), if_pos (by omega), if_pos (by omega), if_pos (by omega), if_pos (by omega), hrd, rd28, if_pos (by omega), if_pos (by omega), if_pos (by omega), if_pos (by omega)]
    unfold slices_Clone_byte_byte.f
    rw [if_pos (by rw [List.length_take]; omega)]
    simp only [Option.bind_some]
    rw [if_pos (by omega), w64 (a := (j : Int) + 1) (by omega) (by omega), e1]
theorem pcs_lens : ∀ (k a n : Nat), n ≤ 80 → lensOk (n : Int) (pcs k a n) = true
  | 0, _, _, _ => rfl
  | k + 1, a, n, h => by
    unfold pcs
    by_cases c : n = 0
    · rw [if_pos c]; rfl
    · rw [if_neg c]
      have ih := pcs_lens k (a + min (16 - a % 16) n) (n - min (16 - a % 16) n) (by omega)
      simp only [lensOk, Bool.and_eq_true, decide_eq_true_eq]
      refine ⟨by omega, ?_⟩
      rw [show (n : Int) - ((min (16 - a % 16) n : Nat) : Int) = ((n - min (16 - a % 16) n : Nat) : Int) from by omega]
      exact ih
theorem pcs_page : ∀ (k a n : Nat), a + n ≤ 80 → ∀ p ∈ pcs k a n, 0 ≤ p.f0 ∧ p.f0 < 5
  | 0, _, _, _, p, hp => by simp [pcs] at hp
  | k + 1, a, n, h, p, hp => by
    unfold pcs at hp
    by_cases c : n = 0
    · rw [if_pos c] at hp; simp at hp
    · rw [if_neg c] at hp
      rcases List.mem_cons.1 hp with rfl | hp
      · simp only; omega
      · exact pcs_page k _ _ (by omega) p hp
theorem pcs_len5 : ∀ a : Fin 81, ∀ n : Fin 81, a.val + n.val ≤ 80 → (pcs 6 a.val n.val).length ≤ 5 := by decide +kernel
theorem write_full {l : List S28} {i : Nat} (h : fileAt l i) {a : Int} {b : List Int} (hb : b.length ≠ 0) (hf : fits a (b.length : Int)) (d : Int) (hd : -9223372036854775808 ≤ d ∧ d ≤ 9223372036854775807)
    (hle : ¬ used l + moreN (l.getD i z28).f0 (l.getD i z28).f1 (l.getD i z28).f2 (l.getD i z28).f3 (l.getD i z28).f4 a (b.length : Int) > d) :
    Ev (fun k => file_Write.f k l d i a b) (withN l i (grown (l.getD i z28) (mx (l.getD i z28).f2 (a + (b.length : Int)))), tdOf i (l.getD i z28).f3 (pcs 6 a.toNat b.length) b, 0) := by
  have hl := h.len
  have hi := h.lt
  have hxm := getD_mem l (i := i) (by omega)
  have hx := h.all _ hxm
  have hr := h.small _ hxm
  have hu := used_le l
  have hmore := more_ev (l.getD i z28).f0 (l.getD i z28).f1 (l.getD i z28).f2 (l.getD i z28).f3 (l.getD i z28).f4 a (b.length : Int) (by omega) hr.1 hr.2
  have hm0 : 0 ≤ moreN (l.getD i z28).f0 (l.getD i z28).f1 (l.getD i z28).f2 (l.getD i z28).f3 (l.getD i z28).f4 a (b.length : Int) ∧ moreN (l.getD i z28).f0 (l.getD i z28).f1 (l.getD i z28).f2 (l.getD i z28).f3 (l.getD i z28).f4 a (b.length : Int) ≤ 5 := by
    unfold moreN
    split
    · rename_i hh
      have := cntZ_le (l.getD i z28).f3 (pgs a.toNat ((b.length : Int)).toNat)
      have := pgs_len hh.2.2
      omega
    · omega
  have hf5 : (l.getD i z28).f3.length = 5 := by
    rcases hx with y | y | y
    · rw [h.kind] at y; omega
    · exact y.2.2.2.2.2.2.1
    · rw [h.kind] at y; omega
  generalize moreN (l.getD i z28).f0 (l.getD i z28).f1 (l.getD i z28).f2 (l.getD i z28).f3 (l.getD i z28).f4 a (b.length : Int) = m at hmore hm0 hle
  have hL5 := pcs_len5 ⟨a.toNat, by omega⟩ ⟨b.length, by omega⟩ (by simp only []; omega)
  simp only at hL5
  have hpf := pcs_page 6 a.toNat b.length (by omega)
  have hg : (withN l i (grown (l.getD i z28) (mx (l.getD i z28).f2 (a + (b.length : Int))))).getD i z28 = grown (l.getD i z28) (mx (l.getD i z28).f2 (a + (b.length : Int))) := by rw [withN_get _ _ _ _ (by omega), if_pos rfl]
  have p1 := pieces3_ev hf
  rw [Int.toNat_natCast] at p1
  have w1 := write_loop3 (withN l i (grown (l.getD i z28) (mx (l.getD i z28).f2 (a + (b.length : Int))))) i (by rw [List.length_set]; omega) (pcs 6 a.toNat b.length) hL5 (fun p hp => by rw [hg]; have := hpf p hp; exact ⟨this.1, by show p.f0 < ((l.getD i z28).f3.length : Int); omega⟩) (pcs 6 a.toNat b.length).length 0 (by omega) b [] (by omega) rfl (by rw [List.drop_zero]; exact pcs_lens 6 a.toNat b.length (by omega))
  rw [hg, List.drop_zero, List.nil_append] at w1
  unfold file_Write.f
  refine h.is.bind ?_
  simp only [if_true, qF (show ¬ a < 0 from by omega)]
  refine Ev.step (fun k => by
    simp only [file_Write.j0, Bool.false_eq_true, if_false]
    rw [if_neg (by omega), fits_some a _ (by omega), qT hf]
    simp only [Option.bind_some, if_true]
    rfl) ((used_ev l h.small).bind ?_)
  simp only [if_pos (show (0 : Int) ≤ (i : Int) from by omega), if_pos (show (i : Int) < (l.length : Int) from by omega), rd28]
  refine hmore.bind ?_
  simp only [w64 (a := used l + m) (by omega) (by omega), if_neg hle]
  refine (dircopy_ev l hl h.all).bind ?_
  simp only [if_pos (show (i : Int) < (l.length : Int) from by omega), rd28, Int.toNat_natCast, w64 (a := a + (b.length : Int)) (by omega) (by omega)]
  exact p1.bind w1
theorem write_none {l : List S28} {i : Nat} (h : fileAt l i) {a : Int} (ha : 0 ≤ a) (d : Int) : Ev (fun k => file_Write.f k l d i a []) (l, [], 0) := by
  unfold file_Write.f
  refine h.is.bind ?_
  simp only [if_true, qF (show ¬ a < 0 from by omega)]
  refine Ev.step (fun k => by simp only [file_Write.j0, Bool.false_eq_true, if_false]; rw [if_pos (by rfl)]) ((dircopy_ev l h.len h.all).bind (Ev.now _))
def cutF (q : List Int) (p : Nat) : Nat → List Int
  | 0 => q
  | d + 1 => (cutF q p d).set (p + d) 0
theorem cutF_len (q : List Int) (p : Nat) : ∀ d, (cutF q p d).length = q.length
  | 0 => rfl
  | d + 1 => by rw [cutF, List.length_set, cutF_len q p d]
theorem cutF_get (q : List Int) (p r : Nat) : ∀ d, p + d ≤ q.length → (cutF q p d).getD r 0 = if p ≤ r ∧ r < p + d then 0 else q.getD r 0
  | 0, _ => by rw [if_neg (by omega)]; rfl
  | d + 1, h => by
    rw [cutF, qG, List.getElem?_set]
    by_cases c : p + d = r
    · subst c
      rw [if_pos rfl, if_pos (by rw [cutF_len]; omega), if_pos (by omega)]; rfl
    · rw [if_neg c, ← qG, cutF_get q p r d (by omega)]
      by_cases c2 : p ≤ r ∧ r < p + d
      · rw [if_pos c2, if_pos (by omega)]
      · rw [if_neg c2, if_neg (by omega)]
abbrev sized (x : S28) (s : Int) (q : List Int) : S28 := ⟨x.f0, x.f1, s, q, x.f4⟩
abbrev pgN (s : Int) : Nat := ((s + 15) / 16).toNat
theorem trunc_loop {l : List S28} {i : Nat} (h : fileAt l i) (s : Int) (td : List S60) (p : Nat) (hp : p ≤ 5) : Ev (fun k => file_Truncate.l0 k i td (p : Int) (withN l i (sized (l.getD i z28) s (l.getD i z28).f3))) (withN l i (sized (l.getD i z28) s (cutF (l.getD i z28).f3 p (5 - p))), td, 0) := by
  have hl := h.len
  have hi := h.lt
  have hx := h.all _ (getD_mem l (i := i) (by omega))
  have hf5 : (l.getD i z28).f3.length = 5 := by
    rcases hx with y | y | y
    · rw [h.kind] at y; omega
    · exact y.2.2.2.2.2.2.1
    · rw [h.kind] at y; omega
  have key := Ev_fold (g := fun k st j => file_Truncate.l0 k i td ((p : Int) + j) st) (5 - p) (fun j => withN l i (sized (l.getD i z28) s (cutF (l.getD i z28).f3 p j))) (withN l i (sized (l.getD i z28) s (cutF (l.getD i z28).f3 p (5 - p))), td, 0) ?_ ?_
  · simpa [cutF] using key
  · refine Ev.step (f := fun _ => some (withN l i (sized (l.getD i z28) s (cutF (l.getD i z28).f3 p (5 - p))), td, 0)) (fun k => ?_) (Ev.now _)
    simp only [file_Truncate.l0]; rw [if_neg (by omega)]
  · intro j hj r hr
    refine Ev.step (fun k => ?_) hr
    have hg : rU (withN l i (sized (l.getD i z28) s (cutF (l.getD i z28).f3 p j))) (i : Int) = sized (l.getD i z28) s (cutF (l.getD i z28).f3 p j) := by rw [rd28, withN_get _ _ _ _ (by omega), if_pos rfl]
    simp only [file_Truncate.l0]
    rw [if_pos (by omega), if_pos (by omega), if_pos (by rw [List.length_set]; omega), if_pos (by omega), hg, if_pos (by show _ < ((cutF (l.getD i z28).f3 p j).length : Int); rw [cutF_len]; omega)]
    rw [w64 (a := (p : Int) + (j : Int) + 1) (by omega) (by omega), show ((p : Int) + (j : Int)).toNat = p + j from by omega, Int.toNat_natCast]
    unfold withN
    rw [List.set_set, Int.add_assoc]
    rfl
def tdCut (i : Int) (s si : Int) (q : List Int) : List S60 := if s < si ∧ s % 16 > 0 ∧ rd q (s / 16) ≠ 0 then [⟨i, s / 16, rd q (s / 16), s % 16, 0, []⟩] else []
theorem trunc_full {l : List S28} {i : Nat} (h : fileAt l i) {s : Int} (h0 : 0 ≤ s) (h1 : s ≤ 80) : Ev (fun k => file_Truncate.f k l i s) (withN l i (sized (l.getD i z28) s (cutF (l.getD i z28).f3 (pgN s) (5 - pgN s))), tdCut i s (l.getD i z28).f2 (l.getD i z28).f3, 0) := by
  have hl := h.len
  have hi := h.lt
  have hxm := getD_mem l (i := i) (by omega)
  have hx := h.all _ hxm
  have hx0 : okN (l.getD i z28).f0 (l.getD i z28).f1 (l.getD i z28).f2 (l.getD i z28).f3 (l.getD i z28).f4 := hx
  rw [h.kind] at hx0
  have hok := okN_file hx0
  have hf5 := hok.2.2.2.2.2.1
  have hs80 := hok.2.2.2.2.1
  have hj2 : ∀ td, Ev (fun k => file_Truncate.j2 k i s td l) (withN l i (sized (l.getD i z28) s (cutF (l.getD i z28).f3 (pgN s) (5 - pgN s))), td, 0) := by
    intro td
    have hp : span_Pages.f s = some ((pgN s : Nat) : Int) := by
      unfold span_Pages.f mx mn pgN
      congr 1
      split <;> split <;> omega
    refine Ev.step (fun k => ?_) (trunc_loop h s td (pgN s) (by unfold pgN; omega))
    simp only [file_Truncate.j2]
    rw [if_pos (by omega), if_pos (by omega), hp, rd28, Int.toNat_natCast]
    rfl
  have hd : Int.tdiv s 16 = s / 16 := tdiv16 h0
  have hm : Int.tmod s 16 = s % 16 := tmod16 h0
  have pre : ∀ {td : List S60} {r : List S28}, Ev (fun k => if s < (l.getD i z28).f2 then (if Int.tmod s 16 > 0 then (if 0 ≤ wrap64 (Int.tdiv s 16) then (if wrap64 (Int.tdiv s 16) < ((l.getD i z28).f3.length : Int) then file_Truncate.j1 k i s [] (wrap64 (Int.tdiv s 16)) (Int.tmod s 16) (rd (l.getD i z28).f3 (wrap64 (Int.tdiv s 16)) != 0) l else none) else none) else file_Truncate.j1 k i s [] (wrap64 (Int.tdiv s 16)) (Int.tmod s 16) false l) else file_Truncate.j1 k i s [] (wrap64 (Int.tdiv s 16)) (Int.tmod s 16) false l) (r, td, 0) → Ev (fun k => file_Truncate.f k l i s) (r, td, 0) := by
    intro td r hh
    unfold file_Truncate.f
    refine h.is.bind ?_
    simp only [if_true, qF (show ¬ s < 0 from by omega)]
    refine Ev.step (fun k => by simp only [file_Truncate.j0, Bool.false_eq_true, if_false]; rw [if_neg (by omega)]) ((dircopy_ev l hl h.all).bind ?_)
    simp only [if_pos (show (0 : Int) ≤ (i : Int) from by omega), if_pos (show (i : Int) < (l.length : Int) from by omega), rd28]
    exact hh
  rw [hd, hm, w64 (a := s / 16) (by omega) (by omega)] at pre
  have no : ∀ c m, Ev (fun k => file_Truncate.j1 k i s [] c m false l) (withN l i (sized (l.getD i z28) s (cutF (l.getD i z28).f3 (pgN s) (5 - pgN s))), [], 0) := fun c m => Ev.step (fun k => by simp only [file_Truncate.j1, Bool.false_eq_true, if_false]) (hj2 [])
  by_cases c1 : s < (l.getD i z28).f2
  · by_cases c2 : s % 16 > 0
    · refine pre ?_
      simp only [if_pos c1, if_pos c2, if_pos (show 0 ≤ s / 16 from by omega), if_pos (show s / 16 < ((l.getD i z28).f3.length : Int) from by omega)]
      by_cases c3 : rd (l.getD i z28).f3 (s / 16) = 0
      · have e : tdCut i s (l.getD i z28).f2 (l.getD i z28).f3 = [] := by unfold tdCut; rw [if_neg (fun z => z.2.2 c3)]
        rw [e, bne_eq_false_iff_eq.mpr c3]
        exact no _ _
      · have e : tdCut i s (l.getD i z28).f2 (l.getD i z28).f3 = [⟨i, s / 16, rd (l.getD i z28).f3 (s / 16), s % 16, 0, []⟩] := by unfold tdCut; rw [if_pos ⟨c1, c2, c3⟩]
        rw [e, bne_iff_ne.mpr c3]
        refine Ev.step (fun k => ?_) (hj2 _)
        simp only [file_Truncate.j1, if_true]
        rw [if_pos (by omega), if_pos (by omega), if_pos (by omega), rd28, if_pos (by omega)]
    · have e : tdCut i s (l.getD i z28).f2 (l.getD i z28).f3 = [] := by unfold tdCut; rw [if_neg (fun z => c2 z.2.1)]
      rw [e]
      refine pre ?_
      simp only [if_pos c1, if_neg c2]
      exact no _ _
  · have e : tdCut i s (l.getD i z28).f2 (l.getD i z28).f3 = [] := by unfold tdCut; rw [if_neg (fun z => c1 z.1)]
    rw [e]
    refine pre ?_
    simp only [if_neg c1]
    exact no _ _
theorem trunc_arg {l : List S28} {i : Nat} (h : fileAt l i) {s : Int} (h0 : s < 0) : Ev (fun k => file_Truncate.f k l i s) ([], [], 1) := by
  unfold file_Truncate.f
  refine h.is.bind ?_
  simp only [if_true, qT h0]
  exact Ev.step (f := fun _ => some ([], [], 1)) (fun k => by simp only [file_Truncate.j0, if_true]) (Ev.now _)
theorem trunc_big {l : List S28} {i : Nat} (h : fileAt l i) {s : Int} (h0 : s > 80) : Ev (fun k => file_Truncate.f k l i s) ([], [], 16) := by
  unfold file_Truncate.f
  refine h.is.bind ?_
  simp only [if_true, qF (show ¬ s < 0 from by omega)]
  exact Ev.step (f := fun _ => some ([], [], 16)) (fun k => by simp only [file_Truncate.j0, Bool.false_eq_true, if_false]; rw [if_pos h0]) (Ev.now _)
theorem write_neg {l : List S28} {i : Nat} (h : fileAt l i) {a : Int} (ha : a < 0) (b : List Int) (d : Int) : Ev (fun k => file_Write.f k l d i a b) ([], [], 1) := by
  unfold file_Write.f
  refine h.is.bind ?_
  simp only [if_true, qT ha]
  exact Ev.step (f := fun _ => some ([], [], 1)) (fun k => by simp only [file_Write.j0, if_true]) (Ev.now _)
def T0 : List S28 := ⟨2, 1, 0, [], [⟨⟨#[97]⟩, 1⟩]⟩ :: ⟨1, 1, 0, [0, 0, 0, 0, 0], []⟩ :: List.replicate 10 z28
theorem one_is : potsherdlaw20_one.f 200 = some T0 := by kernel_rfl
theorem T0_may : potsherdref12_MayTree.f 200 T0 = some true := by kernel_rfl
theorem T0_reach : ∀ x ∈ T0, reach x := by
  intro x hx
  unfold T0 at hx
  simp only [List.mem_cons, List.mem_replicate] at hx
  unfold reach
  rcases hx with rfl | rfl | ⟨_, rfl⟩
  · refine ⟨by simp, fun y hy => ?_⟩
    simp only [List.mem_singleton] at hy
    subst hy
    decide
  · exact ⟨by simp, by simp⟩
  · exact ⟨by decide, by simp [z28]⟩
theorem T0_tree : treeP T0 := by
  obtain ⟨b, h1, h2⟩ := maytree_tells T0 T0_reach
  have h3 : Ev (fun k => potsherdref12_MayTree.f k T0) true := Ev.of (g := fun k => potsherdref12_MayTree.f k T0) (fun k => potsherdref12_MayTree.mono T0 k) T0_may
  exact h2.1 (Ev.one h1 h3)
abbrev tr (s : Int) (q : List Int) : List S28 := withN T0 1 ⟨1, 1, s, q, []⟩
theorem tr_reached (s : Int) (q : List Int) : potsherdref12_reached.f 200 (tr s q) 0 = some (true :: List.replicate 11 false) := by kernel_rfl
theorem tr_named (s : Int) (q : List Int) (i : Int) : named (tr s q) i = if i = 1 then 1 else 0 := by
  unfold named
  have e : (tr s q).flatMap (·.f4) = [⟨⟨#[97]⟩, 1⟩] := by simp [tr, T0, z28, List.replicate]
  rw [e]
  by_cases c : i = 1
  · rw [if_pos c, c]; rfl
  · rw [if_neg c]
    have : decide ((1 : Int) = i) = false := qF (fun h => c h.symm)
    simp [this]
theorem tr_tree {s : Int} {q : List Int} (hX : okX ⟨1, 1, s, q, []⟩) (hq : seqOk [] q) : treeP (tr s q) := by
  obtain ⟨a, b, ⟨c1, c2, c3⟩, on, d1, d2, d3⟩ := T0_tree
  have e3 : (tr s q).flatMap (·.f3) = q := by simp [tr, T0, z28, List.replicate]
  refine ⟨by rfl, by rfl, ⟨withN_all c1 hX, fun x hx y hy => ?_, by rw [e3]; exact hq⟩, _, ?_, Ev.of (g := fun k => potsherdref12_reached.f k (tr s q) 0) (fun k => potsherdref12_reached.mono (tr s q) 0 k) (tr_reached s q), fun j hj => ?_⟩
  · have h2 : y ∈ (tr s q).flatMap (·.f4) := List.mem_flatMap.2 ⟨x, hx, hy⟩
    have e : (tr s q).flatMap (·.f4) = [⟨⟨#[97]⟩, 1⟩] := by simp [tr, T0, z28, List.replicate]
    rw [e, List.mem_singleton] at h2
    subst h2
    show (1 : Int) ≠ 0
    decide
  · rfl
  · unfold hangOk
    rw [tr_named]
    match j, hj with
    | 0, _ => exact ⟨fun _ => ⟨rfl, fun h => absurd h (by omega)⟩, fun h => absurd (show (2 : Int) = 1 from h) (by decide)⟩
    | 1, _ => exact ⟨fun h => absurd (show (1 : Int) = 2 from h) (by decide), fun _ => rfl⟩
    | k + 2, hk =>
      have e : ((tr s q).getD (k + 2) z28).f0 = 0 := by
        have : (tr s q).getD (k + 2) z28 = (List.replicate 10 z28).getD k z28 := rfl
        rw [this, qG, List.getElem?_replicate, if_pos (by omega)]; rfl
      rw [e]
      exact ⟨fun h => absurd h (by decide), fun h => absurd h (by decide)⟩
theorem tr_okX {s : Int} {q : List Int} (h : ∀ i, i < q.length → okQ s q i) (h0 : 0 ≤ s) (h1 : s ≤ 80) (h5 : q.length = 5) : okX ⟨1, 1, s, q, []⟩ := Or.inr (Or.inl ⟨rfl, h, by show (0 : Int) ≤ 1; decide, by show (1 : Int) ≤ 120; decide, h0, h1, h5, rfl⟩)
theorem tree_file {l : List S28} (h : treeP l) (hr : ∀ x ∈ l, reach x) {i : Nat} (hi : i < 12) (hk : (l.getD i z28).f0 = 1) : fileAt l i := ⟨h.1, h.2.2.1.1, hr, tree_tied h, h.2.2.1.2.2, hi, hk⟩
theorem tr_reach (s : Int) (q : List Int) : ∀ x ∈ tr s q, reach x := withN_all T0_reach ⟨by simp, by simp⟩
theorem tr_file {s : Int} {q : List Int} (hX : okX ⟨1, 1, s, q, []⟩) (hq : seqOk [] q) : fileAt (tr s q) 1 := tree_file (tr_tree hX hq) (tr_reach s q) (by decide) rfl
theorem tr_set (s s' : Int) (q q' : List Int) : withN (tr s q) 1 ⟨1, 1, s', q', []⟩ = tr s' q' := by unfold tr withN; rw [List.set_set]
theorem rd60 (l : List S60) (i : Nat) : rW l (i : Int) = l.getD i z60 := by unfold rW; rw [Int.toNat_natCast]
def putS : List Int → List Nat → List Int → List Int
  | q, p :: ps, s :: ss => putS (q.set p s) ps ss
  | q, _, _ => q
theorem putS_len : ∀ (ps : List Nat) (q ss : List Int), (putS q ps ss).length = q.length
  | [], q, ss => by cases ss <;> rfl
  | p :: ps, q, [] => rfl
  | p :: ps, q, s :: ss => by simp only [putS]; rw [putS_len, List.length_set]
theorem putS_get : ∀ (ps : List Nat) (q ss : List Int), (∀ p ∈ ps, p < q.length) → ss.length = ps.length → ∀ r, (r ∉ ps → (putS q ps ss).getD r 0 = q.getD r 0) ∧ (r ∈ ps → (putS q ps ss).getD r 0 ∈ ss)
  | [], q, ss, _, _, r => by cases ss <;> simp [putS]
  | p :: ps, q, [], _, h, r => by simp at h
  | p :: ps, q, s :: ss, hp, h, r => by
    simp only [List.length_cons] at h
    obtain ⟨a, b⟩ := putS_get ps (q.set p s) ss (fun x hx => by rw [List.length_set]; exact hp x (by simp [hx])) (by omega) r
    have hp0 := hp p (by simp)
    simp only [putS]
    constructor
    · intro hr
      simp only [List.mem_cons, not_or] at hr
      rw [a hr.2, getD_set q p r s hp0, if_neg hr.1]
    · intro hr
      by_cases c : r ∈ ps
      · exact List.mem_cons_of_mem _ (b c)
      · have : r = p := by
          rcases List.mem_cons.1 hr with h | h
          · exact h
          · exact absurd h c
        rw [a c, getD_set q p r s hp0, if_pos this]; simp
theorem nz_pat {q q' : List Int} : ∀ n, (∀ r, r < n → (q.getD r 0 = 0 ↔ q'.getD r 0 = 0)) → nz q n = nz q' n
  | 0, _ => rfl
  | n + 1, h => by
    simp only [nz]
    rw [nz_pat n (fun r hr => h r (by omega))]
    by_cases c : q.getD n 0 = 0
    · rw [if_pos c, if_pos ((h n (by omega)).1 c)]
    · rw [if_neg c, if_neg (fun x => c ((h n (by omega)).2 x))]
theorem nz_put (ps : List Nat) (q ss : List Int) (hp : ∀ p ∈ ps, p < q.length) (hd : ps.Nodup) (hl : ss.length = ps.length) (hs : ∀ s ∈ ss, s ≠ 0) : nz (putS q ps ss) q.length = nz q q.length + cntZ q ps := by
  rw [← nz_fill ps q hp hd]
  refine nz_pat _ (fun r _ => ?_)
  obtain ⟨a, b⟩ := putS_get ps q ss hp hl r
  rw [fill_get ps q hp r]
  by_cases c : r ∈ ps
  · have := hs _ (b c)
    by_cases c2 : q.getD r 0 = 0
    · rw [if_pos ⟨c, c2⟩]; exact ⟨fun x => absurd x this, fun x => by omega⟩
    · rw [if_neg (fun x => c2 x.2)]; exact ⟨fun x => absurd x this, fun x => absurd x c2⟩
  · rw [if_neg (fun x => c x.1), a c]
abbrev paged (x : S28) (q : List Int) : S28 := ⟨x.f0, x.f1, x.f2, q, x.f4⟩
theorem done_loop {u : List S28} {i : Nat} (h : fileAt u i) (x : S28) (td : List S60) (ps : List Nat) (ss : List Int) (ht : td.map (·.f1) = ps.map (fun p : Nat => (p : Int))) (hf : ∀ t ∈ td, t.f0 = (i : Int)) (hl : ss.length = td.length) (h5 : td.length ≤ 5) (hp : ∀ p ∈ ps, p < 5) (hs : ∀ s ∈ ss, 1 ≤ s ∧ s ≤ 1099511627776) :
    ∀ d j : Nat, j + d = td.length → ∀ q : List Int, q.length = 5 → ∀ R, Ev (fun k => (dir_May.f k (withN u i (paged x (putS q (ps.drop j) (ss.drop j))))).bind fun t331 => if t331 = true then some (withN u i (paged x (putS q (ps.drop j) (ss.drop j))), (0 : Int)) else none) R →
      Ev (fun k => file_Done.l0 k ss td (td.length : Int) j u (withN u i (paged x q))) R := by
  have hpl : ps.length = td.length := by have := congrArg List.length ht; simp at this; omega
  have hu := h.len
  have hi := h.lt
  intro d
  induction d with
  | zero =>
    intro j hj q hq R hR
    have e1 : ps.drop j = [] := List.drop_eq_nil_of_le (by omega)
    have e2 : putS q (ps.drop j) (ss.drop j) = q := by rw [e1]; cases ss.drop j <;> rfl
    rw [e2] at hR
    refine Ev.step (fun k => ?_) hR
    simp only [file_Done.l0]; rw [if_neg (by omega)]
  | succ d ih =>
    intro j hj q hq R hR
    have hjt : j < td.length := by omega
    have hjp : j < ps.length := by omega
    have hjs : j < ss.length := by omega
    have e1 : ps.drop j = ps[j] :: ps.drop (j + 1) := List.drop_eq_getElem_cons hjp
    have e2 : ss.drop j = ss[j] :: ss.drop (j + 1) := List.drop_eq_getElem_cons hjs
    rw [e1, e2] at hR
    simp only [putS] at hR
    have := ih (j + 1) (by omega) (q.set ps[j] ss[j]) (by rw [List.length_set]; exact hq) R hR
    have hrt : rW td (j : Int) = td[j] := by rw [rd60, qG, List.getElem?_eq_getElem hjt]; rfl
    have hf0 := hf _ (List.getElem_mem hjt)
    have hf1 : td[j].f1 = (ps[j] : Int) := by
      have := congrArg (fun z => z[j]?) ht
      simp only [List.getElem?_map, List.getElem?_eq_getElem hjt, List.getElem?_eq_getElem hjp, Option.map_some, Option.some.injEq] at this
      exact this
    have hpj := hp _ (List.getElem_mem hjp)
    have hsj := hs _ (List.getElem_mem hjs)
    have hrs : rd ss (j : Int) = ss[j] := by rw [rdn, qG, List.getElem?_eq_getElem hjs]; rfl
    have hget : (withN u i (paged x q)).getD i z28 = paged x q := by rw [withN_get u i i _ (by omega), if_pos rfl]
    refine Ev.step (fun k => by
      simp only [file_Done.l0]
      rw [if_pos (by omega), if_pos (by omega), if_pos (by omega), hrt, hf0, hf1, hrs]) (h.is.bind ?_)
    simp only [if_true]
    refine Ev.step (f := fun k => file_Done.l0 k ss td (td.length : Int) ((j + 1 : Nat) : Int) u (withN u i (paged x (q.set ps[j] ss[j])))) (fun k => ?_) this
    rw [if_neg (by omega), if_neg (by omega), if_pos (by omega), if_neg (by omega), qF (by omega)]
    simp only [file_Done.j2, Bool.false_eq_true, if_false]
    rw [if_pos (by omega), if_pos (by rw [List.length_set]; omega), if_pos (by omega), if_pos (by omega), if_pos (by omega), rd28, hget, if_pos (by simp only [hq]; omega), hrs, Int.toNat_natCast, Int.toNat_natCast, List.set_set, w64 (a := (j : Int) + 1) (by omega) (by omega)]
    rfl
theorem usum_set (l : List S28) (i : Nat) (hi : i < l.length) (x : S28) : ∀ n, usum (withN l i x) n = usum l n + (if i < n then (pagesX x : Int) - (pagesX (l.getD i z28) : Int) else 0)
  | 0 => by simp [usum]
  | n + 1 => by
    simp only [usum]
    rw [usum_set l i hi x n, withN_get l i n x hi]
    by_cases c : n = i
    · subst c; rw [if_pos rfl, if_neg (by omega), if_pos (by omega)]; omega
    · rw [if_neg c]
      by_cases c2 : i < n
      · rw [if_pos c2, if_pos (by omega)]; omega
      · rw [if_neg c2, if_neg (by omega)]; omega
theorem used_set {l : List S28} {i : Nat} (hl : l.length = 12) (hi : i < 12) (x : S28) (hX : ∀ y ∈ l, okX y) (hx : okX x) : used (withN l i x) = used l + (pagesX x : Int) - (pagesX (l.getD i z28) : Int) := by
  unfold used
  have h1 : okT l := ⟨hl, hX⟩
  have h2 : okT (withN l i x) := ⟨by rw [List.length_set]; exact hl, withN_all hX hx⟩
  rw [if_pos h1, if_pos h2, List.length_set, usum_set l i (by omega) x, if_pos (by omega)]
  omega
def newT (top : Int) (n : Nat) : List Int := (List.range n).map fun j : Nat => top + 1 + (j : Int)
theorem newT_len (top : Int) (n : Nat) : (newT top n).length = n := by unfold newT; rw [List.length_map, List.length_range]
theorem newT_mem {top : Int} {n : Nat} : ∀ s ∈ newT top n, top + 1 ≤ s ∧ s ≤ top + (n : Int) := by
  intro s hs
  unfold newT at hs
  rw [List.mem_map] at hs
  obtain ⟨j, hj, rfl⟩ := hs
  rw [List.mem_range] at hj
  omega
theorem newT_get {top : Int} {n j : Nat} (h : j < n) : (newT top n).getD j 0 = top + 1 + (j : Int) := by
  unfold newT
  rw [qG, List.getElem?_map, List.getElem?_range h]; rfl
theorem newT_succ (top : Int) (n : Nat) : newT top (n + 1) = newT top n ++ [top + 1 + (n : Int)] := by
  unfold newT; rw [List.range_succ, List.map_append]; rfl
theorem newT_count (top s : Int) : ∀ n, (newT top n).count s ≤ 1
  | 0 => by simp [newT]
  | n + 1 => by
    rw [newT_succ, List.count_append]
    have ih := newT_count top s n
    by_cases c : top + 1 + (n : Int) = s
    · have : (newT top n).count s = 0 := List.count_eq_zero.2 (fun h => by have := newT_mem s h; omega)
      rw [this]; simp [c]
    · have : [top + 1 + (n : Int)].count s = 0 := List.count_eq_zero.2 (by simp; exact fun h => c h.symm)
      omega
theorem seqOk_count : ∀ (L seen : List Int), seqOk seen L ↔ ∀ s, s ≠ 0 → (s ∈ seen → L.count s = 0) ∧ L.count s ≤ 1
  | [], seen => by simp [seqOk]
  | x :: r, seen => by
    simp only [seqOk]
    rw [seqOk_count r (x :: seen)]
    constructor
    · intro ⟨h1, h2⟩ s hs
      obtain ⟨a, b⟩ := h2 s hs
      rw [List.count_cons]
      by_cases c : x = s
      · subst c
        have := a (by simp)
        refine ⟨fun hm => absurd ⟨hs, hm⟩ h1, by simp; omega⟩
      · have e : (x == s) = false := by simpa using c
        rw [e]
        exact ⟨fun hm => by have := a (List.mem_cons_of_mem _ hm); simp [this], by simpa using b⟩
    · intro h
      refine ⟨fun ⟨h0, hm⟩ => ?_, fun s hs => ?_⟩
      · have := (h x h0).1 hm; rw [List.count_cons] at this; simp at this
      · obtain ⟨a, b⟩ := h s hs
        rw [List.count_cons] at a b
        refine ⟨fun hm => ?_, by omega⟩
        rcases List.mem_cons.1 hm with c | c
        · subst c; simp at b; omega
        · have := a c; omega
theorem count_set_le (s x : Int) : ∀ (q : List Int) (p : Nat), (q.set p x).count s ≤ q.count s + [x].count s
  | [], p => by simp
  | y :: q, 0 => by rw [List.set_cons_zero, List.count_cons, List.count_cons, List.count_cons]; simp
  | y :: q, p + 1 => by have := count_set_le s x q p; rw [List.set_cons_succ, List.count_cons, List.count_cons]; omega
theorem putS_count (s : Int) : ∀ (ps : List Nat) (q ss : List Int), (putS q ps ss).count s ≤ q.count s + ss.count s
  | [], q, ss => by cases ss <;> simp [putS]
  | p :: ps, q, [] => by simp [putS]
  | p :: ps, q, x :: ss => by
    simp only [putS]
    have h1 := putS_count s ps (q.set p x) ss
    have h2 := count_set_le s x q p
    have h3 : (x :: ss).count s = ss.count s + [x].count s := by rw [List.count_cons, List.count_cons]; simp
    omega
theorem flat_count (s : Int) : ∀ (l : List S28) (i : Nat) (x : S28), i < l.length → ((l.set i x).flatMap (·.f3)).count s + (l.getD i z28).f3.count s = (l.flatMap (·.f3)).count s + x.f3.count s
  | [], i, x, h => by simp at h
  | y :: l, 0, x, _ => by
    simp only [List.set_cons_zero, List.flatMap_cons, List.count_append, List.getD_cons_zero]; omega
  | y :: l, i + 1, x, h => by
    have := flat_count s l i x (by simpa using h)
    simp only [List.set_cons_succ, List.flatMap_cons, List.count_append, List.getD_cons_succ]; omega
theorem fresh_ok {u : List S28} {i : Nat} (hi : i < u.length) (h : seqOk [] (u.flatMap (·.f3))) (ps : List Nat) (top : Int) (ht : ∀ x ∈ u, ∀ s ∈ x.f3, s ≤ top) (n : Nat) : seqOk [] ((withN u i (paged (u.getD i z28) (putS (u.getD i z28).f3 ps (newT top n)))).flatMap (·.f3)) := by
  rw [seqOk_count] at h ⊢
  intro s hs
  refine ⟨fun hm => absurd hm (by simp), ?_⟩
  have h1 := (h s hs).2
  have h2 := flat_count s u i (paged (u.getD i z28) (putS (u.getD i z28).f3 ps (newT top n))) hi
  have h3 := putS_count s ps (u.getD i z28).f3 (newT top n)
  have h4 := newT_count top s n
  simp only at h2
  show ((u.set i (paged (u.getD i z28) (putS (u.getD i z28).f3 ps (newT top n)))).flatMap (·.f3)).count s ≤ 1
  by_cases c : s ∈ newT top n
  · have h5 := newT_mem s c
    have : (u.flatMap (·.f3)).count s = 0 := List.count_eq_zero.2 (fun hm => by
      rw [List.mem_flatMap] at hm
      obtain ⟨x, hx, hy⟩ := hm
      have := ht x hx s hy
      omega)
    omega
  · have : (newT top n).count s = 0 := List.count_eq_zero.2 c
    omega
theorem putS_at : ∀ (ps : List Nat) (q ss : List Int), (∀ p ∈ ps, p < q.length) → ss.length = ps.length → ps.Nodup → ∀ (j : Nat) (h : j < ps.length), (putS q ps ss).getD ps[j] 0 = ss.getD j 0
  | [], _, _, _, _, _, j, h => by simp at h
  | p :: ps, q, [], _, hl, _, _, _ => by simp at hl
  | p :: ps, q, x :: ss, hp, hl, hn, j, h => by
    simp only [List.length_cons] at hl
    rw [List.nodup_cons] at hn
    have hp2 : ∀ y ∈ ps, y < (q.set p x).length := fun y hy => by rw [List.length_set]; exact hp y (by simp [hy])
    cases j with
    | zero =>
      simp only [putS, List.getElem_cons_zero, List.getD_cons_zero]
      rw [(putS_get ps (q.set p x) ss hp2 (by omega) p).1 hn.1, getD_set q p p x (hp p (by simp)), if_pos rfl]
    | succ j =>
      simp only [putS, List.getElem_cons_succ, List.getD_cons_succ]
      exact putS_at ps (q.set p x) ss hp2 (by omega) hn.2 j (by simpa using h)
theorem done_yes {u : List S28} {i : Nat} (h : fileAt u i) (td : List S60) (ps : List Nat) (ss : List Int) (ht : td.map (·.f1) = ps.map (fun p : Nat => (p : Int))) (hf : ∀ t ∈ td, t.f0 = (i : Int)) (hl : ss.length = td.length) (h5 : td.length ≤ 5) (hp : ∀ p ∈ ps, p < 5 ∧ (p : Int) * 16 < (u.getD i z28).f2) (hs : ∀ s ∈ ss, 1 ≤ s ∧ s ≤ 1099511627776)
    (hq : seqOk [] ((withN u i (paged (u.getD i z28) (putS (u.getD i z28).f3 ps ss))).flatMap (·.f3))) : Ev (fun k => file_Done.f k u td ss) (withN u i (paged (u.getD i z28) (putS (u.getD i z28).f3 ps ss)), 0) ∧ fileAt (withN u i (paged (u.getD i z28) (putS (u.getD i z28).f3 ps ss))) i := by
  have hu := h.len
  have hi := h.lt
  have hxm := getD_mem u (i := i) (by omega)
  have hx := h.all _ hxm
  have hr := h.small _ hxm
  have hF : okF (u.getD i z28).f1 (u.getD i z28).f2 (u.getD i z28).f3 (u.getD i z28).f4 := by
    rcases hx with y | y | y
    · rw [h.kind] at y; omega
    · exact y.2
    · rw [h.kind] at y; omega
  have hpl : ps.length = td.length := by have := congrArg List.length ht; simp at this; omega
  have hself : withN u i (paged (u.getD i z28) (u.getD i z28).f3) = u := by
    apply List.ext_getElem?
    intro j
    rw [List.getElem?_set]
    by_cases c : i = j
    · subst c
      rw [if_pos rfl, if_pos (by omega), qG, List.getElem?_eq_getElem (show i < u.length from by omega)]; rfl
    · rw [if_neg c]
  obtain ⟨g1, g2, g3, g4, g5, g6, g7⟩ := hF
  have hget := putS_get ps (u.getD i z28).f3 ss (fun p hq => by have := hp p hq; omega) (by omega)
  have hX : okX (paged (u.getD i z28) (putS (u.getD i z28).f3 ps ss)) := by
    refine Or.inr (Or.inl ⟨h.kind, fun r hrl => ?_, g2, g3, g4, g5, by simp only [putS_len]; exact g6, g7⟩)
    simp only [putS_len] at hrl
    have hQ := g1 r hrl
    unfold okQ at hQ ⊢
    simp only
    by_cases c : r ∈ ps
    · have h1 := hs _ ((hget r).2 c)
      have h2 := hp r c
      exact ⟨by omega, by omega, fun z => by omega⟩
    · rw [(hget r).1 c]; exact hQ
  generalize hv : withN u i (paged (u.getD i z28) (putS (u.getD i z28).f3 ps ss)) = v
  have hvl : v.length = 12 := by rw [← hv, List.length_set]; exact hu
  have hvX : ∀ y ∈ v, okX y := by rw [← hv]; exact withN_all h.all hX
  have hvr : ∀ y ∈ v, reach y := by rw [← hv]; exact withN_all h.small hr
  have hvt : tied v := by rw [← hv]; exact withN_tied (by omega) rfl rfl rfl h.tie
  obtain ⟨bm, m1, m2⟩ := dirmay_tells v hvl hvX hvr hvt
  have loop : ∀ R : List S28 × Int, Ev (fun k => (dir_May.f k v).bind fun t331 => if t331 = true then some (v, (0 : Int)) else none) R → Ev (fun k => file_Done.l0 k ss td (td.length : Int) ((0 : Nat) : Int) u u) R := fun R hR => by
    have := done_loop h (u.getD i z28) td ps ss ht hf hl h5 (fun p hq => (hp p hq).1) hs td.length 0 (by omega) (u.getD i z28).f3 g6 R (by rw [List.drop_zero, List.drop_zero, hv]; exact hR)
    rwa [hself] at this
  have pre : ∀ {R}, Ev (fun k => file_Done.l0 k ss td (td.length : Int) ((0 : Nat) : Int) u u) R → Ev (fun k => file_Done.f k u td ss) R := by
    intro R hR
    unfold file_Done.f
    refine h.may.bind ?_
    simp only [if_true, show ((td.length : Int) != (ss.length : Int)) = false from by rw [hl]; simp]
    exact Ev.step (fun k => by simp only [file_Done.j0, Bool.false_eq_true, if_false]; rfl) ((dircopy_ev u hu h.all).bind hR)
  cases bm with
  | true =>
    refine ⟨pre (loop _ (m1.bind (Ev.now _))), hvl, hvX, hvr, hvt, m2.1 rfl, hi, ?_⟩
    rw [← hv, withN_get u i i _ (by omega), if_pos rfl]; exact h.kind
  | false => have z := m2.2 (by rw [← hv]; exact hq); cases z
theorem light_td (td : List S60) (h : td.length ≤ 5) (h2 : ∀ t ∈ td, t.f5.length ≤ 80) : Ev (fun k => potsherdlaw20_light.f k td) true := by
  unfold potsherdlaw20_light.f
  refine Ev_fold (g := fun k (_ : Unit) i => potsherdlaw20_light.l0 k td (td.length : Int) i) td.length (fun _ => ()) true ?_ ?_
  · refine Ev.step (f := fun _ => some true) (fun k => ?_) (Ev.now _)
    simp only [potsherdlaw20_light.l0]; rw [if_neg (by omega)]
  · intro i hi r hr
    refine Ev.step (fun k => ?_) hr
    have hm : (td.getD i z60).f5.length ≤ 80 := by rw [qG, List.getElem?_eq_getElem hi]; exact h2 _ (List.getElem_mem hi)
    simp only [potsherdlaw20_light.l0]
    rw [if_pos (by omega), if_pos (by omega), if_pos (by omega), if_neg (by omega), rd60, if_neg (by omega), w64 (a := (i : Int) + 1) (by omega) (by omega)]
end Go.Proofs.Ytkigiehkckjlhaa.ReadsLib
