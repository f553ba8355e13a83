/- How many pages a write needs more: the printed functions tell it at every input within the reach; no other condition. -/
import Derived.Test.YtkigiehkckjlhaaNodeLib
import Derived.Test.YtkigiehkckjlhaaPQuotax9
import Derived.Test.YtkigiehkckjlhaaPQuotax10
import Derived.Test.YtkigiehkckjlhaaPQuotax16
namespace Go.Proofs.Ytkigiehkckjlhaa.QuotaLib
set_option linter.unusedVariables false
open Go.RowKit Go.Proofs.Ytkigiehkckjlhaa.PQuota Go.Proofs.YtkigiehkckjlhaaW.PrintWords
open Go Go.Proofs.Ytkigiehkckjlhaa.Plain Go.Proofs.YtkigiehkckjlhaaW.PrintMore
theorem awake_ev : Ev (fun k => potsherdlaw18_awake.f k) true := Ev.of potsherdlaw18_awake.mono (k := 40) (by decide +kernel)
theorem awake_bind : Ev (fun k => (potsherdlaw18_awake.f k).bind fun t => some t) true := awake_ev.bind (Ev.now _)
theorem pieces_same : ∀ (k : Nat) (a b : Int) (l : List S41), potsherdref12_Pieces.l0 k a b l = span_Pieces.l0 k a b l
  | 0, _, _, _ => rfl
  | k + 1, a, b, l => by simp only [potsherdref12_Pieces.l0, span_Pieces.l0, pieces_same k]
theorem fits_same (a b : Int) : potsherdref12_FitsFile.f a b = span_Fits.f a b := by
  unfold potsherdref12_FitsFile.f span_Fits.f
  repeat' split
  all_goals first | rfl | omega
theorem fits_some (a b : Int) (ha : -9223372036854775808 ≤ a ∧ a ≤ 9223372036854775807) : span_Fits.f a b = some (decide (0 ≤ a ∧ 0 ≤ b ∧ a + b ≤ 80)) := by
  unfold span_Fits.f
  by_cases h1 : a ≥ 0
  · by_cases h2 : a ≤ 80
    · by_cases h3 : b ≥ 0
      · rw [if_pos h1, if_pos h2, if_pos h3, w64 (by omega) (by omega)]
        have : (b ≤ 80 - a) = (0 ≤ a ∧ 0 ≤ b ∧ a + b ≤ 80) := by rw [eq_iff_iff]; omega
        simp only [this]
      · rw [if_pos h1, if_pos h2, if_neg h3, decide_eq_false (by omega)]
    · rw [if_pos h1, if_neg h2, decide_eq_false (by omega)]
  · rw [if_neg h1, decide_eq_false (by omega)]
/-- The pages that bytes touch. -/
def pgs (a n : Nat) : List Nat := if n = 0 then [] else (List.range ((a % 16 + n + 15) / 16)).map (a / 16 + ·)
/-- The bytes may be a file's. -/
abbrev fits (a n : Int) : Prop := 0 ≤ a ∧ 0 ≤ n ∧ a + n ≤ 80
theorem pgs_all : ∀ a : Fin 81, ∀ n : Fin 81, a.val + n.val ≤ 80 → (span_Pieces.l0 20 (a.val : Int) (n.val : Int) []).map (fun l => l.map (·.f0)) = some ((pgs a.val n.val).map fun p : Nat => (p : Int)) := by decide +kernel
theorem span_l0_mono (k a b l) : LeO (span_Pieces.l0 k a b l) (span_Pieces.l0 (k + 1) a b l) := span_Pieces.mono_l k a b l
theorem pgs_is {a n : Int} (h : fits a n) : ∃ l, Ev (fun k => span_Pieces.l0 k a n []) l ∧ l.map (·.f0) = (pgs a.toNat n.toNat).map fun p : Nat => (p : Int) := by
  have h1 := pgs_all ⟨a.toNat, by omega⟩ ⟨n.toNat, by omega⟩ (by simp only []; omega)
  simp only [Int.toNat_of_nonneg h.1, Int.toNat_of_nonneg h.2.1] at h1
  cases hq : span_Pieces.l0 20 a n [] with
  | none => rw [hq] at h1; cases h1
  | some l =>
    rw [hq] at h1
    exact ⟨l, Ev.of (g := fun k => span_Pieces.l0 k a n []) (fun k => span_Pieces.mono_l k a n []) hq, Option.some.inj h1⟩
theorem pgs_lt {a n : Int} (h : fits a n) : ∀ p ∈ pgs a.toNat n.toNat, p < 5 := by
  intro p hp
  unfold pgs at hp
  split at hp
  · cases hp
  · simp only [List.mem_map, List.mem_range] at hp
    obtain ⟨i, hi, rfl⟩ := hp
    omega
theorem pieces_ev {a n : Int} (ha : -9223372036854775808 ≤ a ∧ a ≤ 9223372036854775807) : ∃ l, Ev (fun k => span_Pieces.f k a n) l ∧ Ev (fun k => potsherdref12_Pieces.f k a n) l ∧ l.map (·.f0) = (if fits a n then pgs a.toNat n.toNat else []).map fun p : Nat => (p : Int) := by
  unfold span_Pieces.f potsherdref12_Pieces.f
  simp only [fits_same, pieces_same, fits_some a n ha, Option.bind_some]
  by_cases h : fits a n
  · obtain ⟨l, h1, h2⟩ := pgs_is h
    refine ⟨l, ?_, ?_, ?_⟩
    · simpa [h] using h1
    · simpa [h] using h1
    · rw [if_pos h]; exact h2
  · refine ⟨[], ?_, ?_, ?_⟩
    · simp [h]; exact Ev.now _
    · simp [h]; exact Ev.now _
    · rw [if_neg h]; rfl
/-- How many of some pages are none. -/
def cntZ (q : List Int) (ps : List Nat) : Nat := (ps.filter fun p => decide (q.getD p 0 = 0)).length
theorem cntZ_le (q : List Int) (ps : List Nat) : cntZ q ps ≤ ps.length := List.length_filter_le _ _
theorem rd41 (l : List S41) (i : Nat) : rd_T41 l (i : Int) = l.getD i z41 := by unfold rd_T41; rw [Int.toNat_natCast]
theorem page_at {l : List S41} {ps : List Nat} (h : l.map (·.f0) = ps.map fun p : Nat => (p : Int)) (i : Nat) (hi : i < l.length) : ∃ hp : i < ps.length, (l.getD i z41).f0 = (ps[i] : Int) := by
  have hl : l.length = ps.length := by have := congrArg List.length h; simpa using this
  refine ⟨by omega, ?_⟩
  have := congrArg (fun z => z[i]?) h
  simp only [List.getElem?_map, List.getElem?_eq_getElem hi, List.getElem?_eq_getElem (show i < ps.length by omega), Option.map_some] at this
  rw [List.getD_eq_getElem?_getD, List.getElem?_eq_getElem hi]
  exact Option.some.inj this
theorem cntZ_step (q : List Int) (ps : List Nat) (i : Nat) (hi : i < ps.length) : cntZ q (ps.take (i + 1)) = cntZ q (ps.take i) + (if q.getD ps[i] 0 = 0 then 1 else 0) := by
  unfold cntZ
  rw [List.take_succ_eq_append_getElem hi, List.filter_append, List.length_append]
  by_cases c : q.getD ps[i] 0 = 0
  · rw [if_pos c]; simp only [List.filter_cons, List.filter_nil, decide_eq_true c, if_true, List.length_singleton]
  · rw [if_neg c]; simp only [List.filter_cons, List.filter_nil, decide_eq_false c, Bool.false_eq_true, if_false, List.length_nil]
theorem more_loop (t li si : Int) (q : List Int) (e : List S78) {l : List S41} {ps : List Nat} (h : l.map (·.f0) = ps.map fun p : Nat => (p : Int)) (hp : ∀ p ∈ ps, p < q.length) (hl : l.length ≤ 100) :
    Ev (fun k => quota_More.l0 k 0 l (l.length : Int) 0 t li si q e) (cntZ q ps : Int) := by
  have hlen : l.length = ps.length := by have := congrArg List.length h; simpa using this
  have key := Ev_fold (g := fun k s i => quota_More.l0 k s l (l.length : Int) i t li si q e) l.length (fun i => (cntZ q (ps.take i) : Int)) (cntZ q ps : Int) ?_ ?_
  · simpa [cntZ] using key
  · refine Ev.step (f := fun _ => some (cntZ q ps : Int)) (fun k => ?_) (Ev.now _)
    simp only [quota_More.l0]; rw [if_neg (by omega), hlen, List.take_length]
  · intro i hi r hr
    obtain ⟨hi2, hpg⟩ := page_at h i hi
    have hb := hp ps[i] (List.getElem_mem hi2)
    have hc := cntZ_le q (ps.take i)
    rw [List.length_take] at hc
    rw [cntZ_step q ps i hi2] at hr
    refine Ev.step (fun k => ?_) hr
    simp only [quota_More.l0]; rw [if_pos (by omega), if_pos (by omega), if_pos (by omega), rd41, hpg, if_pos (by omega), if_pos (by omega), rdn, w64 (a := (i : Int) + 1) (by omega) (by omega), w64 (a := (cntZ q (ps.take i) : Int) + 1) (by omega) (by omega)]
    by_cases c : q.getD ps[i] 0 = 0
    · rw [if_pos c, if_pos c]; push_cast; rfl
    · rw [if_neg c, if_neg c]; rfl
theorem rmore_loop (t li si : Int) (q : List Int) (e : List S78) {l : List S41} {ps : List Nat} (h : l.map (·.f0) = ps.map fun p : Nat => (p : Int)) (hp : ∀ p ∈ ps, p < q.length) (hl : l.length ≤ 100) :
    Ev (fun k => potsherdref12_More.l0 k 0 l (l.length : Int) 0 t li si q e) (cntZ q ps : Int) := by
  have hlen : l.length = ps.length := by have := congrArg List.length h; simpa using this
  have key := Ev_fold (g := fun k s i => potsherdref12_More.l0 k s l (l.length : Int) i t li si q e) l.length (fun i => (cntZ q (ps.take i) : Int)) (cntZ q ps : Int) ?_ ?_
  · simpa [cntZ] using key
  · refine Ev.step (f := fun _ => some (cntZ q ps : Int)) (fun k => ?_) (Ev.now _)
    simp only [potsherdref12_More.l0]; rw [if_neg (by omega), hlen, List.take_length]
  · intro i hi r hr
    obtain ⟨hi2, hpg⟩ := page_at h i hi
    have hb := hp ps[i] (List.getElem_mem hi2)
    have hc := cntZ_le q (ps.take i)
    rw [List.length_take] at hc
    rw [cntZ_step q ps i hi2] at hr
    refine Ev.step (fun k => ?_) hr
    simp only [potsherdref12_More.l0]; rw [if_pos (by omega), if_pos (by omega), if_pos (by omega), rd41, hpg, if_pos (by omega), if_pos (by omega), rdn, w64 (a := (i : Int) + 1) (by omega) (by omega), w64 (a := (cntZ q (ps.take i) : Int) + 1) (by omega) (by omega)]
    by_cases c : q.getD ps[i] 0 = 0
    · rw [if_pos c, if_pos c]; push_cast; rfl
    · rw [if_neg c, if_neg c]; rfl
/-- How many pages a write needs more. -/
noncomputable def moreN (t li si : Int) (q : List Int) (e : List S78) (a n : Int) : Int := open Classical in if t = 1 ∧ okN t li si q e ∧ fits a n then (cntZ q (pgs a.toNat n.toNat) : Int) else 0
theorem pgs_len {a n : Int} (h : fits a n) : (pgs a.toNat n.toNat).length ≤ 5 := by
  unfold pgs; split
  · simp
  · simp only [List.length_map, List.length_range]; omega
theorem more_ev (t li si : Int) (q : List Int) (e : List S78) (a n : Int) (ha : -9223372036854775808 ≤ a ∧ a ≤ 9223372036854775807) (hl : e.length ≤ 5864062014634) (hs : ∀ x ∈ e, x.f0.size ≤ 140737488351232) :
    Ev (fun k => quota_More.f k t li si q e a n) (moreN t li si q e a n) := by
  unfold quota_More.f moreN
  have hbad : Ev (fun k => quota_More.j0 k a n true t li si q e) (0 : Int) := Ev.step (f := fun _ => some 0) (fun k => by simp only [quota_More.j0, if_true]) (Ev.now _)
  by_cases c0 : t = 1
  · simp only [if_pos c0]
    by_cases c1 : okN t li si q e
    · refine ((node_tells t li si q e hl hs).yes c1).bind ?_
      simp only [Bool.not_true]
      obtain ⟨l, h1, _, h3⟩ := pieces_ev (n := n) ha
      refine Ev.step (fun k => by simp only [quota_More.j0, Bool.false_eq_true, if_false]; rfl) (h1.bind ?_)
      by_cases c2 : fits a n
      · rw [if_pos ⟨c0, c1, c2⟩]
        rw [if_pos c2] at h3
        have hq : q.length = 5 := by subst c0; exact (okN_file c1).2.2.2.2.2.1
        refine more_loop t li si q e h3 (fun p hp => by have := pgs_lt c2 p hp; omega) ?_
        have := congrArg List.length h3; simp at this; have := pgs_len c2; omega
      · rw [if_neg (fun x => c2 x.2.2)]
        rw [if_neg c2] at h3
        have := more_loop t li si q e (ps := []) h3 (by simp) (by have := congrArg List.length h3; simp at this; simp [this])
        simpa [cntZ] using this
    · refine ((node_tells t li si q e hl hs).no c1).bind ?_
      simp only [Bool.not_false]
      rw [if_neg (fun x => c1 x.2.1)]; exact hbad
  · simp only [if_neg c0]
    rw [if_neg (fun x => c0 x.1)]; exact hbad
theorem rmore_ev (t li si : Int) (q : List Int) (e : List S78) (a n : Int) (ha : -9223372036854775808 ≤ a ∧ a ≤ 9223372036854775807) (hl : e.length ≤ 5864062014634) (hs : ∀ x ∈ e, x.f0.size ≤ 140737488351232) :
    Ev (fun k => potsherdref12_More.f k t li si q e a n) (moreN t li si q e a n) := by
  unfold potsherdref12_More.f moreN
  have hbad : Ev (fun k => potsherdref12_More.j0 k a n 0 true t li si q e) (0 : Int) := Ev.step (f := fun _ => some 0) (fun k => by simp only [potsherdref12_More.j0, if_true]) (Ev.now _)
  by_cases c0 : t = 1
  · simp only [if_pos c0]
    by_cases c1 : okN t li si q e
    · refine ((ref_node_tells t li si q e hl hs).yes c1).bind ?_
      simp only [Bool.not_true]
      obtain ⟨l, _, h1, h3⟩ := pieces_ev (n := n) ha
      refine Ev.step (fun k => by simp only [potsherdref12_More.j0, Bool.false_eq_true, if_false]; rfl) (h1.bind ?_)
      by_cases c2 : fits a n
      · rw [if_pos ⟨c0, c1, c2⟩]
        rw [if_pos c2] at h3
        have hq : q.length = 5 := by subst c0; exact (okN_file c1).2.2.2.2.2.1
        refine rmore_loop t li si q e h3 (fun p hp => by have := pgs_lt c2 p hp; omega) ?_
        have := congrArg List.length h3; simp at this; have := pgs_len c2; omega
      · rw [if_neg (fun x => c2 x.2.2)]
        rw [if_neg c2] at h3
        have := rmore_loop t li si q e (ps := []) h3 (by simp) (by have := congrArg List.length h3; simp at this; simp [this])
        simpa [cntZ] using this
    · refine ((ref_node_tells t li si q e hl hs).no c1).bind ?_
      simp only [Bool.not_false]
      rw [if_neg (fun x => c1 x.2.1)]; exact hbad
  · simp only [if_neg c0]
    rw [if_neg (fun x => c0 x.1)]; exact hbad
end Go.Proofs.Ytkigiehkckjlhaa.QuotaLib
