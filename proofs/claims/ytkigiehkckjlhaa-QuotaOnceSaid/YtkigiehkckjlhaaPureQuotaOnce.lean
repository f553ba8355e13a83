/- The law QuotaOnce, as printed, comes to true at every input within the reach. -/
import Derived.Test.YtkigiehkckjlhaaMoreLib
import Derived.Test.YtkigiehkckjlhaaPagesLib
import Derived.Test.YtkigiehkckjlhaaPQuotax19
namespace Go.Proofs.Ytkigiehkckjlhaa.PureQuotaOnce
set_option linter.unusedVariables false
open Go.RowKit Go.Proofs.Ytkigiehkckjlhaa.PQuota Go.Proofs.YtkigiehkckjlhaaW.PrintWords
open Go.Proofs.Ytkigiehkckjlhaa.QuotaLib
open Go Go.Proofs.Ytkigiehkckjlhaa.Plain Go.Proofs.YtkigiehkckjlhaaW.PrintMore
/-- Pages that are none, written. -/
def fill (q : List Int) (ps : List Nat) : List Int := ps.foldl (fun q p => if q.getD p 0 = 0 then q.set p (1 + (p : Int)) else q) q
theorem fill_len (ps : List Nat) : ∀ q, (fill q ps).length = q.length := by
  induction ps with
  | nil => intro q; rfl
  | cons p r ih => intro q; unfold fill at *; simp only [List.foldl_cons]; rw [ih]; split <;> simp
theorem fill_take (q : List Int) (ps : List Nat) (i : Nat) (hi : i < ps.length) : fill q (ps.take (i + 1)) = (if (fill q (ps.take i)).getD ps[i] 0 = 0 then (fill q (ps.take i)).set ps[i] (1 + (ps[i] : Int)) else fill q (ps.take i)) := by
  unfold fill; rw [List.take_succ_eq_append_getElem hi, List.foldl_append]; rfl
theorem getD_set (q : List Int) (p r : Nat) (v : Int) (hp : p < q.length) : (q.set p v).getD r 0 = if r = p then v else q.getD r 0 := by
  rw [List.getD_eq_getElem?_getD, List.getD_eq_getElem?_getD, List.getElem?_set]
  by_cases c : p = r
  · subst c; rw [if_pos rfl, if_pos rfl, if_pos hp]; rfl
  · rw [if_neg c, if_neg (fun x => c x.symm)]
theorem fill_get (ps : List Nat) : ∀ q : List Int, (∀ p ∈ ps, p < q.length) → ∀ r : Nat, (fill q ps).getD r 0 = if r ∈ ps ∧ q.getD r 0 = 0 then 1 + (r : Int) else q.getD r 0 := by
  induction ps with
  | nil => intro q _ r; rw [if_neg (by simp)]; rfl
  | cons p t ih =>
    intro q hp r
    have hp0 := hp p (by simp)
    have e : fill q (p :: t) = fill (if q.getD p 0 = 0 then q.set p (1 + (p : Int)) else q) t := rfl
    rw [e]
    by_cases c : q.getD p 0 = 0
    · rw [if_pos c, ih _ (fun x hx => by rw [List.length_set]; exact hp x (by simp [hx])), getD_set q p r _ hp0]
      by_cases c1 : r = p
      · subst c1
        rw [if_pos rfl, if_neg (fun x => by have := x.2; omega), if_pos ⟨by simp, c⟩]
      · rw [if_neg c1]
        by_cases c2 : r ∈ t ∧ q.getD r 0 = 0
        · rw [if_pos c2, if_pos ⟨by simp [c2.1], c2.2⟩]
        · rw [if_neg c2, if_neg (fun x => c2 ⟨by have := x.1; simp only [List.mem_cons] at this; rcases this with y | y; exact absurd y c1; exact y, x.2⟩)]
    · rw [if_neg c, ih _ (fun x hx => hp x (by simp [hx]))]
      by_cases c2 : r ∈ t ∧ q.getD r 0 = 0
      · rw [if_pos c2, if_pos ⟨by simp [c2.1], c2.2⟩]
      · rw [if_neg c2, if_neg (fun x => ?_)]
        have := x.1; simp only [List.mem_cons] at this
        rcases this with y | y
        · rw [y] at x; exact c x.2
        · exact c2 ⟨y, x.2⟩
/-- How many of the first pages there are. -/
def nz (q : List Int) : Nat → Nat
  | 0 => 0
  | n + 1 => nz q n + (if q.getD n 0 = 0 then 0 else 1)
theorem nz_refs (i : Int) (q : List Int) : ∀ n, (refsTo i q n).length = nz q n
  | 0 => by simp [refsTo, nz]
  | n + 1 => by
    have := nz_refs i q n
    by_cases c : q.getD n 0 = 0
    · rw [refs_skip i q n c, this]; simp only [nz]; rw [if_pos c]; rfl
    · rw [refs_add i q n c, List.length_append, this]; simp only [nz]; rw [if_neg c]; rfl
theorem nz_congr {q q' : List Int} : ∀ n, (∀ r, r < n → q.getD r 0 = q'.getD r 0) → nz q n = nz q' n
  | 0, _ => rfl
  | n + 1, h => by simp only [nz]; rw [nz_congr n (fun r hr => h r (by omega)), h n (by omega)]
theorem nz_set (q : List Int) (p : Nat) (v : Int) (hv : v ≠ 0) (hp : p < q.length) (h0 : q.getD p 0 = 0) : ∀ n, nz (q.set p v) n = nz q n + (if p < n then 1 else 0)
  | 0 => by simp [nz]
  | n + 1 => by
    simp only [nz]
    rw [nz_set q p v hv hp h0 n, getD_set q p n v hp]
    by_cases c : n = p
    · subst c; rw [if_pos rfl, if_neg hv, if_pos h0, if_neg (by omega), if_pos (by omega)]
    · rw [if_neg c]
      by_cases c1 : p < n
      · simp only [if_pos c1, if_pos (show p < n + 1 by omega)]; omega
      · simp only [if_neg c1, if_neg (show ¬ p < n + 1 by omega)]; omega
theorem cntZ_congr {q q' : List Int} {ps : List Nat} (h : ∀ p ∈ ps, q.getD p 0 = q'.getD p 0) : cntZ q ps = cntZ q' ps := by
  unfold cntZ; congr 1; apply List.filter_congr; intro p hp; rw [h p hp]
theorem nz_fill (ps : List Nat) : ∀ q : List Int, (∀ p ∈ ps, p < q.length) → ps.Nodup → nz (fill q ps) q.length = nz q q.length + cntZ q ps := by
  induction ps with
  | nil => intro q _ _; simp [fill, cntZ]
  | cons p t ih =>
    intro q hp hd
    have hp0 := hp p (by simp)
    rw [List.nodup_cons] at hd
    have e : fill q (p :: t) = fill (if q.getD p 0 = 0 then q.set p (1 + (p : Int)) else q) t := rfl
    rw [e]
    by_cases c : q.getD p 0 = 0
    · rw [if_pos c]
      have h := ih (q.set p (1 + (p : Int))) (fun x hx => by rw [List.length_set]; exact hp x (by simp [hx])) hd.2
      rw [List.length_set] at h
      rw [h, nz_set q p _ (by omega) hp0 c, if_pos hp0]
      have e2 : cntZ (q.set p (1 + (p : Int))) t = cntZ q t := cntZ_congr (fun x hx => by rw [getD_set q p x _ hp0]; rw [if_neg (by rintro rfl; exact hd.1 hx)])
      have e3 : cntZ q (p :: t) = cntZ q t + 1 := by unfold cntZ; rw [List.filter_cons, if_pos (by simpa using c)]; rfl
      rw [e2, e3]; omega
    · rw [if_neg c]
      have e3 : cntZ q (p :: t) = cntZ q t := by unfold cntZ; rw [List.filter_cons, if_neg (by simpa using c)]
      rw [e3]; exact ih q (fun x hx => hp x (by simp [hx])) hd.2
theorem pgs_nodup (a n : Nat) : (pgs a n).Nodup := by
  unfold pgs; split
  · simp
  · rw [← List.range'_eq_map_range]; exact List.nodup_range'
theorem pgs_mem {a n p : Nat} (h : p ∈ pgs a n) : p * 16 < a + n := by
  unfold pgs at h; split at h
  · cases h
  · simp only [List.mem_map, List.mem_range] at h
    obtain ⟨i, hi, rfl⟩ := h
    omega
theorem QuotaOnce (t li si : Int) (q : List Int) (e : List S78) (a n : Int) (ha : -9223372036854775808 ≤ a ∧ a ≤ 9223372036854775807) (hq0 : q.length ≤ 17592186043904) (he : e.length ≤ 5864062014634) (hs : ∀ x ∈ e, x.f0.size ≤ 140737488351232) : ∃ k, potsherdlaw18_QuotaOnce.f k t li si q e a n = some true := by
  obtain ⟨K, h⟩ : Ev (fun k => potsherdlaw18_QuotaOnce.f k t li si q e a n) true := by
    unfold potsherdlaw18_QuotaOnce.f
    obtain ⟨r', h3, h4⟩ := light_ev t li si q e he
    refine h3.bind ?_
    have hyes : Ev (fun k => potsherdlaw18_QuotaOnce.j0 k a n true t li si q e) true := Ev.step (fun k => by simp only [potsherdlaw18_QuotaOnce.j0, if_true]) awake_bind
    by_cases c : r' > 0
    · simp only [if_pos c]; exact hyes
    simp only [if_neg c]
    by_cases c1 : okN t li si q e
    · refine ((ref_node_tells t li si q e he hs).yes c1).bind ?_
      simp only [if_true]
      by_cases ct : t = 1
      · subst ct
        simp only [if_true, fits_same, fits_some a n ha, Option.bind_some, decide_eq_true_eq]
        by_cases c2 : fits a n
        · simp only [if_pos c2]
          by_cases c3 : n = 0
          · rw [show (n == 0) = true from beq_iff_eq.2 c3]; exact hyes
          rw [show (n == 0) = false from beq_eq_false_iff_ne.2 c3]
          have hf := okN_file c1
          obtain ⟨hQ, f1, f2, f3, f4, f5, f6⟩ := hf
          refine Ev.step (fun k => by simp only [potsherdlaw18_QuotaOnce.j0, Bool.false_eq_true, if_false]; rfl) ((more_ev 1 li si q e a n ha he hs).bind ?_)
          rw [ref_copy_is 1 li si q e hq0 he]
          simp only [Option.bind_some]
          obtain ⟨l, _, h1, h5⟩ := pieces_ev (n := n) ha
          refine h1.bind ?_
          rw [if_pos c2] at h5
          have hlen : l.length = (pgs a.toNat n.toNat).length := by have := congrArg List.length h5; simpa using this
          have hmore : moreN 1 li si q e a n = (cntZ q (pgs a.toNat n.toNat) : Int) := by unfold moreN; rw [if_pos ⟨rfl, c1, c2⟩]
          rw [hmore, w64 (a := a + n) (by omega) (by omega)]
          have hlt := pgs_lt c2
          have hle := pgs_len c2
          have hmem : ∀ p ∈ pgs a.toNat n.toNat, (p : Int) * 16 < a + n := fun p hp => by have := pgs_mem hp; omega
          have hnd := pgs_nodup a.toNat n.toNat
          generalize hps : pgs a.toNat n.toNat = ps at *
          have hsi : mx si (a + n) = if si < a + n then a + n else si := rfl
          generalize hm : mx si (a + n) = si' at *
          have hsi' : si ≤ si' ∧ a + n ≤ si' ∧ si' ≤ 80 := by rw [hsi]; split <;> omega
          clear hsi
          have hbnd : ∀ p ∈ ps, p < q.length := fun p hp => by have := hlt p hp; omega
          have key := Ev_fold (g := fun k s i => potsherdlaw18_QuotaOnce.l0 k a n (cntZ q ps : Int) l (l.length : Int) i 1 li si q e 1 li si' s e) l.length (fun i => fill q (ps.take i)) true ?_ ?_
          · simpa [fill] using key
          · have hfl : fill q (ps.take l.length) = fill q ps := by rw [hlen, List.take_length]
            rw [hfl]
            have hg := fill_get ps q hbnd
            have hl5 : (fill q ps).length = 5 := by rw [fill_len, f5]
            have hok : okN 1 li si' (fill q ps) e := by
              refine Or.inr (Or.inl ⟨rfl, fun p hp => ?_, f1, f2, by omega, by omega, hl5, f6⟩)
              rw [hl5] at hp
              have hQp := hQ p (by omega)
              unfold okQ at hQp ⊢
              rw [hg p]
              by_cases d : p ∈ ps ∧ q.getD p 0 = 0
              · rw [if_pos d]
                have := hmem p d.1
                exact ⟨by omega, by omega, fun x => by omega⟩
              · rw [if_neg d]; exact ⟨hQp.1, hQp.2.1, fun x => hQp.2.2 (by omega)⟩
            have hc := cntZ_le q ps
            refine Ev.step (fun k => by simp only [potsherdlaw18_QuotaOnce.l0]; rw [if_neg (by omega), if_pos (by omega), if_pos (by omega)]) ?_
            refine (more_ev 1 li si' (fill q ps) e a n ha he hs).bind ?_
            have hz : moreN 1 li si' (fill q ps) e a n = 0 := by
              unfold moreN; rw [if_pos ⟨rfl, hok, c2⟩, hps]
              have : (ps.filter fun p => decide ((fill q ps).getD p 0 = 0)) = [] := by
                rw [List.filter_eq_nil_iff]
                intro p hp h0
                simp only [decide_eq_true_eq] at h0
                rw [hg p] at h0
                by_cases d : p ∈ ps ∧ q.getD p 0 = 0
                · rw [if_pos d] at h0; omega
                · rw [if_neg d] at h0; exact d ⟨hp, h0⟩
              unfold cntZ; rw [this]; rfl
            rw [hz]
            simp only [if_true]
            refine (ref_pages_ev 1 li si' (fill q ps) e he hs).bind ((ref_pages_ev 1 li si q e he hs).bind ?_)
            have hp1 : ((refsOf 0 1 li si' (fill q ps) e).length : Int) = wrap64 (((refsOf 0 1 li si q e).length : Int) + (cntZ q ps : Int)) := by
              unfold refsOf
              rw [if_pos ⟨rfl, hok, by omega, by omega⟩, if_pos ⟨rfl, c1, by omega, by omega⟩, nz_refs, nz_refs, fill_len, nz_fill ps q hbnd hnd]
              have : nz q q.length ≤ 5 := by rw [← nz_refs 0]; have := refs_le 0 q q.length; omega
              rw [w64 (by omega) (by omega)]; push_cast; rfl
            rw [hp1]
            simp only [if_true]
            exact awake_bind
          · intro i hi r hr
            obtain ⟨hi2, hpg⟩ := page_at h5 i hi
            have hb := hlt ps[i] (List.getElem_mem hi2)
            have hfl := fill_len (ps.take i) q
            rw [fill_take q ps i hi2] at hr
            refine Ev.step (fun k => ?_) hr
            simp only [potsherdlaw18_QuotaOnce.l0]; rw [if_pos (by omega), if_pos (by omega), if_pos (by omega), rd41, hpg, if_pos (by omega), if_pos (by omega), rdn, w64 (a := (i : Int) + 1) (by omega) (by omega), w64 (a := 1 + (ps[i] : Int)) (by omega) (by omega), Int.toNat_natCast]
            by_cases d : (fill q (ps.take i)).getD ps[i] 0 = 0
            · rw [if_pos d, if_pos d]
            · rw [if_neg d, if_neg d]
        · simp only [if_neg c2]; exact hyes
      · simp only [if_neg ct]; exact hyes
    · refine ((ref_node_tells t li si q e he hs).no c1).bind ?_
      simp only [Bool.false_eq_true, if_false]; exact hyes
  exact ⟨K, h K (Nat.le_refl _)⟩

end Go.Proofs.Ytkigiehkckjlhaa.PureQuotaOnce
