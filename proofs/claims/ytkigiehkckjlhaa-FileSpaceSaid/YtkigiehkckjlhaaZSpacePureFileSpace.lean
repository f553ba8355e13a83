/- The law FileSpace, as printed, comes to true at every input within the reach. -/
import Derived.Test.YtkigiehkckjlhaaZSpaceSpaceLibB
namespace Go.Proofs.Ytkigiehkckjlhaa.PureFileSpace
set_option linter.unusedVariables false
open Go.RowKit Go.Proofs.Ytkigiehkckjlhaa.PSpace Go.Proofs.YtkigiehkckjlhaaW.PrintWords
open Go.Proofs.Ytkigiehkckjlhaa.SpaceLib
open Go Go.Proofs.Ytkigiehkckjlhaa.Plain Go.Proofs.YtkigiehkckjlhaaW.PrintMore
theorem awake_ev : Ev (fun k => potsherdlaw20_awake.f k) true := Ev.of potsherdlaw20_awake.mono (k := 200) (by decide +kernel)
theorem awake_bind : Ev (fun k => (potsherdlaw20_awake.f k).bind fun t => some t) true := awake_ev.bind (Ev.now _)
theorem light_td (td : List S60) (h : td.length ≤ 5) (h2 : ∀ t ∈ td, t.f5.length ≤ 80) : Ev (fun k => potsherdlaw20_light.f k td) true := by
  unfold potsherdlaw20_light.f
  refine Ev_fold (g := fun k (_ : Unit) i => potsherdlaw20_light.l0 k td (td.length : Int) i) td.length (fun _ => ()) true ?_ ?_
  · refine Ev.step (f := fun _ => some true) (fun k => ?_) (Ev.now _)
    simp only [potsherdlaw20_light.l0]; rw [if_neg (by omega)]
  · intro i hi r hr
    refine Ev.step (fun k => ?_) hr
    have hm : (td.getD i z60).f5.length ≤ 80 := by rw [List.getD_eq_getElem?_getD, List.getElem?_eq_getElem hi]; exact h2 _ (List.getElem_mem hi)
    simp only [potsherdlaw20_light.l0]
    rw [if_pos (by omega), if_pos (by omega), if_pos (by omega), if_neg (by omega), rd60, if_neg (by omega), w64 (a := (i : Int) + 1) (by omega) (by omega)]
theorem tree_file {l : List S28} (h : treeP l) (hr : ∀ x ∈ l, reach x) {i : Nat} (hi : i < 12) (hk : (l.getD i z28).f0 = 1) : fileAt l i := ⟨h.1, h.2.2.1.1, hr, tree_tied h, h.2.2.1.2.2, hi, hk⟩
/-- The new writings. -/
def newS (n : Nat) : List Int := (List.range n).map fun j : Nat => 1099511627776 - (j : Int)
theorem newS_len (n : Nat) : (newS n).length = n := by unfold newS; rw [List.length_map, List.length_range]
theorem newS_mem {n : Nat} (h : n ≤ 5) : ∀ s ∈ newS n, 1 ≤ s ∧ s ≤ 1099511627776 := by
  intro s hs
  unfold newS at hs
  rw [List.mem_map] at hs
  obtain ⟨j, hj, rfl⟩ := hs
  rw [List.mem_range] at hj
  omega
theorem FileSpace (t : List S28) (i a : Int) (b : List Int) (hl : t.length ≤ 4611686018427387904) (hr : ∀ x ∈ t, reach x) : ∃ k, potsherdlaw20_FileSpace.f k t i a b = some true := by
  obtain ⟨K, h⟩ : Ev (fun k => potsherdlaw20_FileSpace.f k t i a b) true := by
    unfold potsherdlaw20_FileSpace.f
    obtain ⟨r', h3, h4⟩ := light15_ev t hl hr
    refine h3.bind ?_
    have hyes : Ev (fun k => potsherdlaw20_FileSpace.j0 k i a b true t) true := Ev.step (fun k => by simp only [potsherdlaw20_FileSpace.j0, if_true]) awake_bind
    by_cases c : r' > 0
    · simp only [if_pos c]; exact hyes
    simp only [if_neg c]
    by_cases ct : treeP t
    rotate_left
    · refine ((maytree_tells t hr).no ct).bind ?_
      simp only [Bool.false_eq_true, if_false]; exact hyes
    refine ((maytree_tells t hr).yes ct).bind ?_
    simp only [if_true]
    by_cases c1 : (b.length : Int) < 1
    · simp only [if_pos c1]; exact hyes
    simp only [if_neg c1]
    by_cases c2 : (b.length : Int) > 80
    · simp only [decide_eq_true c2]; exact hyes
    simp only [decide_eq_false c2]
    obtain ⟨p, p0, p1, hp⟩ := umod a 80 (by decide) (by decide)
    have ht := ct.1
    refine Ev.step (fun k => by simp only [potsherdlaw20_FileSpace.j0, Bool.false_eq_true, if_false, hp]; rfl) ((rused_ev t hl hr).bind ?_)
    have hyes1 : Ev (fun k => potsherdlaw20_FileSpace.j1 k i p b (used t) true t) true := Ev.step (fun k => by simp only [potsherdlaw20_FileSpace.j1, if_true]) awake_bind
    by_cases c3 : i < 0
    · simp only [if_pos c3]; exact hyes1
    simp only [if_neg c3]
    by_cases c4 : i ≥ (t.length : Int)
    · simp only [if_pos c4]; exact hyes1
    simp only [if_neg c4, if_pos (show 0 ≤ i from by omega), if_pos (show i < (t.length : Int) from by omega)]
    obtain ⟨n, rfl⟩ : ∃ n : Nat, i = n := ⟨i.toNat, by omega⟩
    simp only [rd28]
    by_cases c5 : (t.getD n z28).f0 = 1
    rotate_left
    · simp only [if_neg c5]; exact hyes1
    simp only [if_pos c5, fits_same, fits_some p (b.length : Int) (by omega), Option.bind_some]
    by_cases c6 : fits p (b.length : Int)
    rotate_left
    · simp only [decide_eq_false c6, Bool.not_false]; exact hyes1
    simp only [decide_eq_true c6, Bool.not_true]
    have hF := tree_file ct hr (i := n) (by omega) c5
    have hxm := getD_mem t (i := n) (by omega)
    have hX := hF.all
    have hx := hX _ hxm
    have hxr := hr _ hxm
    have hx0 : okN (t.getD n z28).f0 (t.getD n z28).f1 (t.getD n z28).f2 (t.getD n z28).f3 (t.getD n z28).f4 := hx
    rw [c5] at hx0
    have hok := okN_file hx0
    have hb0 : b.length ≠ 0 := by omega
    have w0 := write_ev hF hb0 c6
    have hu := used_le t
    have hm : moreN (t.getD n z28).f0 (t.getD n z28).f1 (t.getD n z28).f2 (t.getD n z28).f3 (t.getD n z28).f4 p (b.length : Int) = (cntZ (t.getD n z28).f3 (pgs p.toNat b.length) : Int) := by
      unfold moreN; rw [if_pos ⟨c5, hx, c6⟩, Int.toNat_natCast]
    have hmle := cntZ_le (t.getD n z28).f3 (pgs p.toNat b.length)
    have hplen := pgs_len c6
    rw [Int.toNat_natCast] at hplen
    have hmev := rmore_ev (t.getD n z28).f0 (t.getD n z28).f1 (t.getD n z28).f2 (t.getD n z28).f3 (t.getD n z28).f4 p (b.length : Int) (by omega) hxr.1 hxr.2
    rw [hm] at w0 hmev
    have hlt := pgs_lt c6
    rw [Int.toNat_natCast] at hlt
    have hmem : ∀ q ∈ pgs p.toNat b.length, (q : Int) * 16 < p + (b.length : Int) := fun q hq => by have := pgs_mem hq; omega
    have hnd := pgs_nodup p.toNat b.length
    generalize hps : pgs p.toNat b.length = ps at *
    generalize hcz : cntZ (t.getD n z28).f3 ps = m at *
    refine Ev.step (fun k => by simp only [potsherdlaw20_FileSpace.j1, Bool.false_eq_true, if_false]; rw [if_pos (by omega), if_pos (by omega), rd28]) (hmev.bind ?_)
    simp only [w64 (a := used t + (m : Int)) (by omega) (by omega), w64 (a := used t + (m : Int) - 1) (by omega) (by omega)]
    refine ((w0 (used t + (m : Int) - 1) (by omega)).1 (by omega)).bind ?_
    obtain ⟨td, L, w1, w2, w3⟩ := (w0 (used t + (m : Int)) (by omega)).2 (by omega)
    refine w1.bind ?_
    simp only [if_true]
    have htl : td.length = ps.length := by have h1 := congrArg List.length w2.1; have h2 := congrArg List.length w3; simp at h1 h2; omega
    refine (light_td td (by omega) (fun t ht => (w2.2 t ht).2)).bind ?_
    simp only [Bool.not_true]
    refine Ev.step (fun k => by simp only [potsherdlaw20_FileSpace.j2, Bool.false_eq_true, if_false]; rfl) ?_
    generalize hsz : mx (t.getD n z28).f2 (p + (b.length : Int)) = s at *
    have hs2 : (t.getD n z28).f2 ≤ s ∧ p + (b.length : Int) ≤ s ∧ s ≤ 80 := by
      have h1 := hok.2.2.2.1; have h2 := hok.2.2.2.2.1
      rw [← hsz, mx_eq]; split <;> omega
    have hg : okX (grown (t.getD n z28) s) := by
      obtain ⟨g1, g2, g3, g4, g5, g6, g7⟩ := hok
      refine Or.inr (Or.inl ⟨c5, fun q hq => ?_, g2, g3, by show (0 : Int) ≤ s; omega, by show s ≤ (80 : Int); omega, g6, g7⟩)
      have := g1 q hq
      unfold okQ at this ⊢
      exact ⟨this.1, this.2.1, fun z => this.2.2 (by have z' : s ≤ (q : Int) * 16 := z; omega)⟩
    have hU : fileAt (withN t n (grown (t.getD n z28) s)) n := by
      refine ⟨by rw [List.length_set]; exact ht, withN_all hX hg, withN_all hr hxr, withN_tied (by omega) rfl rfl rfl hF.tie, ?_, by omega, by rw [withN_get _ _ _ _ (by omega), if_pos rfl]; exact c5⟩
      have e : (withN t n (grown (t.getD n z28) s)).flatMap (·.f3) = t.flatMap (·.f3) := by
        rw [List.flatMap_def, List.flatMap_def]
        congr 1
        apply List.ext_getElem?
        intro j
        rw [List.getElem?_map, List.getElem?_map, List.getElem?_set]
        by_cases d : n = j
        · subst d
          rw [if_pos rfl, if_pos (by omega), List.getD_eq_getElem?_getD, List.getElem?_eq_getElem (show n < t.length from by omega)]; rfl
        · rw [if_neg d]
      rw [e]; exact hF.seqs
    have hUn : (withN t n (grown (t.getD n z28) s)).getD n z28 = grown (t.getD n z28) s := by rw [withN_get _ _ _ _ (by omega), if_pos rfl]
    obtain ⟨r, d1, d2⟩ := done_ev hU td ps (newS td.length) (w2.1.trans w3) (fun t ht => (w2.2 t ht).1) (newS_len _) (by omega) (fun q hq => by rw [hUn]; have h1 := hlt q hq; have h2 := hmem q hq; exact ⟨h1, by simp only; omega⟩) (newS_mem (by omega))
    rw [hUn] at d2
    have hsw : withN (withN t n (grown (t.getD n z28) s)) n (paged (grown (t.getD n z28) s) (putS (grown (t.getD n z28) s).f3 ps (newS td.length))) = withN t n ⟨(t.getD n z28).f0, (t.getD n z28).f1, s, putS (t.getD n z28).f3 ps (newS td.length), (t.getD n z28).f4⟩ := List.set_set _
    rw [hsw] at d2
    refine Ev_fold (g := fun k st j => potsherdlaw20_FileSpace.l0 k n p b (used t + (m : Int)) td st (td.length : Int) j (withN t n (grown (t.getD n z28) s))) td.length newS true ?_ ?_
    · refine Ev.step (fun k => by simp only [potsherdlaw20_FileSpace.l0]; rw [if_neg (by omega)]) (d1.bind ?_)
      rcases d2 with ⟨rfl, hV⟩ | rfl
      · simp only [if_true]
        have hq5 := hok.2.2.2.2.2.1
        have hbnd : ∀ q ∈ ps, q < (t.getD n z28).f3.length := fun q hq => by have := hlt q hq; omega
        have hne : ∀ x ∈ newS td.length, x ≠ 0 := fun x hx => by have := newS_mem (n := td.length) (by omega) x hx; omega
        have hcp := cnt_put ps (t.getD n z28).f3 (newS td.length) hbnd (by rw [newS_len]; exact htl) hne
        have hnp := nz_put ps (t.getD n z28).f3 (newS td.length) hbnd hnd (by rw [newS_len]; exact htl) hne
        rw [hq5, hcz] at hnp
        generalize hY : (⟨(t.getD n z28).f0, (t.getD n z28).f1, s, putS (t.getD n z28).f3 ps (newS td.length), (t.getD n z28).f4⟩ : S28) = y at *
        have hy3 : y.f3 = putS (t.getD n z28).f3 ps (newS td.length) := by rw [← hY]
        have hy0 : y.f0 = 1 := by rw [← hY]; exact c5
        have hVn : (withN t n y).getD n z28 = y := by rw [withN_get _ _ _ _ (by omega), if_pos rfl]
        have hyX : okX y := by
          have := hV.all _ (getD_mem (withN t n y) (i := n) (by have := hV.len; omega))
          rwa [hVn] at this
        have hused : used (withN t n y) = used t + (m : Int) := by
          rw [used_set ht (by omega) y hX hyX, pages_file hyX hy0, pages_file hx c5, hy3, hnp]; omega
        have wv := (write_ev hV hb0 c6 (used t + (m : Int)) (by omega)).2
        rw [hVn, hused] at wv
        have hm2 : moreN y.f0 y.f1 y.f2 y.f3 y.f4 p (b.length : Int) = 0 := by
          unfold moreN; rw [if_pos ⟨hy0, hyX, c6⟩, Int.toNat_natCast, hps, hy3, hcp]; rfl
        rw [hm2] at wv
        obtain ⟨td2, L2, v1, _, _⟩ := wv (by omega)
        refine v1.bind ((rused_ev (withN t n y) (by have := hV.len; omega) hV.small).bind ?_)
        rw [hused]
        simp only [if_true]
        exact awake_bind
      · simp only [show ((18 : Int) = 0) = False from by simp, if_false, if_true]
        exact awake_bind
    · intro j hj R hR
      refine Ev.step (fun k => ?_) hR
      simp only [potsherdlaw20_FileSpace.l0]
      rw [if_pos (by omega), if_pos (by rw [newS_len]; omega), w64 (a := 1099511627776 - (j : Int)) (by omega) (by omega), w64 (a := (j : Int) + 1) (by omega) (by omega)]
      congr 1
      unfold newS
      rw [List.range_succ, List.map_append]; rfl
  exact ⟨K, h K (Nat.le_refl _)⟩
end Go.Proofs.Ytkigiehkckjlhaa.PureFileSpace
