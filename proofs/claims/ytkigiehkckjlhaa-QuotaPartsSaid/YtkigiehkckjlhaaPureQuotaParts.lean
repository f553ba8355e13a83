/- The law QuotaParts, as printed, comes to true at every input within the reach. -/
import Derived.Test.YtkigiehkckjlhaaMoreLib
import Derived.Test.YtkigiehkckjlhaaPQuotax20
namespace Go.Proofs.Ytkigiehkckjlhaa.PureQuotaParts
set_option linter.unusedVariables false
open Go.RowKit Go.Proofs.Ytkigiehkckjlhaa.PQuota Go.Proofs.YtkigiehkckjlhaaW.PrintWords
open Go.Proofs.Ytkigiehkckjlhaa.QuotaLib
open Go Go.Proofs.Ytkigiehkckjlhaa.Plain Go.Proofs.YtkigiehkckjlhaaW.PrintMore
theorem pgs_range {a n : Nat} (hn : 0 < n) : pgs a n = List.range' (a / 16) ((a % 16 + n + 15) / 16) := by
  unfold pgs; rw [if_neg (by omega), List.range'_eq_map_range]
theorem cntZ_append (q : List Int) (a b : List Nat) : cntZ q (a ++ b) = cntZ q a + cntZ q b := by unfold cntZ; rw [List.filter_append, List.length_append]
theorem parts_even (q : List Int) (at' a b : Nat) (h : a = 0 ∨ b = 0 ∨ (at' + a) % 16 = 0) : cntZ q (pgs at' a) + cntZ q (pgs (at' + a) b) = cntZ q (pgs at' (a + b)) := by
  rw [← cntZ_append]
  congr 1
  by_cases ha : a = 0
  · subst ha; simp [pgs]
  by_cases hb : b = 0
  · subst hb; simp [pgs]
  have h0 : (at' + a) % 16 = 0 := by omega
  rw [pgs_range (by omega), pgs_range (by omega), pgs_range (by omega)]
  rw [show (at' + a) / 16 = at' / 16 + (at' % 16 + a + 15) / 16 by omega, List.range'_append_1]
  congr 1; omega
theorem parts_odd (q : List Int) (at' a b : Nat) (ha : 0 < a) (hb : 0 < b) (h : (at' + a) % 16 ≠ 0) : cntZ q (pgs at' a) + cntZ q (pgs (at' + a) b) = cntZ q (pgs at' (a + b)) + (if q.getD ((at' + a) / 16) 0 = 0 then 1 else 0) := by
  have e1 : pgs (at' + a) b = [(at' + a) / 16] ++ List.range' ((at' + a) / 16 + 1) (((at' + a) % 16 + b + 15) / 16 - 1) := by
    rw [pgs_range hb]
    obtain ⟨m, hm⟩ : ∃ m, ((at' + a) % 16 + b + 15) / 16 = m + 1 := ⟨((at' + a) % 16 + b + 15) / 16 - 1, by omega⟩
    rw [hm, List.range'_succ]; rfl
  have e2 : pgs at' (a + b) = pgs at' a ++ List.range' ((at' + a) / 16 + 1) (((at' + a) % 16 + b + 15) / 16 - 1) := by
    rw [pgs_range (by omega), pgs_range ha, show (at' + a) / 16 + 1 = at' / 16 + (at' % 16 + a + 15) / 16 by omega, List.range'_append_1]
    congr 1; omega
  rw [e1, e2, cntZ_append, cntZ_append]
  have e3 : cntZ q [(at' + a) / 16] = if q.getD ((at' + a) / 16) 0 = 0 then 1 else 0 := by
    unfold cntZ
    by_cases c : q.getD ((at' + a) / 16) 0 = 0
    · rw [if_pos c]; simp only [List.filter_cons, List.filter_nil, decide_eq_true c, if_true, List.length_singleton]
    · rw [if_neg c]; simp only [List.filter_cons, List.filter_nil, decide_eq_false c, Bool.false_eq_true, if_false, List.length_nil]
  rw [e3]; omega
theorem more_le (t li si : Int) (q : List Int) (e : List S78) (a n : Int) : 0 ≤ moreN t li si q e a n ∧ moreN t li si q e a n ≤ 6 := by
  unfold moreN; split
  · rename_i h; have := cntZ_le q (pgs a.toNat n.toNat); have := pgs_len h.2.2; omega
  · omega
theorem QuotaParts (t li si : Int) (q : List Int) (e : List S78) (x y z : Int) (he : e.length ≤ 5864062014634) (hs : ∀ x ∈ e, x.f0.size ≤ 140737488351232) : ∃ k, potsherdlaw18_QuotaParts.f k t li si q e x y z = some true := by
  obtain ⟨K, h⟩ : Ev (fun k => potsherdlaw18_QuotaParts.f k t li si q e x y z) true := by
    unfold potsherdlaw18_QuotaParts.f
    obtain ⟨r', h3, h4⟩ := light_ev t li si q e he
    refine h3.bind ?_
    have hyes : Ev (fun k => potsherdlaw18_QuotaParts.j0 k x y z true t li si q e) true := Ev.step (fun k => by simp only [potsherdlaw18_QuotaParts.j0, if_true]) awake_bind
    by_cases c : r' > 0
    · simp only [if_pos c]; exact hyes
    simp only [if_neg c]
    by_cases c1 : okN t li si q e
    · refine ((ref_node_tells t li si q e he hs).yes c1).bind ?_
      simp only [Bool.not_true]
      obtain ⟨p, p1, p2, p3⟩ := umod x 50 (by decide) (by decide)
      obtain ⟨a, a1, a2, a3⟩ := umod y 30 (by decide) (by decide)
      obtain ⟨b, b1, b2, b3⟩ := umod z 30 (by decide) (by decide)
      refine Ev.step (fun k => by simp only [potsherdlaw18_QuotaParts.j0, Bool.false_eq_true, if_false, p3, a3, b3, w64 (a := a + b) (by omega) (by omega), w64 (a := p + a) (by omega) (by omega), fits_same, fits_some p (a + b) (by omega), Option.bind_some, decide_eq_true_eq]; rfl) ?_
      by_cases c2 : fits p (a + b)
      · simp only [if_pos c2]
        refine (more_ev t li si q e p a (by omega) he hs).bind ((more_ev t li si q e (p + a) b (by omega) he hs).bind ((more_ev t li si q e p (a + b) (by omega) he hs).bind ?_))
        have l1 := more_le t li si q e p a
        have l2 := more_le t li si q e (p + a) b
        have l3 := more_le t li si q e p (a + b)
        have f1 : fits p a := ⟨by omega, by omega, by omega⟩
        have f2 : fits (p + a) b := ⟨by omega, by omega, by omega⟩
        have t1 : Int.tmod (p + a) 16 = (p + a) % 16 := tmod16 (by omega)
        have t2 : wrap64 (Int.tdiv (p + a) 16) = (p + a) / 16 := by rw [tdiv16 (by omega), w64 (by omega) (by omega)]
        simp only [t1, t2, w64 (a := moreN t li si q e p a + moreN t li si q e (p + a) b) (by omega) (by omega), w64 (a := moreN t li si q e p (a + b) + 0) (by omega) (by omega), w64 (a := moreN t li si q e p (a + b) + 1) (by omega) (by omega)]
        by_cases ct : t = 1
        · have m1 : moreN t li si q e p a = (cntZ q (pgs p.toNat a.toNat) : Int) := by unfold moreN; rw [if_pos ⟨ct, c1, f1⟩]
          have m2 : moreN t li si q e (p + a) b = (cntZ q (pgs (p.toNat + a.toNat) b.toNat) : Int) := by unfold moreN; rw [if_pos ⟨ct, c1, f2⟩, show (p + a).toNat = p.toNat + a.toNat by omega]
          have m3 : moreN t li si q e p (a + b) = (cntZ q (pgs p.toNat (a.toNat + b.toNat)) : Int) := by unfold moreN; rw [if_pos ⟨ct, c1, c2⟩, show (a + b).toNat = a.toNat + b.toNat by omega]
          have hq : q.length = 5 := by subst ct; exact (okN_file c1).2.2.2.2.2.1
          have hev : a = 0 ∨ b = 0 ∨ (p + a) % 16 = 0 → moreN t li si q e p a + moreN t li si q e (p + a) b = moreN t li si q e p (a + b) + 0 := by
            intro h
            have := parts_even q p.toNat a.toNat b.toNat (by omega)
            rw [m1, m2, m3]; omega
          by_cases d1 : a > 0
          · simp only [if_pos d1]
            by_cases d2 : b > 0
            · simp only [if_pos d2]
              by_cases d3 : (p + a) % 16 = 0
              · simp only [if_pos d3, if_pos (hev (by omega))]; exact awake_bind
              · simp only [if_neg d3, if_pos ct, if_pos (show 0 ≤ (p + a) / 16 by omega), if_pos (show (p + a) / 16 < (q.length : Int) by omega)]
                have ho := parts_odd q p.toNat a.toNat b.toNat (by omega) (by omega) (by omega)
                have e1 : rd q ((p + a) / 16) = q.getD ((p.toNat + a.toNat) / 16) 0 := by unfold rd; rw [show ((p + a) / 16).toNat = (p.toNat + a.toNat) / 16 by omega]
                rw [e1]
                by_cases d4 : q.getD ((p.toNat + a.toNat) / 16) 0 = 0
                · rw [if_pos d4] at ho
                  simp only [if_pos d4]
                  simp only [if_pos (show moreN t li si q e p a + moreN t li si q e (p + a) b = moreN t li si q e p (a + b) + 1 by rw [m1, m2, m3]; omega)]
                  exact awake_bind
                · rw [if_neg d4] at ho
                  simp only [if_neg d4]
                  simp only [if_pos (show moreN t li si q e p a + moreN t li si q e (p + a) b = moreN t li si q e p (a + b) + 0 by rw [m1, m2, m3]; omega)]
                  exact awake_bind
            · simp only [if_neg d2, if_pos (hev (by omega))]; exact awake_bind
          · simp only [if_neg d1, if_pos (hev (by omega))]; exact awake_bind
        · have z1 : ∀ a n, moreN t li si q e a n = 0 := fun a n => by unfold moreN; rw [if_neg (fun x => ct x.1)]
          simp only [z1, if_neg ct]
          by_cases d1 : a > 0
          · simp only [if_pos d1]
            by_cases d2 : b > 0
            · simp only [if_pos d2]
              by_cases d3 : (p + a) % 16 = 0
              · simp only [if_pos d3]; exact awake_bind
              · simp only [if_neg d3]; exact awake_bind
            · simp only [if_neg d2]; exact awake_bind
          · simp only [if_neg d1]; exact awake_bind
      · simp only [if_neg c2]
        refine (more_ev t li si q e p (a + b) (by omega) he hs).bind ?_
        have z : moreN t li si q e p (a + b) = 0 := by unfold moreN; rw [if_neg (fun x => c2 x.2.2)]
        simp only [z, if_true]; exact awake_bind
    · refine ((ref_node_tells t li si q e he hs).no c1).bind ?_
      simp only [Bool.not_false]; exact hyes
  exact ⟨K, h K (Nat.le_refl _)⟩

end Go.Proofs.Ytkigiehkckjlhaa.PureQuotaParts
