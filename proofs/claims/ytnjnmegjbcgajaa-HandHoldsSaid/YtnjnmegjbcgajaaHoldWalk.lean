/- HandHolds answers true, whatever row it is given; condition: the row lies in the world at hand. -/
import Derived.Test.YtnjnmegjbcgajaaHoldMap
import Derived.Test.YtnjnmegjbcgajaaPureHandBack
namespace Go.Proofs.Ytnjnmegjbcgajaa.HandHolds
set_option linter.unusedVariables false
open Go.RowKit Go.Proofs.Ytnjnmegjbcgajaa.PHand Go.Proofs.YtnjnmegjbcgajaaW.PrintWords Go.Proofs.YtnjnmegjbcgajaaW.PrintLast Go.Proofs.Ytnjnmegjbcgajaa.HandLib Go.Proofs.Ytnjnmegjbcgajaa.PureHandBack
open Go Go.Proofs.Ytnjnmegjbcgajaa.Plain Go.Proofs.YtnjnmegjbcgajaaW.PrintMore
theorem awk_true : potsherdlaw21_awake.f 30 = some true := by decide +kernel
set_option maxHeartbeats 8000000 in
set_option maxRecDepth 100000 in
theorem holds_walk (A : Option Addr) (c : Nat) (l : List Int) (w : World) (hr : Kd.C (Kd.int .i64) w A l.length l) (hc : l.length ≤ c) :
    Calls Try.prog 8 #[.slice A l.length c] w fun e w' => e = .returned (.bool true) ∧ Below w.heap.size w w' := by
  have HR0 := Aside0.mk hr; clear hr hc
  have HB := Aside0.mk (Below.refl w.heap.size w)
  by_cases c1 : (l.length : Int) > 60
  · have c1b : decide (60 < (l.length : Int)) = true := decide_eq_true c1
    clear c1
    go_enter Try.func8, Try.ntmps8
    go_wp2_with (go_at_call 21; refine (potsherdlaw21_awake.calls 30 true _ awk_true).mono ?_; rintro e w' ⟨rfl, hb⟩; have n0_ := Aside0.mk (below_step HB.out hb); clear HB; have HB := n0_; clear n0_ hb)
    go_ret
    exact ⟨rfl, HB.out⟩
  · have c1b : decide (60 < (l.length : Int)) = false := decide_eq_false c1
    have HL := Aside0.mk (show l.length ≤ 60 by omega)
    clear c1
    have hmk : ∀ W : World, (Instr.makeMap 52 none).run Try.prog W = .ok (.map (some W.heap.size)) (W.alloc (.map #[] 0)) := fun W => run_makeMap 52 W
    go_enter Try.func8, Try.ntmps8
    go_upto_region 5 with (go_at_call 31; refine (hand_New.calls [-1, -1, -1, -1] _ rfl).mono ?_; rintro e w1 ⟨v0, rfl, ho, hb⟩; have HO := Aside0.mk ho; have n0_ := Aside0.mk (below_step HB.out hb); clear HB; have HB := n0_; clear n0_ hb ho)
    clear hmk
    have n0_ := Aside0.mk (MapOf_made w1)
    have n1_ := Aside0.mk (Kd.R_alloc HO.out (.map #[] 0))
    have n2_ := Aside0.mk (below_alloc HB.out (.map #[] 0))
    have HGb := Aside0.mk HB.out.size
    clear HO HB
    generalize w1.heap.size = b at HGb n0_ ⊢
    generalize w1.alloc (.map #[] 0) = w2 at n0_ n1_ n2_ ⊢
    have HM := n0_; have HO := n1_; have HB := n2_; clear n0_ n1_ n2_
    go_wp2
    go_loopg [3, 36] l.length (fun gk v3 v36 w' => ∃ (kk : Nat) (h : List Int), v36 = .int .i64 kk ∧ kk ≤ l.length ∧ l.length - kk ≤ gk ∧ okH h ∧ Aside0 ((Kd.int .i64).R 3 w' w.heap.size (fun _ => True) v3 h) ∧ Aside0 (MapOf w' b kk h) ∧ Aside0 (Below w.heap.size w w'))
    case atStart => exact ⟨0, _, rfl, Nat.zero_le _, by omega, by decide, HO, HM, HB⟩
    case round =>
      clear HO HM HB
      obtain ⟨kk, h, rfl, hkk, hgk, hok, HO, HM, HB⟩ := hrel
      have HK := Aside0.mk hok; clear hok
      by_cases hlt : kk < l.length
      · have c3b0 : decide ((kk : Int) < (l.length : Int)) = true := decide_eq_true (by omega)
        have p124 : 0 ≤ (kk : Int) := by omega
        have q124 : (kk : Int) < (l.length : Int) := by omega
        obtain ⟨ad124, e124, hx124_0⟩ := Kd.at_int HR0.out kk p124 q124
        cases e124
        replace hx124_0 := (HB.out.cell (World.block_lt_of_cell? w _ hx124_0)).trans hx124_0
        simp only [Int.toNat_natCast] at hx124_0; replace p124 := eq_true p124; replace q124 := eq_true q124
        generalize rd l kk = x at hx124_0
        have HLT := Aside0.mk hlt; clear hlt
        obtain ⟨Ao, co, eo⟩ := Kd.R_slice HO.out; subst eo
        go_upto_if 42 with (fail)
        go_cut [3] (fun v3 wc => ∃ h', okH h' ∧ Aside0 ((Kd.int .i64).R 3 wc w.heap.size (fun _ => True) v3 h') ∧ Aside0 (MapOf wc b (kk + 1) h') ∧ Aside0 (Below w.heap.size w wc))
        case first =>
          clear hx124_0
          by_cases c8 : Go.bits .and .i64 x 1 = 0
          · have c8b : (Go.bits .and .i64 x 1 == 0) = true := beq_iff_eq.mpr c8
            clear c8
            go_upto_region 10 with (fail)
            obtain ⟨node, n1, n2, hn⟩ := umod ((IntKind.u64.wrap x).tdiv 2) 12 (by decide) (by decide)
            rw [hn]; clear hn
            obtain ⟨k, hk⟩ : ∃ k, hand_Open.f k h node = some (openH h node) := by obtain ⟨K, h_⟩ := open_ev h node; exact ⟨K, h_ K (Nat.le_refl _)⟩
            have hop : openH h node = _ := if_pos ⟨HK.out, n1, n2⟩
            rw [hop] at hk; clear hop
            by_cases c9 : free h 0 < 0
            · rw [if_pos c9] at hk
              have HF := Aside0.mk (full_len HK.out c9); have HKK := Aside0.mk hk; clear hk c9
              go_wp2_with (first | (go_at_call 22; refine (hand_Open.calls k _ _ h node [] 0 15 _ ?s1 ?s2 HKK.out).mono ?_; (case s1 => exact (Kd.R_reads' HO.out).2.2); (case s2 => exact (Kd.R_reads' HO.out).2.1); rintro e w5 ⟨v5, rfl, ho5, hb5⟩; have n0_ := Aside0.mk (MapOf_kept HM.out hb5 (MapOf_lt HM.out)); have n1_ := Aside0.mk (Kd.R_below HO.out hb5); have n2_ := Aside0.mk (below_step HB.out hb5); clear HM HO HB; have HM := n0_; have HO := n1_; have HB := n2_; clear n0_ n1_ n2_ ho5 hb5) | (at_len; refine wp_mlen rfl _ rfl HM.out rfl ?_; rw [HF.out]))
              go_roundg (l.length - (kk + 1))
              case measure => have := HLT.out; omega
              case rel =>
                have e_ : wrap64 ((kk : Int) + 1) = ((kk + 1 : Nat) : Int) := by have := HLT.out; have := HL.out; unfold wrap64; omega
                exact ⟨kk + 1, h, by rw [e_], HLT.out, by omega, HK.out, HO, ⟨MapOf_mono HM.out (by omega)⟩, HB⟩
            · rw [if_neg c9] at hk
              obtain ⟨j, e1, e2, e3⟩ := free_range h c9
              have hfb := free_before h 0 (Int.le_refl _) j (by omega)
              rw [e1, Int.toNat_natCast] at hk
              have hl4 := HK.out.1
              rw [hl4] at e2 hfb
              have HF := Aside0.mk hfb; have HKK := Aside0.mk hk; have HE := Aside0.mk e3; have HJ := Aside0.mk e2; clear hk c9 hfb e1 e3 e2 hl4
              have d1 : decide ((j : Int) < 0) = false := decide_eq_false (by omega)
              have d2 : decide (4 ≤ (j : Int)) = false := decide_eq_false (by have := HJ.out; omega)
              go_wp2_with (go_at_call 22; refine (hand_Open.calls k _ _ h node (h.set j node) j 0 _ ?s1 ?s2 HKK.out).mono ?_; (case s1 => exact (Kd.R_reads' HO.out).2.2); (case s2 => exact (Kd.R_reads' HO.out).2.1); rintro e w5 ⟨v5, rfl, ho5, hb5⟩; have n0_ := Aside0.mk (MapOf_kept HM.out hb5 (MapOf_lt HM.out)); have n1_ := Aside0.mk (Kd.R_lower ho5 (below_size HB.out)); have n2_ := Aside0.mk (below_step HB.out hb5); clear HM HO HB; have HM := n0_; have HO := n1_; have HB := n2_; clear n0_ n1_ n2_ ho5 hb5)
              go_loopg [61] j (fun gk v61 w' => ∃ p : Nat, v61 = .int .i64 p ∧ p ≤ j ∧ j - p ≤ gk ∧ Aside0 ((Kd.int .i64).R 3 w' w.heap.size (fun _ => True) v5 (h.set j node)) ∧ Aside0 (MapOf w' b kk h) ∧ Aside0 (Below w.heap.size w w'))
              case atStart => exact ⟨0, rfl, Nat.zero_le _, by omega, HO, HM, HB⟩
              case round =>
                clear HO HM HB
                obtain ⟨p, rfl, hpj, hpg, HO, HM, HB⟩ := hrel
                by_cases hlt : p < j
                · have c3b : decide ((p : Int) < (j : Int)) = true := decide_eq_true (by omega)
                  have c3c : decide (p < j) = true := decide_eq_true hlt
                  have HP := Aside0.mk (HF.out p hlt (by have := HJ.out; omega))
                  have HPL := Aside0.mk (show p < 4 by have := HJ.out; omega)
                  have HPJ := Aside0.mk hlt; clear hlt
                  go_wp2_with (at_lookup; refine wp_held rfl _ _ rfl HM.out rfl p HPL.out HP.out rfl ?_)
                  go_roundg (j - (p + 1))
                  case measure => have := HPJ.out; omega
                  case rel =>
                    have e_ : wrap64 ((p : Int) + 1) = ((p + 1 : Nat) : Int) := by have := HPL.out; unfold wrap64; omega
                    exact ⟨p + 1, by rw [e_], HPJ.out, by omega, HO, HM, HB⟩
                · have : p = j := by omega
                  subst this
                  clear hlt
                  go_wp2_with (first | (at_lookup; refine wp_free rfl _ _ rfl HM.out rfl p HJ.out HE.out rfl ?_) | (at_mapUpdate; refine wp_mput rfl _ _ _ rfl HM.out (by have := HL.out; have := HLT.out; omega) HK.out.1 rfl p HJ.out HE.out node n1 n2 rfl rfl ?_; intro w6 hM6 hg6; have n0_ := Aside0.mk hM6; have n1_ := Aside0.mk (R_map HO.out (MapOf_obj HM.out) hg6); have n2_ := Aside0.mk (below_map HB.out hg6 HGb.out HB.out.size); clear HM HO HB; have HM := n0_; have HO := n1_; have HB := n2_; clear n0_ n1_ n2_ hM6 hg6))
                  go_meet
                  case rel => exact ⟨_, set_ok HK.out p (by omega) n2, HO, HM, HB⟩
          · have c8b : (Go.bits .and .i64 x 1 == 0) = false := beq_eq_false_iff_ne.mpr c8
            clear c8
            go_upto_region 27 with (fail)
            obtain ⟨ii, n1, n2, hn⟩ := umod ((IntKind.u64.wrap x).tdiv 2) 4 (by decide) (by decide)
            rw [hn]; clear hn
            obtain ⟨m, rfl⟩ : ∃ m : Nat, ii = m := ⟨ii.toNat, by omega⟩
            have HJ := Aside0.mk (show m < 4 by omega)
            have hk := close_is h (m : Int)
            by_cases c9 : h.getD m 0 = -1
            · have ho : ofH h (m : Int) = (0, 15) := by unfold ofH; rw [if_pos HK.out, if_neg (by rw [Int.toNat_natCast]; exact fun x => x.2.2 c9)]
              have hc : closeH h (m : Int) = ([], 0, 15) := by unfold closeH; rw [ho, if_neg (by decide)]
              rw [hc] at hk
              have HKK := Aside0.mk hk; have HE := Aside0.mk c9; clear hk c9 ho hc n1 n2
              go_wp2_with (first | (go_at_call 24; refine (hand_Close.calls _ _ h m [] 0 15 _ ?s1 ?s2 HKK.out).mono ?_; (case s1 => exact (Kd.R_reads' HO.out).2.2); (case s2 => exact (Kd.R_reads' HO.out).2.1); rintro e w5 ⟨v5, rfl, ho5, hb5⟩; have n0_ := Aside0.mk (MapOf_kept HM.out hb5 (MapOf_lt HM.out)); have n1_ := Aside0.mk (Kd.R_below HO.out hb5); have n2_ := Aside0.mk (below_step HB.out hb5); clear HM HO HB; have HM := n0_; have HO := n1_; have HB := n2_; clear n0_ n1_ n2_ ho5 hb5) | (at_lookup; refine wp_free rfl _ _ rfl HM.out rfl m HJ.out HE.out rfl ?_))
              go_meet
              case rel => exact ⟨h, HK.out, HO, ⟨MapOf_mono HM.out (by omega)⟩, HB⟩
            · have ho : ofH h (m : Int) = (h.getD m 0, 0) := by unfold ofH; rw [if_pos HK.out, if_pos (by rw [Int.toNat_natCast]; exact ⟨by omega, by omega, c9⟩), Int.toNat_natCast]
              have hc : closeH h (m : Int) = (h.set m (-1), h.getD m 0, 0) := by unfold closeH; rw [ho, if_pos rfl, Int.toNat_natCast]
              rw [hc] at hk
              have HKK := Aside0.mk hk; have HE := Aside0.mk c9; clear hk c9 ho hc n1 n2
              go_wp2_with (first | (go_at_call 24; refine (hand_Close.calls _ _ h m (h.set m (-1)) (h.getD m 0) 0 _ ?s1 ?s2 HKK.out).mono ?_; (case s1 => exact (Kd.R_reads' HO.out).2.2); (case s2 => exact (Kd.R_reads' HO.out).2.1); rintro e w5 ⟨v5, rfl, ho5, hb5⟩; have n0_ := Aside0.mk (MapOf_kept HM.out hb5 (MapOf_lt HM.out)); have n1_ := Aside0.mk (Kd.R_lower ho5 (below_size HB.out)); have n2_ := Aside0.mk (below_step HB.out hb5); clear HM HO HB; have HM := n0_; have HO := n1_; have HB := n2_; clear n0_ n1_ n2_ ho5 hb5) | (at_lookup; refine wp_held rfl _ _ rfl HM.out rfl m HJ.out HE.out rfl ?_) | (at_lookup; (try (refine gate_guard (by rfl) ?_; dsimp only)); refine wp_look1 rfl _ _ rfl HM.out rfl m HJ.out HE.out rfl ?_) | (at_delete; refine wp_mdel rfl _ _ rfl HM.out HK.out.1 rfl m HJ.out HE.out rfl ?_; intro w6 hM6 hg6; have n0_ := Aside0.mk hM6; have n1_ := Aside0.mk (R_map HO.out (MapOf_obj HM.out) hg6); have n2_ := Aside0.mk (below_map HB.out hg6 HGb.out HB.out.size); clear HM HO HB; have HM := n0_; have HO := n1_; have HB := n2_; clear n0_ n1_ n2_ hM6 hg6))
              go_meet
              case rel => exact ⟨_, set_ok HK.out m (by omega) (by omega), HO, ⟨MapOf_mono HM.out (by omega)⟩, HB⟩
        case rest =>
          clear HO HM HB HK hx124_0
          obtain ⟨h', hok', HO, HM, HB⟩ := hcut
          have HK := Aside0.mk hok'
          obtain ⟨Ao', co', eo'⟩ := Kd.R_slice HO.out; subst eo'
          obtain ⟨k, hk⟩ : ∃ k, hand_Held.f k h' = some (heldH h') := by obtain ⟨K, h_⟩ := held_ev h'; exact ⟨K, h_ K (Nat.le_refl _)⟩
          have hlen := held_len hok'
          have HG := Aside0.mk (fun (n : Nat) (hn : n < 12) => (held_get hok' hn).trans (anyTo_all (n : Int) hok').symm)
          generalize heldH h' = hd at hk hlen HG
          have HKK := Aside0.mk hk; have HLN := Aside0.mk hlen; clear hk hok'
          have e12 : ((hd.length : Int) != 12) = false := bne_eq_false_iff_eq.mpr (by omega)
          clear hlen
          go_wp2_with (go_at_call 28; refine (hand_Held.calls k _ _ h' hd _ ?s1 ?s2 HKK.out).mono ?_; (case s1 => exact (Kd.R_reads' HO.out).2.2); (case s2 => exact (Kd.R_reads' HO.out).2.1); rintro e w5 ⟨v5, rfl, ho5, hb5⟩; have n0_ := Aside0.mk (MapOf_kept HM.out hb5 (MapOf_lt HM.out)); have n1_ := Aside0.mk (Kd.R_below HO.out hb5); have HH := Aside0.mk (Kd.R_lower ho5 (below_size HB.out)); have n2_ := Aside0.mk (below_step HB.out hb5); clear HM HO HB; have HM := n0_; have HO := n1_; have HB := n2_; clear n0_ n1_ n2_ ho5 hb5; obtain ⟨Ah, ch, eh⟩ := Kd.R_slice HH.out; subst eh)
          go_loopg [140] 12 (fun gk v140 w' => ∃ n : Nat, v140 = .int .i64 n ∧ n ≤ 12 ∧ 12 - n ≤ gk ∧ Aside0 ((Kd.int .i64).R 3 w' w.heap.size (fun _ => True) (.slice Ao' h'.length co') h') ∧ Aside0 (MapOf w' b (kk + 1) h') ∧ Aside0 (Kd.bool.R 4 w' w.heap.size (fun _ => True) (.slice Ah hd.length ch) hd) ∧ Aside0 (Below w.heap.size w w'))
          case atStart => exact ⟨0, rfl, Nat.zero_le _, by omega, HO, HM, HH, HB⟩
          case round =>
            clear HO HM HB HH
            obtain ⟨n, rfl, hn12, hng, HO, HM, HH, HB⟩ := hrel
            by_cases hlt : n < 12
            · have c3b : decide ((n : Int) < (hd.length : Int)) = true := decide_eq_true (by have := HLN.out; omega)
              have c3c : decide (n < hd.length) = true := decide_eq_true (by have := HLN.out; omega)
              have HN := Aside0.mk hlt; clear hlt
              go_wp2
              go_loopg [24, 143] 4 (fun gk v24 v143 w' => ∃ p : Nat, v143 = .int .i64 p ∧ v24 = .bool (anyTo h' n p) ∧ p ≤ 4 ∧ 4 - p ≤ gk ∧ Aside0 ((Kd.int .i64).R 3 w' w.heap.size (fun _ => True) (.slice Ao' h'.length co') h') ∧ Aside0 (MapOf w' b (kk + 1) h') ∧ Aside0 (Kd.bool.R 4 w' w.heap.size (fun _ => True) (.slice Ah hd.length ch) hd) ∧ Aside0 (Below w.heap.size w w'))
              case atStart => exact ⟨0, rfl, rfl, Nat.zero_le _, by omega, HO, HM, HH, HB⟩
              case round =>
                clear HO HM HB HH
                obtain ⟨p, rfl, rfl, hp4, hpg, HO, HM, HH, HB⟩ := hrel
                by_cases hlt : p < 4
                · have c4b : decide ((p : Int) < 4) = true := decide_eq_true (by omega)
                  have c4c : decide (p < 4) = true := decide_eq_true hlt
                  have HPL := Aside0.mk hlt; clear hlt
                  have hst := anyTo_step (h := h') (p := p) (by have := HK.out.1; have := HPL.out; omega) n
                  by_cases hh : h'.getD p 0 = -1
                  · have hx : (h'.getD p 0 == (n : Int)) = false := beq_eq_false_iff_ne.2 (by omega)
                    rw [hx, Bool.or_false] at hst
                    have HS := Aside0.mk hst; have HE := Aside0.mk hh; clear hst hh hx
                    go_wp2_with (at_lookup; refine wp_free rfl _ _ rfl HM.out rfl p HPL.out HE.out rfl ?_)
                    go_roundg (4 - (p + 1))
                    case measure => have := HPL.out; omega
                    case rel =>
                      have e_ : wrap64 ((p : Int) + 1) = ((p + 1 : Nat) : Int) := by have := HPL.out; unfold wrap64; omega
                      exact ⟨p + 1, by first | rw [e_] | rfl, by first | rw [HS.out] | rfl, HPL.out, by omega, HO, HM, HH, HB⟩
                  · by_cases hx : h'.getD p 0 = (n : Int)
                    · rw [show (h'.getD p 0 == (n : Int)) = true from beq_iff_eq.2 hx, Bool.or_true] at hst
                      have HS := Aside0.mk hst; have HE := Aside0.mk hh; clear hst hh
                      have hxb : (h'.getD p 0 == (n : Int)) = true := beq_iff_eq.2 hx
                      clear hx
                      go_wp2_with (at_lookup; refine wp_held rfl _ _ rfl HM.out rfl p HPL.out HE.out rfl ?_; generalize h'.getD p 0 = z at hxb ⊢)
                      go_roundg (4 - (p + 1))
                      case measure => have := HPL.out; omega
                      case rel =>
                        have e_ : wrap64 ((p : Int) + 1) = ((p + 1 : Nat) : Int) := by have := HPL.out; unfold wrap64; omega
                        exact ⟨p + 1, by first | rw [e_] | rfl, by first | rw [HS.out] | rfl, HPL.out, by omega, HO, HM, HH, HB⟩
                    · have hxb : (h'.getD p 0 == (n : Int)) = false := beq_eq_false_iff_ne.2 hx
                      rw [hxb, Bool.or_false] at hst
                      have HS := Aside0.mk hst; have HE := Aside0.mk hh; clear hst hh hx
                      go_wp2_with (at_lookup; refine wp_held rfl _ _ rfl HM.out rfl p HPL.out HE.out rfl ?_; generalize h'.getD p 0 = z at hxb ⊢)
                      go_roundg (4 - (p + 1))
                      case measure => have := HPL.out; omega
                      case rel =>
                        have e_ : wrap64 ((p : Int) + 1) = ((p + 1 : Nat) : Int) := by have := HPL.out; unfold wrap64; omega
                        exact ⟨p + 1, by first | rw [e_] | rfl, by first | rw [HS.out] | rfl, HPL.out, by omega, HO, HM, HH, HB⟩
                · have : p = 4 := by omega
                  subst this
                  clear hlt
                  have p124 : 0 ≤ (n : Int) := by omega
                  have q124 : (n : Int) < (hd.length : Int) := by have := HLN.out; have := HN.out; omega
                  obtain ⟨ad, ea, hxa⟩ := Kd.at_bool (Kd.R_reads' HH.out).2.2 n p124 q124
                  cases ea
                  have hb_ : rdOf false hd (n : Int) = anyTo h' n 4 := by unfold rdOf; rw [Int.toNat_natCast]; exact HG.out n HN.out
                  rw [hb_, Int.toNat_natCast] at hxa; clear hb_; replace p124 := eq_true p124; replace q124 := eq_true q124
                  go_wp2
                  go_roundg (12 - (n + 1))
                  case measure => have := HN.out; omega
                  case rel =>
                    have e_ : wrap64 ((n : Int) + 1) = ((n + 1 : Nat) : Int) := by have := HN.out; unfold wrap64; omega
                    exact ⟨n + 1, by first | rw [e_] | rfl, HN.out, by omega, HO, HM, HH, HB⟩
            · have : n = 12 := by omega
              subst this
              have c3b : decide ((12 : Int) < (hd.length : Int)) = false := decide_eq_false (by have := HLN.out; omega)
              have c3c : decide (12 < hd.length) = false := decide_eq_false (by have := HLN.out; omega)
              clear hlt
              go_wp2
              go_roundg (l.length - (kk + 1))
              case measure => have := HLT.out; omega
              case rel =>
                have e_ : wrap64 ((kk : Int) + 1) = ((kk + 1 : Nat) : Int) := by have := HLT.out; have := HL.out; unfold wrap64; omega
                exact ⟨kk + 1, h', by first | rw [e_] | rfl, HLT.out, by omega, HK.out, HO, HM, HB⟩
      · have e : kk = l.length := by omega
        subst e
        go_wp2_with (go_at_call 21; refine (potsherdlaw21_awake.calls 30 true _ awk_true).mono ?_; rintro e w' ⟨rfl, hb⟩; have n0_ := Aside0.mk (below_step HB.out hb); clear HB; have HB := n0_; clear n0_ hb)
        go_ret
        exact ⟨rfl, HB.out⟩
end Go.Proofs.Ytnjnmegjbcgajaa.HandHolds
