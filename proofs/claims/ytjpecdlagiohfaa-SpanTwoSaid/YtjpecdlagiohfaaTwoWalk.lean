/- SpanTwo answers true, whatever numbers it is given; no condition. -/
import Derived.Test.YtjpecdlagiohfaaTwoLib
namespace Go.Proofs.Ytjpecdlagiohfaa.PTwo
set_option linter.unusedVariables false
open Go.RowKit Go.Proofs.YtjpecdlagiohfaaW.PrintWords Go.Proofs.YtjpecdlagiohfaaW.PrintLast Go.Proofs.YtjpecdlagiohfaaW.PrintMore
/-- Where the bytes stand ahead of each row of pieces. -/
def cur3 (a n m i : Nat) : Nat := if i = 0 then a else if i = 1 then a + n else a + n + m
theorem awk_true : potsherdlaw16_awake.f 30 = some true := by decide +kernel
set_option maxHeartbeats 8000000 in
set_option maxRecDepth 100000 in
theorem two_walk (x y z : Int) (w : World) :
    Calls Try.prog 7 #[.int .i64 x, .int .i64 y, .int .i64 z] w fun e w' => e = .returned (.bool true) ∧ Below w.heap.size w w' := by
  have HB := Aside0.mk (Below.refl w.heap.size w)
  have hu32 := Try.underlying32
  go_enter Try.func7, Try.ntmps7
  go_upto_region 2 with (fail)
  obtain ⟨a, a1, a2⟩ := umodN x 60 (by decide) (by decide)
  obtain ⟨n, n1, n2⟩ := umodN y 40 (by decide) (by decide)
  obtain ⟨m, m1, m2⟩ := umodN z 40 (by decide) (by decide)
  rw [a2, n2, m2]
  clear a2 n2 m2
  by_cases hf : a + (n + m) ≤ 80
  · have HF := Aside0.mk (show span_Fits.f (a : Int) ((n + m : Nat) : Int) = some true by rw [fits_is, decide_eq_true hf])
    have HL := Aside0.mk hf; clear hf
    go_upto_region 4 with (go_at_call 17; refine (span_Fits.calls _ _ true _ HF.out).mono ?_; rintro e w' ⟨rfl, hb⟩)
    have HB2 := Aside0.mk (below_step HB.out hb.below); clear HB hb; have HB := HB2; clear HB2
    obtain ⟨l1, k1, q1, t1⟩ : ∃ l k, span_Pieces.f k (a : Int) (n : Int) = some l ∧ tiles l a n = true := by obtain ⟨l, q, t⟩ := pcs_is a n (by have := HL.out; omega); exact ⟨l, 20, q, t⟩
    obtain ⟨l2, k2, q2, t2⟩ : ∃ l k, span_Pieces.f k ((a : Int) + (n : Int)) (m : Int) = some l ∧ tiles l ((a + n : Nat) : Int) m = true := by obtain ⟨l, q, t⟩ := pcs_is (a + n) m (by have := HL.out; omega); exact ⟨l, 20, by push_cast at q; exact q, t⟩
    have Q1 := Aside0.mk q1; have T1 := Aside0.mk t1; have Q2 := Aside0.mk q2; have T2 := Aside0.mk t2; clear q1 t1 q2 t2
    go_upto_region 5 with ((with_reducible refine gate_dst (N := 7) rfl ?_); (try (refine gate_guard (by rfl) ?_; dsimp only)); refine box_event ?hg (N := 7) ?hd (cs := (List.replicate 80 (Value.int .i64 0)).toArray) (t := 32) ?hr ?_; (case hd => rfl); (case hg => rfl); (case hr => exact exec32 _ _ _ rfl); intro gs hg w7 hbox hb7; have HS := Aside0.mk (show w7.heap[gs]? = some (.cells (ind a a) 32 (0, 0)) from by rw [ind_zero]; exact hbox); have HG := Aside0.mk (show w.heap.size ≤ gs from by rw [hg]; exact HB.out.size); have n2_ := Aside0.mk (below_step HB.out hb7); clear HB hg hbox hb7; have HB := n2_; clear n2_)
    go_wp2_with (first | (go_at_call 13; (with_reducible show Calls Try.prog 13 #[.int .i64 (a : Int), .int .i64 (n : Int)] _ _); refine (span_Pieces.calls k1 (a : Int) (n : Int) l1 _ Q1.out).mono ?_; rintro e w8 ⟨v1, rfl, ho, hb8⟩; have n0_ := Aside0.mk (blk_below HS.out hb8); have HO1 := Aside0.mk (Kd.R_lower ho (below_size HB.out)); have n2_ := Aside0.mk (below_step HB.out hb8); clear HS HB; have HS := n0_; have HB := n2_; clear n0_ n2_ ho hb8; obtain ⟨A1, cc1, ev1⟩ := Kd.R_slice HO1.out; subst ev1) | (go_at_call 13; (with_reducible show Calls Try.prog 13 #[.int .i64 ((a : Int) + (n : Int)), .int .i64 (m : Int)] _ _); refine (span_Pieces.calls k2 ((a : Int) + (n : Int)) (m : Int) l2 _ Q2.out).mono ?_; rintro e w9 ⟨v2, rfl, ho, hb8⟩; have n0_ := Aside0.mk (blk_below HS.out hb8); have n1_ := Aside0.mk (Kd.R_below HO1.out hb8); have HO2 := Aside0.mk (Kd.R_lower ho (below_size HB.out)); have n2_ := Aside0.mk (below_step HB.out hb8); clear HS HB HO1; have HS := n0_; have HO1 := n1_; have HB := n2_; clear n0_ n1_ n2_ ho hb8; obtain ⟨A2, cc2, ev2⟩ := Kd.R_slice HO2.out; subst ev2))
    have HQ := Aside0.mk hu32; clear hu32
    go_loopg [51] 2 (fun gk v51 w' => ∃ i : Nat, v51 = .int .i64 i ∧ i ≤ 2 ∧ 2 - i ≤ gk ∧ Aside0 (w'.heap[gs]? = some (.cells (ind a (cur3 a n m i)) 32 (0, 0))) ∧ Aside0 (Kd.R k25 25 w' w.heap.size (fun _ => True) (.slice A1 l1.length cc1) l1) ∧ Aside0 (Kd.R k25 25 w' w.heap.size (fun _ => True) (.slice A2 l2.length cc2) l2) ∧ Aside0 (Below w.heap.size w w'))
    case atStart => exact ⟨0, rfl, by omega, by omega, HS, HO1, HO2, HB⟩
    case round =>
      clear HS HO1 HO2 HB
      obtain ⟨i, rfl, hi2, hig, HS, HO1, HO2, HB⟩ := hrel
      by_cases hlt : i < 2
      · have c0b : decide ((i : Int) < 2) = true := decide_eq_true (by omega)
        have c0c : decide (i < 2) = true := decide_eq_true hlt
        obtain ⟨A, l, c, hix, HO, HT⟩ : ∃ (A : Option Addr) (l : List S25) (c : Nat), (∀ W, (Instr.index 33 (.agg #[.slice A1 l1.length cc1, .slice A2 l2.length cc2]) (.int .i64 (i : Int))).run Try.prog W = .ok (.slice A l.length c) W) ∧ Aside0 (Kd.R k25 25 wr w.heap.size (fun _ => True) (.slice A l.length c) l) ∧ Aside0 (tiles l (cur3 a n m i) ((cur3 a n m (i + 1) - cur3 a n m i : Nat) : Int) = true) := by
          have h01 : i = 0 ∨ i = 1 := by omega
          rcases h01 with rfl | rfl
          · exact ⟨A1, l1, cc1, fun W => ix_two0 _ _ W, HO1, ⟨by have := T1.out; simpa [cur3] using this⟩⟩
          · exact ⟨A2, l2, cc2, fun W => ix_two1 _ _ W, HO2, ⟨by have := T2.out; simpa [cur3] using this⟩⟩
        have hcur : a ≤ cur3 a n m i ∧ cur3 a n m i ≤ cur3 a n m (i + 1) ∧ cur3 a n m (i + 1) ≤ 80 := by
          have := HL.out
          have h01 : i = 0 ∨ i = 1 := by omega
          rcases h01 with rfl | rfl <;> simp [cur3] <;> omega
        have HIL := Aside0.mk hlt; clear hlt
        generalize cur3 a n m i = C0 at HS HT hcur
        generalize hE : cur3 a n m (i + 1) = E at HT hcur
        have HE := Aside0.mk hE; clear hE
        have HC := Aside0.mk hcur; clear hcur
        go_wp2
        clear hix
        go_loopg [56] l.length (fun gk v56 w' => ∃ (j cu r : Nat), v56 = .int .i64 j ∧ j ≤ l.length ∧ l.length - j ≤ gk ∧ cu + r = E ∧ a ≤ cu ∧ Aside0 (tiles (l.drop j) cu r = true) ∧ Aside0 (w'.heap[gs]? = some (.cells (ind a cu) 32 (0, 0))) ∧ Aside0 (Kd.R k25 25 w' w.heap.size (fun _ => True) (.slice A l.length c) l) ∧ Aside0 (Kd.R k25 25 w' w.heap.size (fun _ => True) (.slice A1 l1.length cc1) l1) ∧ Aside0 (Kd.R k25 25 w' w.heap.size (fun _ => True) (.slice A2 l2.length cc2) l2) ∧ Aside0 (Below w.heap.size w w'))
        case atStart => exact ⟨0, C0, E - C0, rfl, Nat.zero_le _, by omega, by have := HC.out; omega, HC.out.1, ⟨by simpa using HT.out⟩, HS, HO, HO1, HO2, HB⟩
        case round =>
          clear HS HO HO1 HO2 HB HT
          obtain ⟨j, cu, r, rfl, hjl, hjg, hcr, hac, HT, HS, HO, HO1, HO2, HB⟩ := hrel
          by_cases hlt : j < l.length
          · have c3b : decide ((j : Int) < (l.length : Int)) = true := decide_eq_true (by omega)
            have c3c : decide (j < l.length) = true := decide_eq_true hlt
            have hmx := Kd.C_max (Kd.R_reads' HO.out).2.2
            have HJ := Aside0.mk (show j < l.length ∧ (l.length : Int) ≤ 9223372036854775807 from ⟨hlt, by omega⟩); clear hmx
            have p1 : 0 ≤ (j : Int) := by omega
            have q1 : (j : Int) < (l.length : Int) := by omega
            obtain ⟨ad, ea, hx0, hx1, hx2⟩ := at_T25 (Kd.R_reads' HO.out).2.2 j p1 q1
            cases ea
            have hd : l.drop j = rd_T25 l j :: l.drop (j + 1) := by
              rw [List.drop_eq_getElem_cons hlt]; unfold rd_T25; rw [Int.toNat_natCast, List.getD_eq_getElem?_getD, List.getElem?_eq_getElem hlt]; rfl
            have ht := HT.out
            rw [hd] at ht
            simp only [tiles, Bool.and_eq_true, decide_eq_true_eq] at ht
            generalize rd_T25 l j = P at hx0 hx1 hx2 ht
            obtain ⟨pg, hpg⟩ : ∃ pg : Nat, P.f0 = pg := ⟨P.f0.toNat, by omega⟩
            obtain ⟨fr, hfr⟩ : ∃ fr : Nat, P.f1 = fr := ⟨P.f1.toNat, by omega⟩
            obtain ⟨ln, hln⟩ : ∃ ln : Nat, P.f2 = ln := ⟨P.f2.toNat, by omega⟩
            rw [hpg, hfr, hln] at ht
            rw [hpg] at hx0; rw [hfr] at hx1; rw [hln] at hx2
            clear hpg hfr hln hd hlt
            obtain ⟨⟨s1, s2, s3, s4, s5, s6, s7⟩, ht2⟩ := ht
            obtain rfl : cu = pg * 16 + fr := by omega
            have HP := Aside0.mk (show 0 < ln ∧ ln ≤ r ∧ pg < 5 ∧ fr + ln ≤ 16 ∧ pg * 16 + fr + r = E ∧ a ≤ pg * 16 + fr ∧ E ≤ 80 from ⟨by omega, by omega, by omega, by omega, hcr, hac, by have := HC.out; omega⟩)
            have HT2 := Aside0.mk (show tiles (l.drop (j + 1)) ((pg * 16 + fr + ln : Nat) : Int) ((r - ln : Nat) : Int) = true by rw [show ((r - ln : Nat) : Int) = (r : Int) - (ln : Int) by omega, show ((pg * 16 + fr + ln : Nat) : Int) = ((pg * 16 + fr : Nat) : Int) + (ln : Int) by push_cast; rfl]; exact ht2)
            have d2 : decide (5 ≤ (pg : Int)) = false := decide_eq_false (by omega)
            have d5 : decide (16 < (ln : Int)) = false := decide_eq_false (by omega)
            have d6 : decide (16 < (fr : Int) + (ln : Int)) = false := decide_eq_false (by omega)
            have b9 : fr + ln ≤ 16 := by omega
            have b8 : pg < 5 := by omega
            have d8 : decide ((pg : Int) < 0) = false := decide_eq_false (by omega)
            have d9 : decide ((fr : Int) < 0) = false := decide_eq_false (by omega)
            have d10 : decide ((ln : Int) < 0) = false := decide_eq_false (by omega)
            clear s1 s2 s3 s4 s5 s6 s7 ht2 HT hcr hac
            simp only [Int.toNat_natCast] at hx0 hx1 hx2; replace p1 := eq_true p1; replace q1 := eq_true q1
            go_wp2_with ((with_reducible refine gate_dst (N := 11) rfl ?_); (try (refine gate_guard (by rfl) ?_; dsimp only)); refine box_event ?hg (N := 11) ?hd (cs := #[.int .i64 0, .int .i64 0, .int .i64 0]) (t := 25) ?hr ?_; (case hd => rfl); (case hg => rfl); (case hr => first | (go_simp; done) | (go_simp; rfl)); intro gp hgp w7 hbox hb7; have n0_ := Aside0.mk (blk_below HS.out hb7); have n1_ := Aside0.mk (Kd.R_below (Kd.R_elderB HO1.out gp (Nat.le_of_eq hgp.symm)) hb7); have n2_ := Aside0.mk (Kd.R_below (Kd.R_elderB HO2.out gp (Nat.le_of_eq hgp.symm)) hb7); have n3_ := Aside0.mk (Kd.R_below (Kd.R_elderB HO.out gp (Nat.le_of_eq hgp.symm)) hb7); have n4_ := Aside0.mk (below_step HB.out hb7); have BP := Aside0.mk hbox; have GP := Aside0.mk (show w.heap.size ≤ gp from by rw [hgp]; exact HB.out.size); clear HS HO1 HO2 HO HB hgp hbox hb7; have HS := n0_; have HO1 := n1_; have HO2 := n2_; have HO := n3_; have HB := n4_; clear n0_ n1_ n2_ n3_ n4_; have hz0 : w7.cell? ⟨gp, 0, none⟩ = some (.int .i64 0) := (blk_cell BP.out 0).trans rfl; have hz1 : w7.cell? ⟨gp, 1, none⟩ = some (.int .i64 0) := (blk_cell BP.out 1).trans rfl; have hz2 : w7.cell? ⟨gp, 2, none⟩ = some (.int .i64 0) := (blk_cell BP.out 2).trans rfl; have hf0 := blk_frozen BP.out 0; have hf1 := blk_frozen BP.out 1; have hf2 := blk_frozen BP.out 2)
            have HNE := Aside0.mk (blk_ne HS.out BP.out (by decide))
            have n0_ : Aside0 ((((w7.setCell ⟨gp, 0, none⟩ (.int .i64 (pg : Int))).setCell ⟨gp, 1, none⟩ (.int .i64 (fr : Int))).setCell ⟨gp, 2, none⟩ (.int .i64 (ln : Int))).heap[gs]? = some (.cells (ind a (pg * 16 + fr)) 32 (0, 0))) := ⟨blk_far (blk_far (blk_far HS.out HNE.out _) HNE.out _) HNE.out _⟩
            have n1_ := Aside0.mk (Kd.R_mono (Kd.R_far (p := ⟨gp, 2, none⟩) (Kd.R_far (p := ⟨gp, 1, none⟩) (Kd.R_far (p := ⟨gp, 0, none⟩) HO1.out (fun _ hk => hk.2) (.int .i64 (pg : Int))) (fun _ hk => hk.2) (.int .i64 (fr : Int))) (fun _ hk => hk.2) (.int .i64 (ln : Int))) (fun _ _ => trivial) : Kd.R k25 25 (((w7.setCell ⟨gp, 0, none⟩ (.int .i64 (pg : Int))).setCell ⟨gp, 1, none⟩ (.int .i64 (fr : Int))).setCell ⟨gp, 2, none⟩ (.int .i64 (ln : Int))) w.heap.size (fun _ => True) _ _)
            have n2_ := Aside0.mk (Kd.R_mono (Kd.R_far (p := ⟨gp, 2, none⟩) (Kd.R_far (p := ⟨gp, 1, none⟩) (Kd.R_far (p := ⟨gp, 0, none⟩) HO2.out (fun _ hk => hk.2) (.int .i64 (pg : Int))) (fun _ hk => hk.2) (.int .i64 (fr : Int))) (fun _ hk => hk.2) (.int .i64 (ln : Int))) (fun _ _ => trivial) : Kd.R k25 25 (((w7.setCell ⟨gp, 0, none⟩ (.int .i64 (pg : Int))).setCell ⟨gp, 1, none⟩ (.int .i64 (fr : Int))).setCell ⟨gp, 2, none⟩ (.int .i64 (ln : Int))) w.heap.size (fun _ => True) _ _)
            have n3_ := Aside0.mk (Kd.R_mono (Kd.R_far (p := ⟨gp, 2, none⟩) (Kd.R_far (p := ⟨gp, 1, none⟩) (Kd.R_far (p := ⟨gp, 0, none⟩) HO.out (fun _ hk => hk.2) (.int .i64 (pg : Int))) (fun _ hk => hk.2) (.int .i64 (fr : Int))) (fun _ hk => hk.2) (.int .i64 (ln : Int))) (fun _ _ => trivial) : Kd.R k25 25 (((w7.setCell ⟨gp, 0, none⟩ (.int .i64 (pg : Int))).setCell ⟨gp, 1, none⟩ (.int .i64 (fr : Int))).setCell ⟨gp, 2, none⟩ (.int .i64 (ln : Int))) w.heap.size (fun _ => True) _ _)
            have n4_ : Aside0 (Below w.heap.size w (((w7.setCell ⟨gp, 0, none⟩ (.int .i64 (pg : Int))).setCell ⟨gp, 1, none⟩ (.int .i64 (fr : Int))).setCell ⟨gp, 2, none⟩ (.int .i64 (ln : Int)))) := ⟨below_set (below_set (below_set HB.out GP.out) GP.out) GP.out⟩
            have n5_ : Aside0 ((((w7.setCell ⟨gp, 0, none⟩ (.int .i64 (pg : Int))).setCell ⟨gp, 1, none⟩ (.int .i64 (fr : Int))).setCell ⟨gp, 2, none⟩ (.int .i64 (ln : Int))).heap[gp]? = some (.cells #[.int .i64 (pg : Int), .int .i64 (fr : Int), .int .i64 (ln : Int)] 25 (0, 0))) := ⟨blk_put (cs := #[.int .i64 (pg : Int), .int .i64 (fr : Int), .int .i64 0]) (blk_put (cs := #[.int .i64 (pg : Int), .int .i64 0, .int .i64 0]) (blk_put (cs := #[.int .i64 0, .int .i64 0, .int .i64 0]) BP.out 0 _ rfl) 1 _ rfl) 2 _ rfl⟩
            clear HS HO1 HO2 HO HB BP hz0 hz1 hz2 hf0 hf1 hf2
            have HS := n0_; have HO1 := n1_; have HO2 := n2_; have HO := n3_; have HB := n4_; have BP := n5_; clear n0_ n1_ n2_ n3_ n4_ n5_
            generalize (((w7.setCell ⟨gp, 0, none⟩ (.int .i64 (pg : Int))).setCell ⟨gp, 1, none⟩ (.int .i64 (fr : Int))).setCell ⟨gp, 2, none⟩ (.int .i64 (ln : Int))) = w10 at HS HO1 HO2 HO HB BP ⊢
            go_loopg [93] ln (fun gk v93 w' => ∃ k : Nat, v93 = .int .i64 k ∧ k ≤ ln ∧ ln - k ≤ gk ∧ Aside0 (w'.heap[gs]? = some (.cells (ind a (pg * 16 + fr + k)) 32 (0, 0))) ∧ Aside0 (w'.heap[gp]? = some (.cells #[.int .i64 (pg : Int), .int .i64 (fr : Int), .int .i64 (ln : Int)] 25 (0, 0))) ∧ Aside0 (Kd.R k25 25 w' w.heap.size (fun _ => True) (.slice (some ad) l.length c) l) ∧ Aside0 (Kd.R k25 25 w' w.heap.size (fun _ => True) (.slice A1 l1.length cc1) l1) ∧ Aside0 (Kd.R k25 25 w' w.heap.size (fun _ => True) (.slice A2 l2.length cc2) l2) ∧ Aside0 (Below w.heap.size w w'))
            case atStart => exact ⟨0, rfl, Nat.zero_le _, by omega, HS, BP, HO, HO1, HO2, HB⟩
            case round =>
              clear HS BP HO HO1 HO2 HB
              obtain ⟨k, rfl, hkl, hkg, HS, BP, HO, HO1, HO2, HB⟩ := hrel
              by_cases hlt : k < ln
              · have c4b : decide ((k : Int) < (ln : Int)) = true := decide_eq_true (by omega)
                have c4c : decide (k < ln) = true := decide_eq_true hlt
                have HKL := Aside0.mk hlt
                have hp := HP.out
                have M1 := Aside0.mk (show k < 9223372036854775807 by omega)
                have M2 := Aside0.mk (show ln - (k + 1) ≤ ln - (k + 1) from Nat.le_refl _)
                have M3 := Aside0.mk (show a ≤ pg * 16 + fr + k by omega)
                have M4 := Aside0.mk (show pg * 16 + fr + k < 80 by omega)
                have hs0 := ind_at HS.out (pg * 16 + fr + k) (by omega)
                rw [show ones a (pg * 16 + fr + k) (pg * 16 + fr + k) = 0 from if_neg (by omega)] at hs0
                have hs1 := blk_frozen HS.out (pg * 16 + fr + k)
                have hq0 : wr.cell? ⟨gp, 0, none⟩ = some (.int .i64 (pg : Int)) := (blk_cell BP.out 0).trans rfl
                have hq1 : wr.cell? ⟨gp, 1, none⟩ = some (.int .i64 (fr : Int)) := (blk_cell BP.out 1).trans rfl
                have hq2 : wr.cell? ⟨gp, 2, none⟩ = some (.int .i64 (ln : Int)) := (blk_cell BP.out 2).trans rfl
                have b3 : k < 17 := by omega
                have p3 : 0 ≤ (pg : Int) * 16 + (fr : Int) + (k : Int) := by omega
                have p4 : (pg : Int) * 16 + (fr : Int) + (k : Int) < 80 := by omega
                clear hp hlt
                have hu32 := HQ.out
                go_wp2
                go_roundg (ln - (k + 1))
                case measure => have := HKL.out; omega
                case rel =>
                  have m1 := M1.out; have m2 := M2.out; have m3 := M3.out; have m4 := M4.out
                  exact ⟨k + 1, by first | exact wsucc k m1 | rfl, HKL.out, m2, ⟨blk_put HS.out (pg * 16 + fr + k) (.int .i64 1) (ind_set a _ m3 m4)⟩, ⟨blk_far BP.out (Ne.symm HNE.out) _⟩, ⟨Kd.R_mono (Kd.R_far (p := ⟨gs, pg * 16 + fr + k, none⟩) (Kd.R_types HO.out HS.out (by decide)) (fun _ hk => hk.2) _) (fun _ _ => trivial)⟩, ⟨Kd.R_mono (Kd.R_far (p := ⟨gs, pg * 16 + fr + k, none⟩) (Kd.R_types HO1.out HS.out (by decide)) (fun _ hk => hk.2) _) (fun _ _ => trivial)⟩, ⟨Kd.R_mono (Kd.R_far (p := ⟨gs, pg * 16 + fr + k, none⟩) (Kd.R_types HO2.out HS.out (by decide)) (fun _ hk => hk.2) _) (fun _ _ => trivial)⟩, ⟨below_set HB.out HG.out⟩⟩
              · have : k = ln := by omega
                subst this
                clear hlt
                have hp := HP.out; have hj := HJ.out
                have MJ := Aside0.mk (show j < 9223372036854775807 by omega)
                have MR := Aside0.mk (show pg * 16 + fr + k + (r - k) = E by omega)
                have MA := Aside0.mk (show a ≤ pg * 16 + fr + k by omega)
                clear hp hj
                go_wp2
                go_roundg (l.length - (j + 1))
                case measure => have := HJ.out; omega
                case rel =>
                  exact ⟨j + 1, pg * 16 + fr + k, r - k, by first | exact wsucc j MJ.out | rfl, HJ.out.1, Nat.le_refl _, MR.out, MA.out, HT2, HS, HO, HO1, HO2, HB⟩
          · have : j = l.length := by omega
            subst this
            have hr0 : r = 0 := by
              have := HT.out
              rw [List.drop_length] at this
              simp only [tiles, beq_iff_eq] at this
              omega
            subst hr0
            have hE2 : cu = cur3 a n m (i + 1) := by rw [HE.out]; omega
            rw [hE2] at HS
            clear hlt hE2
            go_wp2
            go_roundg (2 - (i + 1))
            case measure => have := HIL.out; omega
            case rel =>
              exact ⟨i + 1, by first | exact wsucc i (by have := HIL.out; omega) | rfl, by have := HIL.out; omega, Nat.le_refl _, HS, HO1, HO2, HB⟩
      · have : i = 2 := by omega
        subst this
        have hc3 : cur3 a n m 2 = a + n + m := rfl
        rw [hc3] at HS
        clear hlt hc3
        generalize hT : a + n + m = T at HS
        have HTT := Aside0.mk (show (T : Int) = (a : Int) + (n : Int) + (m : Int) by omega); clear hT
        go_wp2_with ((with_reducible refine gate_dst (N := 111) rfl ?_); refine wpList_load_mid rfl 32 (.tmp 7) rfl gs 0 rfl _ _ (ind_range HS.out) Try.underlying32 rfl (by rw [size32, ind_len]) ?_; simp only [Array.toArray_toList])
        go_loopg [112] 80 (fun gk v112 w' => ∃ i : Nat, v112 = .int .i64 i ∧ i ≤ 80 ∧ 80 - i ≤ gk ∧ Aside0 (Below w.heap.size w w'))
        case atStart => exact ⟨0, rfl, by omega, by omega, HB⟩
        case round =>
          clear HB
          obtain ⟨i, rfl, hi8, hig8, HB⟩ := hrel
          by_cases hlt : i < 80
          · have c4b : decide ((i : Int) < 80) = true := decide_eq_true (by omega)
            have c4c : decide (i < 80) = true := decide_eq_true hlt
            have HI8 := Aside0.mk hlt
            have hix := ix_arr a T i hlt
            have ht := HTT.out
            by_cases hin : a ≤ i ∧ i < T
            · rw [show ones a T i = 1 from if_pos hin] at hix
              have g1 : decide ((a : Int) ≤ (i : Int)) = true := decide_eq_true (by omega)
              have g1n : decide (a ≤ i) = true := decide_eq_true hin.1
              have g2 : decide ((i : Int) < (a : Int) + (n : Int) + (m : Int)) = true := decide_eq_true (by omega)
              clear hin hlt ht
              go_wp2
              go_roundg (80 - (i + 1))
              case measure => have := HI8.out; omega
              case rel =>
                exact ⟨i + 1, by first | exact wsucc i (by have := HI8.out; omega) | rfl, HI8.out, Nat.le_refl _, HB⟩
            · rw [show ones a T i = 0 from if_neg hin] at hix
              by_cases hai : a ≤ i
              · have g1 : decide ((a : Int) ≤ (i : Int)) = true := decide_eq_true (by omega)
                have g1n : decide (a ≤ i) = true := decide_eq_true hai
                have g2 : decide ((i : Int) < (a : Int) + (n : Int) + (m : Int)) = false := decide_eq_false (by omega)
                clear hin hai hlt ht
                go_wp2
                go_roundg (80 - (i + 1))
                case measure => have := HI8.out; omega
                case rel =>
                  exact ⟨i + 1, by first | exact wsucc i (by have := HI8.out; omega) | rfl, HI8.out, Nat.le_refl _, HB⟩
              · have g1 : decide ((a : Int) ≤ (i : Int)) = false := decide_eq_false (by omega)
                have g1n : decide (a ≤ i) = false := decide_eq_false hai
                clear hin hai hlt ht
                go_wp2
                go_roundg (80 - (i + 1))
                case measure => have := HI8.out; omega
                case rel =>
                  exact ⟨i + 1, by first | exact wsucc i (by have := HI8.out; omega) | rfl, HI8.out, Nat.le_refl _, HB⟩
          · have : i = 80 := by omega
            subst this
            clear hlt
            go_wp2_with (go_at_call 21; refine (potsherdlaw16_awake.calls 30 true _ awk_true).mono ?_; rintro e w5 ⟨rfl, hb5⟩)
            go_ret
            exact ⟨rfl, below_step HB.out hb5⟩
  · have HF := Aside0.mk (show span_Fits.f (a : Int) ((n + m : Nat) : Int) = some false by rw [fits_is, decide_eq_false hf])
    have c1 : decide ((80 : Int) < (a : Int) + (n : Int) + (m : Int)) = true := decide_eq_true (by omega)
    clear hf
    go_wp2_with (first | (go_at_call 17; refine (span_Fits.calls _ _ false _ HF.out).mono ?_; rintro e w' ⟨rfl, hb⟩) | (go_at_call 21; refine (potsherdlaw16_awake.calls 30 true _ awk_true).mono ?_; rintro e w5 ⟨rfl, hb5⟩))
    go_ret
    exact ⟨rfl, below_step (below_step HB.out hb.below) hb5⟩
end Go.Proofs.Ytjpecdlagiohfaa.PTwo
