/- The Go functions that these laws reach, each as a Lean function with the same answers (a law itself where it answers true), and the proof that the code comes to them; conditions: those of each theorem. Laid by a program of this session over the print. -/
import Derived.Test.YtkigiehkckjlhaaZSumsPSumsx0
namespace Go.Proofs.Ytkigiehkckjlhaa.PSums
open Go.RowKit Go.Proofs.YtkigiehkckjlhaaW.PrintWords Go.Proofs.YtkigiehkckjlhaaW.PrintLast Go.Proofs.YtkigiehkckjlhaaW.PrintMore
attribute [local go_sem] max2_int min2_int max_two min_two max_three min_three max_four min_four   -- for this text's walks alone
set_option linter.unusedVariables false
set_option linter.unusedSimpArgs false
open Go.Proofs.YtkigiehkckjlhaaW.PrintWords renaming blk_drewN → bN, blk_drew → bD, blk_alloc → bA, below_set → wS, below_alloc → wA, pw_below_drewN → wN, below_drew1 → wD, blk_below → bB, blk_far → bF, blk_cell → bC, blk_frozen → bZ
open List renaming setIfInBounds_toArray → lT, set_cons_zero → l0_, set_cons_succ → lS
mutual
def potsherdref12_Named.l0 : Nat → Int → Int → List (S28) → Int → Int → Option (Int)
 | 0, _, _, _, _, _ => none
 | k + 1, x1, x5, x11, x12, x13 => if x13 < x12 then (if 0 ≤ x13 then (if x13 < (x11.length : Int) then (potsherdref12_Named.l1 k x1 x5 x11 x12 x13 ((rd_T28 x11 x13).f4) (((rd_T28 x11 x13).f4).length : Int) 0) else (none)) else (none)) else (some x5)
def potsherdref12_Named.l1 : Nat → Int → Int → List (S28) → Int → Int → List (S78) → Int → Int → Option (Int)
 | 0, _, _, _, _, _, _, _, _ => none
 | k + 1, x1, x5, x11, x12, x13, x18, x19, x20 => if x20 < x19 then (if 0 ≤ x20 then (if x20 < (x18.length : Int) then (if ((rd_T78 x18 x20).f1) = x1 then (potsherdref12_Named.l1 k x1 (wrap64 (x5 + 1)) x11 x12 x13 x18 x19 (wrap64 (x20 + 1))) else (potsherdref12_Named.l1 k x1 x5 x11 x12 x13 x18 x19 (wrap64 (x20 + 1)))) else (none)) else (none)) else (potsherdref12_Named.l0 k x1 x5 x11 x12 (wrap64 (x13 + 1)))
end
def potsherdref12_Named.f (k : Nat) (l0_0 : List (S28)) (a1 : Int) : Option (Int) := potsherdref12_Named.l0 k a1 0 l0_0 (l0_0.length : Int) 0
theorem potsherdref12_Named.mono_l : ∀ k, (∀ y0 y1 y2 y3 y4, LeO (potsherdref12_Named.l0 k y0 y1 y2 y3 y4) (potsherdref12_Named.l0 (k + 1) y0 y1 y2 y3 y4)) ∧ (∀ y0 y1 y2 y3 y4 y5 y6 y7, LeO (potsherdref12_Named.l1 k y0 y1 y2 y3 y4 y5 y6 y7) (potsherdref12_Named.l1 (k + 1) y0 y1 y2 y3 y4 y5 y6 y7))
 | 0 => ⟨fun _ _ _ _ _ r h => by simp [potsherdref12_Named.l0] at h, fun _ _ _ _ _ _ _ _ r h => by simp [potsherdref12_Named.l1] at h⟩
 | k + 1 => by
  obtain ⟨ih0, ih1⟩ := potsherdref12_Named.mono_l k; refine ⟨?_, ?_⟩
  ·
   intro y0 y1 y2 y3 y4
   unfold potsherdref12_Named.l0
   repeat' first
   | (with_reducible exact ih0 _ _ _ _ _)
   | (with_reducible exact ih1 _ _ _ _ _ _ _ _)
   | (with_reducible exact LeO.refl _)
   | (with_reducible exact LeO.none _)
   | (with_reducible refine LeO.ite ?_ ?_)
   | (with_reducible refine LeO.bind ?_ (fun _ => ?_))
   | exact ih0 _ _ _ _ _
   | exact ih1 _ _ _ _ _ _ _ _
   | exact LeO.none _
   | refine LeO.ite ?_ ?_
   | refine LeO.bind ?_ (fun _ => ?_)
  ·
   intro y0 y1 y2 y3 y4 y5 y6 y7
   unfold potsherdref12_Named.l1
   repeat' first
   | (with_reducible exact ih0 _ _ _ _ _)
   | (with_reducible exact ih1 _ _ _ _ _ _ _ _)
   | (with_reducible exact LeO.refl _)
   | (with_reducible exact LeO.none _)
   | (with_reducible refine LeO.ite ?_ ?_)
   | (with_reducible refine LeO.bind ?_ (fun _ => ?_))
   | exact ih0 _ _ _ _ _
   | exact ih1 _ _ _ _ _ _ _ _
   | exact LeO.none _
   | refine LeO.ite ?_ ?_
   | refine LeO.bind ?_ (fun _ => ?_)
theorem potsherdref12_Named.mono : ∀ a0 a1 k, LeO (potsherdref12_Named.f k a0 a1) (potsherdref12_Named.f (k + 1) a0 a1) := by
 intro a0 a1 k; obtain ⟨ih0, ih1⟩ := potsherdref12_Named.mono_l k
 unfold potsherdref12_Named.f
 repeat' first
  | (with_reducible exact ih0 _ _ _ _ _)
  | (with_reducible exact ih1 _ _ _ _ _ _ _ _)
  | (with_reducible exact LeO.refl _)
  | (with_reducible exact LeO.none _)
  | (with_reducible refine LeO.ite ?_ ?_)
  | (with_reducible refine LeO.bind ?_ (fun _ => ?_))
  | exact ih0 _ _ _ _ _
  | exact ih1 _ _ _ _ _ _ _ _
  | exact LeO.none _
  | refine LeO.ite ?_ ?_
  | refine LeO.bind ?_ (fun _ => ?_)
set_option maxHeartbeats 8000000 in
set_option maxRecDepth 100000 in
theorem potsherdref12_Named.calls (k : Nat) (A0_0 : Option Addr) (c0_0 : Nat) (l0_0 : List (S28)) (a1 : Int) (r : Int) (w : World) (hr0_0 : Kd.C k28 w A0_0 l0_0.length l0_0) (hc0_0 : l0_0.length ≤ c0_0) (h : potsherdref12_Named.f k l0_0 a1 = some r) :
 Calls Try.prog 52 #[.agg #[.slice A0_0 l0_0.length c0_0], .int .i64 a1] w fun e w' => e = .returned (.int .i64 r) ∧ Below w.heap.size w w' := by
 have hu24 := Try.underlying24; have hu28 := Try.underlying28; have hu78 := Try.underlying78; have HR0_0 := Aside0.mk hr0_0; have HC0_0 := Aside0.mk hc0_0; clear hr0_0 hc0_0; have HB := Aside0.mk (Below.refl w.heap.size w); have H : (potsherdref12_Named.l0 k a1 0 l0_0 (l0_0.length : Int) 0) = some r := h; clear h; have H' := Aside0.mk H; clear H
 go_enter Try.func52, Try.ntmps52
 go_wp2_with (first | ((with_reducible refine gate_dst (N := 2) rfl ?_); refine box_event ?hg (N := 2) ?hd (cs := #[.slice A0_0 l0_0.length c0_0]) (t := 24) ?hr ?_; (case hd => rfl); (case hg => rfl); (case hr => first | (go_simp; done) | (go_simp; rfl)); intro gb217 hg w3 hbox hb; have n0_ := Aside0.mk (below_step (by repeat (first | (with_reducible first | exact HB.out | apply wA | apply wN | apply wD) | exact HB.out)) hb); have n1_ := Aside0.mk (hbox); have n2_ := Aside0.mk ((by rw [hg]; exact (below_size (by repeat (first | (with_reducible first | exact HB.out | apply wA | apply wN | apply wD) | exact HB.out))) : w.heap.size ≤ gb217)); have n3_ := Aside0.mk ((by rw [hg]; exact (below_size (by repeat (first | (with_reducible first | exact HB.out | apply wA | apply wN | apply wD) | exact HB.out))) : w.heap.size ≤ gb217)); clear HB; have HB := n0_; have BK217 := n1_; have GW217 := n2_; have GE217 := n3_; clear n0_ n1_ n2_ n3_; clear hb hbox hg; have hcz4_0 : w3.cell? ⟨gb217, 0, none⟩ = some (.slice A0_0 l0_0.length c0_0) := (bC BK217.out 0).trans rfl; have hfz4_0 := bZ BK217.out 0))
 go_loopg [5, 13] k (fun kq v5 v13 w' => ∃ (x5_1 : Int) (x13_1 : Int), v5 = .int .i64 x5_1 ∧ v13 = .int .i64 x13_1 ∧ Aside0 (potsherdref12_Named.l0 kq a1 x5_1 l0_0 (l0_0.length : Int) x13_1 = some r) ∧ Aside0 (kq ≤ k) ∧ Aside0 (w'.heap[gb217]? = some (.cells #[(.slice A0_0 l0_0.length c0_0)] 24 (0, 0))) ∧ Aside0 (Below w.heap.size w w'))
 case atStart => exact ⟨(0), (0), (by first | rfl | (simp; done) | (simp [*]; done)), (by first | rfl | (simp; done) | (simp [*]; done)), H', ⟨Nat.le_refl _⟩, ⟨by (with_reducible repeat (first | refine bN ?_ _ | refine bD ?_ | refine bA ?_ _)); exact BK217.out⟩, ⟨by repeat (first | (with_reducible first | exact HB.out | apply wA | apply wN | apply wD | refine wS ?_ GE217.out) | exact HB.out)⟩⟩
 case round =>
  clear H'
  try clear p2
  try clear hcz4_0
  try clear hfz4_0
  obtain ⟨x5_1, x13_1, rfl, rfl, HA, HK1, BK217, HB⟩ := hrel
  cases gk with
  | zero => exact absurd HA.out (by simp [potsherdref12_Named.l0])
  | succ k1 =>
   have H := HA.out; clear HA; simp only [potsherdref12_Named.l0] at H
   by_cases c5 : x13_1 < (l0_0.length : Int)
   ·
    rw [if_pos c5] at H; have c5b0 : decide (x13_1 < (l0_0.length : Int)) = true := decide_eq_true c5; clear c5
    by_cases c6 : 0 ≤ x13_1
    ·
     rw [if_pos c6] at H; have c6b0 : decide (0 ≤ x13_1) = true := decide_eq_true c6; clear c6
     by_cases c7 : x13_1 < (l0_0.length : Int)
     ·
      rw [if_pos c7] at H; have c7b0 : decide (x13_1 < (l0_0.length : Int)) = true := decide_eq_true c7; clear c7; have H' := Aside0.mk H; clear H; have p218 : 0 ≤ (x13_1 : Int) := of_decide_eq_true (by first | (with_reducible assumption) | assumption); have q218 : x13_1 < (l0_0.length : Int) := of_decide_eq_true (by first | (with_reducible assumption) | assumption); obtain ⟨ad218, A218_3, c218_3, A218_4, c218_4, e218, hx218_0, hx218_1, hx218_2, hx218_3, hx218_4, hl218_3, hi218_3, hl218_4, hi218_4⟩ := at_T28 HR0_0.out x13_1 p218 q218
      cases e218
      replace hx218_0 := (HB.out.cell (World.block_lt_of_cell? w _ hx218_0)).trans hx218_0; replace hx218_1 := (HB.out.cell (World.block_lt_of_cell? w _ hx218_1)).trans hx218_1; replace hx218_2 := (HB.out.cell (World.block_lt_of_cell? w _ hx218_2)).trans hx218_2; replace hx218_3 := (HB.out.cell (World.block_lt_of_cell? w _ hx218_3)).trans hx218_3; replace hx218_4 := (HB.out.cell (World.block_lt_of_cell? w _ hx218_4)).trans hx218_4; have HR218_3 := Aside0.mk hi218_3; have HC218_3 := Aside0.mk hl218_3; clear hi218_3 hl218_3; have HR218_4 := Aside0.mk hi218_4; have HC218_4 := Aside0.mk hl218_4; clear hi218_4 hl218_4; replace p218 := eq_true p218; replace q218 := eq_true q218
      go_wp2_with (first | ((with_reducible refine gate_dst (N := 7) rfl ?_); refine box_event ?hg (N := 7) ?hd (cs := #[.int .i64 0, .int .i64 0, .int .i64 0, .slice none 0 0, .slice none 0 0]) (t := 28) ?hr ?_; (case hd => rfl); (case hg => rfl); (case hr => first | (go_simp; done) | (go_simp; rfl)); intro gb219 hg w8 hbox hb; have n0_ := Aside0.mk (bB (g := gb217) (o := .cells #[.slice (some ad218) l0_0.length c0_0] 24 (0, 0)) (by (with_reducible repeat (first | refine bN ?_ _ | refine bD ?_ | refine bA ?_ _)); exact BK217.out) hb); have n1_ := Aside0.mk (below_step (by repeat (first | (with_reducible first | exact HB.out | apply wA | apply wN | apply wD | refine wS ?_ GE217.out) | exact HB.out)) hb); have n2_ := Aside0.mk (hbox); have n3_ := Aside0.mk ((by rw [hg]; exact (below_size (by repeat (first | (with_reducible first | exact HB.out | apply wA | apply wN | apply wD | refine wS ?_ GE217.out) | exact HB.out))) : w.heap.size ≤ gb219)); have n4_ := Aside0.mk ((by rw [hg]; exact (below_size (by repeat (first | (with_reducible first | exact HB.out | apply wA | apply wN | apply wD | refine wS ?_ GE217.out) | exact HB.out))) : w.heap.size ≤ gb219)); have n5_ := Aside0.mk ((by rw [hg]; exact Nat.ne_of_lt (blk_lt (g := gb217) (o := .cells #[.slice (some ad218) l0_0.length c0_0] 24 (0, 0)) (by (with_reducible repeat (first | refine bN ?_ _ | refine bD ?_ | refine bA ?_ _)); exact BK217.out)) : gb217 ≠ gb219)); have n6_ := Aside0.mk ((by rw [hg]; exact Nat.ne_of_gt (blk_lt (g := gb217) (o := .cells #[.slice (some ad218) l0_0.length c0_0] 24 (0, 0)) (by (with_reducible repeat (first | refine bN ?_ _ | refine bD ?_ | refine bA ?_ _)); exact BK217.out)) : gb219 ≠ gb217)); clear BK217; clear HB; have BK217 := n0_; have HB := n1_; have BK219 := n2_; have GW219 := n3_; have GE219 := n4_; have NB217_219 := n5_; have NB219_217 := n6_; clear n0_ n1_ n2_ n3_ n4_ n5_ n6_; clear hb hbox hg; have hnb9 := NB219_217.out; have hnc9 := NB217_219.out; have hcz10_0 : w8.cell? ⟨gb219, 0, none⟩ = some (.int .i64 0) := (bC BK219.out 0).trans rfl; have hcz10_1 : w8.cell? ⟨gb219, 1, none⟩ = some (.int .i64 0) := (bC BK219.out 1).trans rfl; have hcz10_2 : w8.cell? ⟨gb219, 2, none⟩ = some (.int .i64 0) := (bC BK219.out 2).trans rfl; have hcz10_3 : w8.cell? ⟨gb219, 3, none⟩ = some (.slice none 0 0) := (bC BK219.out 3).trans rfl; have hcz10_4 : w8.cell? ⟨gb219, 4, none⟩ = some (.slice none 0 0) := (bC BK219.out 4).trans rfl; have hfz10_0 := bZ BK219.out 0; have hfz10_1 := bZ BK219.out 1; have hfz10_2 := bZ BK219.out 2; have hfz10_3 := bZ BK219.out 3; have hfz10_4 := bZ BK219.out 4))
      go_loopg [5, 20] k1 (fun kq v5 v20 w' => ∃ (x5_2 : Int) (x20_2 : Int), v5 = .int .i64 x5_2 ∧ v20 = .int .i64 x20_2 ∧ Aside0 (potsherdref12_Named.l1 kq a1 x5_2 l0_0 (l0_0.length : Int) x13_1 ((rd_T28 l0_0 x13_1).f4) (((rd_T28 l0_0 x13_1).f4).length : Int) x20_2 = some r) ∧ Aside0 (kq ≤ k1) ∧ Aside0 (w'.heap[gb217]? = some (.cells #[(.slice (some ad218) l0_0.length c0_0)] 24 (0, 0))) ∧ Aside0 (w'.heap[gb219]? = some (.cells #[.int .i64 ((rd_T28 l0_0 x13_1).f0), .int .i64 ((rd_T28 l0_0 x13_1).f1), .int .i64 ((rd_T28 l0_0 x13_1).f2), (.slice A218_3 ((rd_T28 l0_0 x13_1).f3).length c218_3), (.slice A218_4 ((rd_T28 l0_0 x13_1).f4).length c218_4)] 28 (0, 0))) ∧ Aside0 (Below w.heap.size w w'))
      case atStart => exact ⟨(x5_1), (0), (by first | rfl | (simp; done) | (simp [*]; done)), (by first | rfl | (simp; done) | (simp [*]; done)), H', ⟨Nat.le_refl _⟩, ⟨by (with_reducible repeat (first | refine bN ?_ _ | refine bD ?_ | refine bA ?_ _)); refine bF ?_ NB217_219.out _; (with_reducible repeat (first | refine bN ?_ _ | refine bD ?_ | refine bA ?_ _)); refine bF ?_ NB217_219.out _; (with_reducible repeat (first | refine bN ?_ _ | refine bD ?_ | refine bA ?_ _)); refine bF ?_ NB217_219.out _; (with_reducible repeat (first | refine bN ?_ _ | refine bD ?_ | refine bA ?_ _)); refine bF ?_ NB217_219.out _; (with_reducible repeat (first | refine bN ?_ _ | refine bD ?_ | refine bA ?_ _)); refine bF ?_ NB217_219.out _; (with_reducible repeat (first | refine bN ?_ _ | refine bD ?_ | refine bA ?_ _)); exact BK217.out⟩, ⟨by (with_reducible repeat (first | refine bN ?_ _ | refine bD ?_ | refine bA ?_ _)); refine blk_put (cs := #[.int .i64 ((rd_T28 l0_0 x13_1).f0), .int .i64 ((rd_T28 l0_0 x13_1).f1), .int .i64 ((rd_T28 l0_0 x13_1).f2), .slice A218_3 ((rd_T28 l0_0 x13_1).f3).length c218_3, .slice none 0 0]) ?_ 4 _ rfl; (with_reducible repeat (first | refine bN ?_ _ | refine bD ?_ | refine bA ?_ _)); refine blk_put (cs := #[.int .i64 ((rd_T28 l0_0 x13_1).f0), .int .i64 ((rd_T28 l0_0 x13_1).f1), .int .i64 ((rd_T28 l0_0 x13_1).f2), .slice none 0 0, .slice none 0 0]) ?_ 3 _ rfl; (with_reducible repeat (first | refine bN ?_ _ | refine bD ?_ | refine bA ?_ _)); refine blk_put (cs := #[.int .i64 ((rd_T28 l0_0 x13_1).f0), .int .i64 ((rd_T28 l0_0 x13_1).f1), .int .i64 0, .slice none 0 0, .slice none 0 0]) ?_ 2 _ rfl; (with_reducible repeat (first | refine bN ?_ _ | refine bD ?_ | refine bA ?_ _)); refine blk_put (cs := #[.int .i64 ((rd_T28 l0_0 x13_1).f0), .int .i64 0, .int .i64 0, .slice none 0 0, .slice none 0 0]) ?_ 1 _ rfl; (with_reducible repeat (first | refine bN ?_ _ | refine bD ?_ | refine bA ?_ _)); refine blk_put (cs := #[.int .i64 0, .int .i64 0, .int .i64 0, .slice none 0 0, .slice none 0 0]) ?_ 0 _ rfl; (with_reducible repeat (first | refine bN ?_ _ | refine bD ?_ | refine bA ?_ _)); exact BK219.out⟩, ⟨by repeat (first | (with_reducible first | exact HB.out | apply wA | apply wN | apply wD | refine wS ?_ GE217.out | refine wS ?_ GE219.out) | exact HB.out)⟩⟩
      case round =>
       clear H'
       try clear c2
       try clear p2
       try clear q2
       try clear hx2
       try clear c5
       try clear c5b0
       try clear c6
       try clear c6b0
       try clear c7
       try clear c7b0
       try clear c9
       try clear hcz10_0
       try clear hcz10_1
       try clear hcz10_2
       try clear hcz10_3
       try clear hcz10_4
       try clear hcz4_0
       try clear hfz10_0
       try clear hfz10_1
       try clear hfz10_2
       try clear hfz10_3
       try clear hfz10_4
       try clear hfz4_0
       try clear hx218_0
       try clear hx218_1
       try clear hx218_2
       try clear hx218_3
       try clear hx218_4
       try clear p2
       try clear p218
       try clear q218
       obtain ⟨x5_2, x20_2, rfl, rfl, HA, HK2, BK217, BK219, HB⟩ := hrel
       cases gk with
       | zero => exact absurd HA.out (by simp [potsherdref12_Named.l1])
       | succ k2 =>
        have H := HA.out; clear HA; simp only [potsherdref12_Named.l1] at H
        by_cases c11 : x20_2 < (((rd_T28 l0_0 x13_1).f4).length : Int)
        ·
         rw [if_pos c11] at H; have c11b0 : decide (x20_2 < (((rd_T28 l0_0 x13_1).f4).length : Int)) = true := decide_eq_true c11; clear c11
         by_cases c12 : 0 ≤ x20_2
         ·
          rw [if_pos c12] at H; have c12b0 : decide (0 ≤ x20_2) = true := decide_eq_true c12; clear c12
          by_cases c13 : x20_2 < (((rd_T28 l0_0 x13_1).f4).length : Int)
          ·
           rw [if_pos c13] at H; have c13b0 : decide (x20_2 < (((rd_T28 l0_0 x13_1).f4).length : Int)) = true := decide_eq_true c13; clear c13
           by_cases c14 : ((rd_T78 ((rd_T28 l0_0 x13_1).f4) x20_2).f1) = a1
           ·
            rw [if_pos c14] at H; have c14b0 : (((rd_T78 ((rd_T28 l0_0 x13_1).f4) x20_2).f1) == a1) = true := beq_iff_eq.mpr c14; have c14b1 : (((rd_T78 ((rd_T28 l0_0 x13_1).f4) x20_2).f1) != a1) = false := bne_eq_false_iff_eq.mpr c14; clear c14; have H' := Aside0.mk H; clear H; have p220 : 0 ≤ (x20_2 : Int) := of_decide_eq_true (by first | (with_reducible assumption) | assumption); have q220 : x20_2 < (((rd_T28 l0_0 x13_1).f4).length : Int) := of_decide_eq_true (by first | (with_reducible assumption) | assumption); obtain ⟨ad220, e220, hx220_0, hx220_1⟩ := at_T78 HR218_4.out x20_2 p220 q220
            cases e220
            replace hx220_0 := (HB.out.cell (World.block_lt_of_cell? w _ hx220_0)).trans hx220_0; replace hx220_1 := (HB.out.cell (World.block_lt_of_cell? w _ hx220_1)).trans hx220_1; replace p220 := eq_true p220; replace q220 := eq_true q220
            go_wp2_with (first | ((with_reducible refine gate_dst (N := 9) rfl ?_); refine box_event ?hg (N := 9) ?hd (cs := #[.string (⟨#[]⟩ : ByteArray), .int .i64 0]) (t := 78) ?hr ?_; (case hd => rfl); (case hg => rfl); (case hr => first | (go_simp; done) | (go_simp; rfl)); intro gb221 hg w15 hbox hb; have n0_ := Aside0.mk (bB (g := gb217) (o := .cells #[.slice (some ad218) l0_0.length c0_0] 24 (0, 0)) (by (with_reducible repeat (first | refine bN ?_ _ | refine bD ?_ | refine bA ?_ _)); exact BK217.out) hb); have n1_ := Aside0.mk (bB (g := gb219) (o := .cells #[.int .i64 ((rd_T28 l0_0 x13_1).f0), .int .i64 ((rd_T28 l0_0 x13_1).f1), .int .i64 ((rd_T28 l0_0 x13_1).f2), .slice A218_3 ((rd_T28 l0_0 x13_1).f3).length c218_3, .slice (some ad220) ((rd_T28 l0_0 x13_1).f4).length c218_4] 28 (0, 0)) (by (with_reducible repeat (first | refine bN ?_ _ | refine bD ?_ | refine bA ?_ _)); exact BK219.out) hb); have n2_ := Aside0.mk (below_step (by repeat (first | (with_reducible first | exact HB.out | apply wA | apply wN | apply wD | refine wS ?_ GE217.out | refine wS ?_ GE219.out) | exact HB.out)) hb); have n3_ := Aside0.mk (hbox); have n4_ := Aside0.mk ((by rw [hg]; exact (below_size (by repeat (first | (with_reducible first | exact HB.out | apply wA | apply wN | apply wD | refine wS ?_ GE217.out | refine wS ?_ GE219.out) | exact HB.out))) : w.heap.size ≤ gb221)); have n5_ := Aside0.mk ((by rw [hg]; exact (below_size (by repeat (first | (with_reducible first | exact HB.out | apply wA | apply wN | apply wD | refine wS ?_ GE217.out | refine wS ?_ GE219.out) | exact HB.out))) : w.heap.size ≤ gb221)); have n6_ := Aside0.mk ((by rw [hg]; exact Nat.ne_of_lt (blk_lt (g := gb217) (o := .cells #[.slice (some ad218) l0_0.length c0_0] 24 (0, 0)) (by (with_reducible repeat (first | refine bN ?_ _ | refine bD ?_ | refine bA ?_ _)); exact BK217.out)) : gb217 ≠ gb221)); have n7_ := Aside0.mk ((by rw [hg]; exact Nat.ne_of_gt (blk_lt (g := gb217) (o := .cells #[.slice (some ad218) l0_0.length c0_0] 24 (0, 0)) (by (with_reducible repeat (first | refine bN ?_ _ | refine bD ?_ | refine bA ?_ _)); exact BK217.out)) : gb221 ≠ gb217)); have n8_ := Aside0.mk ((by rw [hg]; exact Nat.ne_of_lt (blk_lt (g := gb219) (o := .cells #[.int .i64 ((rd_T28 l0_0 x13_1).f0), .int .i64 ((rd_T28 l0_0 x13_1).f1), .int .i64 ((rd_T28 l0_0 x13_1).f2), .slice A218_3 ((rd_T28 l0_0 x13_1).f3).length c218_3, .slice (some ad220) ((rd_T28 l0_0 x13_1).f4).length c218_4] 28 (0, 0)) (by (with_reducible repeat (first | refine bN ?_ _ | refine bD ?_ | refine bA ?_ _)); exact BK219.out)) : gb219 ≠ gb221)); have n9_ := Aside0.mk ((by rw [hg]; exact Nat.ne_of_gt (blk_lt (g := gb219) (o := .cells #[.int .i64 ((rd_T28 l0_0 x13_1).f0), .int .i64 ((rd_T28 l0_0 x13_1).f1), .int .i64 ((rd_T28 l0_0 x13_1).f2), .slice A218_3 ((rd_T28 l0_0 x13_1).f3).length c218_3, .slice (some ad220) ((rd_T28 l0_0 x13_1).f4).length c218_4] 28 (0, 0)) (by (with_reducible repeat (first | refine bN ?_ _ | refine bD ?_ | refine bA ?_ _)); exact BK219.out)) : gb221 ≠ gb219)); clear BK217; clear BK219; clear HB; have BK217 := n0_; have BK219 := n1_; have HB := n2_; have BK221 := n3_; have GW221 := n4_; have GE221 := n5_; have NB217_221 := n6_; have NB221_217 := n7_; have NB219_221 := n8_; have NB221_219 := n9_; clear n0_ n1_ n2_ n3_ n4_ n5_ n6_ n7_ n8_ n9_; clear hb hbox hg; have hnb16 := NB221_217.out; have hnc16 := NB217_221.out; have hnb17 := NB221_219.out; have hnc17 := NB219_221.out; have hcz18_0 : w15.cell? ⟨gb221, 0, none⟩ = some (.string (⟨#[]⟩ : ByteArray)) := (bC BK221.out 0).trans rfl; have hcz18_1 : w15.cell? ⟨gb221, 1, none⟩ = some (.int .i64 0) := (bC BK221.out 1).trans rfl; have hfz18_0 := bZ BK221.out 0; have hfz18_1 := bZ BK221.out 1))
            go_roundg k2
            case measure => have := HK1.out; have := HK2.out; omega
            case rel => exact ⟨(wrap64 (x5_2 + 1)), (wrap64 (x20_2 + 1)), (by first | rfl | (simp; done) | (simp [*]; done)), (by first | rfl | (simp; done) | (simp [*]; done)), H', ⟨by have := HK1.out; have := HK2.out; omega⟩, ⟨by (with_reducible repeat (first | refine bN ?_ _ | refine bD ?_ | refine bA ?_ _)); refine bF ?_ NB217_221.out _; (with_reducible repeat (first | refine bN ?_ _ | refine bD ?_ | refine bA ?_ _)); refine bF ?_ NB217_221.out _; (with_reducible repeat (first | refine bN ?_ _ | refine bD ?_ | refine bA ?_ _)); exact BK217.out⟩, ⟨by (with_reducible repeat (first | refine bN ?_ _ | refine bD ?_ | refine bA ?_ _)); refine bF ?_ NB219_221.out _; (with_reducible repeat (first | refine bN ?_ _ | refine bD ?_ | refine bA ?_ _)); refine bF ?_ NB219_221.out _; (with_reducible repeat (first | refine bN ?_ _ | refine bD ?_ | refine bA ?_ _)); exact BK219.out⟩, ⟨by repeat (first | (with_reducible first | exact HB.out | apply wA | apply wN | apply wD | refine wS ?_ GE217.out | refine wS ?_ GE219.out | refine wS ?_ GE221.out) | exact HB.out)⟩⟩
           ·
            rw [if_neg c14] at H; have c14b0 : (((rd_T78 ((rd_T28 l0_0 x13_1).f4) x20_2).f1) == a1) = false := beq_eq_false_iff_ne.mpr c14; have c14b1 : (((rd_T78 ((rd_T28 l0_0 x13_1).f4) x20_2).f1) != a1) = true := bne_iff_ne.mpr c14; have H' := Aside0.mk H; clear H; have p220 : 0 ≤ (x20_2 : Int) := of_decide_eq_true (by first | (with_reducible assumption) | assumption); have q220 : x20_2 < (((rd_T28 l0_0 x13_1).f4).length : Int) := of_decide_eq_true (by first | (with_reducible assumption) | assumption); obtain ⟨ad220, e220, hx220_0, hx220_1⟩ := at_T78 HR218_4.out x20_2 p220 q220
            cases e220
            replace hx220_0 := (HB.out.cell (World.block_lt_of_cell? w _ hx220_0)).trans hx220_0; replace hx220_1 := (HB.out.cell (World.block_lt_of_cell? w _ hx220_1)).trans hx220_1; replace p220 := eq_true p220; replace q220 := eq_true q220
            go_wp2_with (first | ((with_reducible refine gate_dst (N := 9) rfl ?_); refine box_event ?hg (N := 9) ?hd (cs := #[.string (⟨#[]⟩ : ByteArray), .int .i64 0]) (t := 78) ?hr ?_; (case hd => rfl); (case hg => rfl); (case hr => first | (go_simp; done) | (go_simp; rfl)); intro gb221 hg w19 hbox hb; have n0_ := Aside0.mk (bB (g := gb217) (o := .cells #[.slice (some ad218) l0_0.length c0_0] 24 (0, 0)) (by (with_reducible repeat (first | refine bN ?_ _ | refine bD ?_ | refine bA ?_ _)); exact BK217.out) hb); have n1_ := Aside0.mk (bB (g := gb219) (o := .cells #[.int .i64 ((rd_T28 l0_0 x13_1).f0), .int .i64 ((rd_T28 l0_0 x13_1).f1), .int .i64 ((rd_T28 l0_0 x13_1).f2), .slice A218_3 ((rd_T28 l0_0 x13_1).f3).length c218_3, .slice (some ad220) ((rd_T28 l0_0 x13_1).f4).length c218_4] 28 (0, 0)) (by (with_reducible repeat (first | refine bN ?_ _ | refine bD ?_ | refine bA ?_ _)); exact BK219.out) hb); have n2_ := Aside0.mk (below_step (by repeat (first | (with_reducible first | exact HB.out | apply wA | apply wN | apply wD | refine wS ?_ GE217.out | refine wS ?_ GE219.out) | exact HB.out)) hb); have n3_ := Aside0.mk (hbox); have n4_ := Aside0.mk ((by rw [hg]; exact (below_size (by repeat (first | (with_reducible first | exact HB.out | apply wA | apply wN | apply wD | refine wS ?_ GE217.out | refine wS ?_ GE219.out) | exact HB.out))) : w.heap.size ≤ gb221)); have n5_ := Aside0.mk ((by rw [hg]; exact (below_size (by repeat (first | (with_reducible first | exact HB.out | apply wA | apply wN | apply wD | refine wS ?_ GE217.out | refine wS ?_ GE219.out) | exact HB.out))) : w.heap.size ≤ gb221)); have n6_ := Aside0.mk ((by rw [hg]; exact Nat.ne_of_lt (blk_lt (g := gb217) (o := .cells #[.slice (some ad218) l0_0.length c0_0] 24 (0, 0)) (by (with_reducible repeat (first | refine bN ?_ _ | refine bD ?_ | refine bA ?_ _)); exact BK217.out)) : gb217 ≠ gb221)); have n7_ := Aside0.mk ((by rw [hg]; exact Nat.ne_of_gt (blk_lt (g := gb217) (o := .cells #[.slice (some ad218) l0_0.length c0_0] 24 (0, 0)) (by (with_reducible repeat (first | refine bN ?_ _ | refine bD ?_ | refine bA ?_ _)); exact BK217.out)) : gb221 ≠ gb217)); have n8_ := Aside0.mk ((by rw [hg]; exact Nat.ne_of_lt (blk_lt (g := gb219) (o := .cells #[.int .i64 ((rd_T28 l0_0 x13_1).f0), .int .i64 ((rd_T28 l0_0 x13_1).f1), .int .i64 ((rd_T28 l0_0 x13_1).f2), .slice A218_3 ((rd_T28 l0_0 x13_1).f3).length c218_3, .slice (some ad220) ((rd_T28 l0_0 x13_1).f4).length c218_4] 28 (0, 0)) (by (with_reducible repeat (first | refine bN ?_ _ | refine bD ?_ | refine bA ?_ _)); exact BK219.out)) : gb219 ≠ gb221)); have n9_ := Aside0.mk ((by rw [hg]; exact Nat.ne_of_gt (blk_lt (g := gb219) (o := .cells #[.int .i64 ((rd_T28 l0_0 x13_1).f0), .int .i64 ((rd_T28 l0_0 x13_1).f1), .int .i64 ((rd_T28 l0_0 x13_1).f2), .slice A218_3 ((rd_T28 l0_0 x13_1).f3).length c218_3, .slice (some ad220) ((rd_T28 l0_0 x13_1).f4).length c218_4] 28 (0, 0)) (by (with_reducible repeat (first | refine bN ?_ _ | refine bD ?_ | refine bA ?_ _)); exact BK219.out)) : gb221 ≠ gb219)); clear BK217; clear BK219; clear HB; have BK217 := n0_; have BK219 := n1_; have HB := n2_; have BK221 := n3_; have GW221 := n4_; have GE221 := n5_; have NB217_221 := n6_; have NB221_217 := n7_; have NB219_221 := n8_; have NB221_219 := n9_; clear n0_ n1_ n2_ n3_ n4_ n5_ n6_ n7_ n8_ n9_; clear hb hbox hg; have hnb20 := NB221_217.out; have hnc20 := NB217_221.out; have hnb21 := NB221_219.out; have hnc21 := NB219_221.out; have hcz22_0 : w19.cell? ⟨gb221, 0, none⟩ = some (.string (⟨#[]⟩ : ByteArray)) := (bC BK221.out 0).trans rfl; have hcz22_1 : w19.cell? ⟨gb221, 1, none⟩ = some (.int .i64 0) := (bC BK221.out 1).trans rfl; have hfz22_0 := bZ BK221.out 0; have hfz22_1 := bZ BK221.out 1))
            go_roundg k2
            case measure => have := HK1.out; have := HK2.out; omega
            case rel => exact ⟨(x5_2), (wrap64 (x20_2 + 1)), (by first | rfl | (simp; done) | (simp [*]; done)), (by first | rfl | (simp; done) | (simp [*]; done)), H', ⟨by have := HK1.out; have := HK2.out; omega⟩, ⟨by (with_reducible repeat (first | refine bN ?_ _ | refine bD ?_ | refine bA ?_ _)); refine bF ?_ NB217_221.out _; (with_reducible repeat (first | refine bN ?_ _ | refine bD ?_ | refine bA ?_ _)); refine bF ?_ NB217_221.out _; (with_reducible repeat (first | refine bN ?_ _ | refine bD ?_ | refine bA ?_ _)); exact BK217.out⟩, ⟨by (with_reducible repeat (first | refine bN ?_ _ | refine bD ?_ | refine bA ?_ _)); refine bF ?_ NB219_221.out _; (with_reducible repeat (first | refine bN ?_ _ | refine bD ?_ | refine bA ?_ _)); refine bF ?_ NB219_221.out _; (with_reducible repeat (first | refine bN ?_ _ | refine bD ?_ | refine bA ?_ _)); exact BK219.out⟩, ⟨by repeat (first | (with_reducible first | exact HB.out | apply wA | apply wN | apply wD | refine wS ?_ GE217.out | refine wS ?_ GE219.out | refine wS ?_ GE221.out) | exact HB.out)⟩⟩
          ·
           rw [if_neg c13] at H; exact absurd H (by simp)
         ·
          rw [if_neg c12] at H; exact absurd H (by simp)
        ·
         rw [if_neg c11] at H; have c11b0 : decide (x20_2 < (((rd_T28 l0_0 x13_1).f4).length : Int)) = false := decide_eq_false c11; clear c11; have H' := Aside0.mk H; clear H
         go_wp2
         go_roundg k2
         case measure => have := HK1.out; have := HK2.out; omega
         case rel => exact ⟨(x5_2), (wrap64 (x13_1 + 1)), (by first | rfl | (simp; done) | (simp [*]; done)), (by first | rfl | (simp; done) | (simp [*]; done)), H', ⟨by have := HK1.out; have := HK2.out; omega⟩, ⟨by (with_reducible repeat (first | refine bN ?_ _ | refine bD ?_ | refine bA ?_ _)); exact BK217.out⟩, ⟨by repeat (first | (with_reducible first | exact HB.out | apply wA | apply wN | apply wD | refine wS ?_ GE217.out | refine wS ?_ GE219.out) | exact HB.out)⟩⟩
     ·
      rw [if_neg c7] at H; exact absurd H (by simp)
    ·
     rw [if_neg c6] at H; exact absurd H (by simp)
   ·
    rw [if_neg c5] at H; have c5b0 : decide (x13_1 < (l0_0.length : Int)) = false := decide_eq_false c5; clear c5; obtain rfl := Option.some.inj H
    go_wp2
    go_ret
    exact ⟨by first | rfl | exact congrArg (fun b_ => Ending.returned (Value.bool b_)) HRET.out | (rw [HRET.out]) | (simp [errW_none, errW_some] <;> rfl) | (simp [*, errW_none, errW_some] <;> rfl), by repeat (first | (with_reducible first | exact HB.out | apply wA | apply wN | apply wD | refine wS ?_ GE217.out) | exact HB.out)⟩
end Go.Proofs.Ytkigiehkckjlhaa.PSums
