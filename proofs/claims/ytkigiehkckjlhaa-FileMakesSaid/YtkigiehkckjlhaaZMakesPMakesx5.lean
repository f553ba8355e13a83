/- The Go functions that these laws reach, each as a Lean function with the same answers (a law itself where it answers true), and the proof that the code comes to them; conditions: those of each theorem. Laid by a program of this session over the print. -/
import Derived.Test.YtkigiehkckjlhaaZMakesPMakesx0
namespace Go.Proofs.Ytkigiehkckjlhaa.PMakes
open Go.RowKit Go.Proofs.YtkigiehkckjlhaaW.PrintWords Go.Proofs.YtkigiehkckjlhaaW.PrintLast Go.Proofs.YtkigiehkckjlhaaW.PrintMore
attribute [local go_sem] max2_int min2_int max_two min_two max_three min_three max_four min_four   -- for this text's walks alone
set_option linter.unusedVariables false
set_option linter.unusedSimpArgs false
open Go.Proofs.YtkigiehkckjlhaaW.PrintWords renaming blk_drewN → bN, blk_drew → bD, blk_alloc → bA, below_set → wS, below_alloc → wA, pw_below_drewN → wN, below_drew1 → wD, blk_below → bB, blk_far → bF, blk_cell → bC, blk_frozen → bZ
open List renaming setIfInBounds_toArray → lT, set_cons_zero → l0_, set_cons_succ → lS
mutual
def dir_names.l0 : Nat → List Int → List (S28) → Int → Int → Option (List Int)
 | 0, _, _, _, _ => none
 | k + 1, x3, x13, x14, x15 => if x15 < x14 then (if 0 ≤ x15 then (if x15 < (x13.length : Int) then (dir_names.l1 k x3 x13 x14 x15 ((rd_T28 x13 x15).f4) (((rd_T28 x13 x15).f4).length : Int) 0) else (none)) else (none)) else (some x3)
def dir_names.l1 : Nat → List Int → List (S28) → Int → Int → List (S78) → Int → Int → Option (List Int)
 | 0, _, _, _, _, _, _, _ => none
 | k + 1, x3, x13, x14, x15, x20, x21, x22 => if x22 < x21 then (if 0 ≤ x22 then (if x22 < (x20.length : Int) then (if ((rd_T78 x20 x22).f1) ≥ 0 then (if ((rd_T78 x20 x22).f1) < (x3.length : Int) then (if 0 ≤ ((rd_T78 x20 x22).f1) then (dir_names.l1 k (x3.set (((rd_T78 x20 x22).f1) : Int).toNat (wrap64 ((rd x3 ((rd_T78 x20 x22).f1)) + 1))) x13 x14 x15 x20 x21 (wrap64 (x22 + 1))) else (none)) else (none)) else (none)) else (none)) else (none)) else (dir_names.l0 k x3 x13 x14 (wrap64 (x15 + 1)))
end
def dir_names.f (k : Nat) (l0_0 : List (S28)) : Option (List Int) := if 0 ≤ (l0_0.length : Int) then (if ((l0_0.length : Int) : Int).toNat ≤ 35184372088832 then (dir_names.l0 k (List.replicate ((l0_0.length : Int) : Int).toNat 0) l0_0 (l0_0.length : Int) 0) else (none)) else (none)
theorem dir_names.mono_l : ∀ k, (∀ y0 y1 y2 y3, LeO (dir_names.l0 k y0 y1 y2 y3) (dir_names.l0 (k + 1) y0 y1 y2 y3)) ∧ (∀ y0 y1 y2 y3 y4 y5 y6, LeO (dir_names.l1 k y0 y1 y2 y3 y4 y5 y6) (dir_names.l1 (k + 1) y0 y1 y2 y3 y4 y5 y6))
 | 0 => ⟨fun _ _ _ _ r h => by simp [dir_names.l0] at h, fun _ _ _ _ _ _ _ r h => by simp [dir_names.l1] at h⟩
 | k + 1 => by
  obtain ⟨ih0, ih1⟩ := dir_names.mono_l k; refine ⟨?_, ?_⟩
  ·
   intro y0 y1 y2 y3
   unfold dir_names.l0
   repeat' first
   | (with_reducible exact ih0 _ _ _ _)
   | (with_reducible exact ih1 _ _ _ _ _ _ _)
   | (with_reducible exact LeO.refl _)
   | (with_reducible exact LeO.none _)
   | (with_reducible refine LeO.ite ?_ ?_)
   | (with_reducible refine LeO.bind ?_ (fun _ => ?_))
   | exact ih0 _ _ _ _
   | exact ih1 _ _ _ _ _ _ _
   | exact LeO.none _
   | refine LeO.ite ?_ ?_
   | refine LeO.bind ?_ (fun _ => ?_)
  ·
   intro y0 y1 y2 y3 y4 y5 y6
   unfold dir_names.l1
   repeat' first
   | (with_reducible exact ih0 _ _ _ _)
   | (with_reducible exact ih1 _ _ _ _ _ _ _)
   | (with_reducible exact LeO.refl _)
   | (with_reducible exact LeO.none _)
   | (with_reducible refine LeO.ite ?_ ?_)
   | (with_reducible refine LeO.bind ?_ (fun _ => ?_))
   | exact ih0 _ _ _ _
   | exact ih1 _ _ _ _ _ _ _
   | exact LeO.none _
   | refine LeO.ite ?_ ?_
   | refine LeO.bind ?_ (fun _ => ?_)
theorem dir_names.mono : ∀ a0 k, LeO (dir_names.f k a0) (dir_names.f (k + 1) a0) := by
 intro a0 k; obtain ⟨ih0, ih1⟩ := dir_names.mono_l k
 unfold dir_names.f
 repeat' first
  | (with_reducible exact ih0 _ _ _ _)
  | (with_reducible exact ih1 _ _ _ _ _ _ _)
  | (with_reducible exact LeO.refl _)
  | (with_reducible exact LeO.none _)
  | (with_reducible refine LeO.ite ?_ ?_)
  | (with_reducible refine LeO.bind ?_ (fun _ => ?_))
  | exact ih0 _ _ _ _
  | exact ih1 _ _ _ _ _ _ _
  | exact LeO.none _
  | refine LeO.ite ?_ ?_
  | refine LeO.bind ?_ (fun _ => ?_)
set_option maxHeartbeats 8000000 in
set_option maxRecDepth 100000 in
theorem dir_names.calls (k : Nat) (A0_0 : Option Addr) (c0_0 : Nat) (l0_0 : List (S28)) (r : List Int) (w : World) (hr0_0 : Kd.C k28 w A0_0 l0_0.length l0_0) (hc0_0 : l0_0.length ≤ c0_0) (h : dir_names.f k l0_0 = some r) :
 Calls Try.prog 72 #[.agg #[.slice A0_0 l0_0.length c0_0]] w fun e w' => ∃ v0_ : Value, e = .returned (v0_) ∧ Kd.R (Kd.int .i64) 3 w' w.heap.size (fun _ => True) v0_ r ∧ Below w.heap.size w w' := by
 have hu24 := Try.underlying24; have hu28 := Try.underlying28; have hu78 := Try.underlying78; have HR0_0 := Aside0.mk hr0_0; have HC0_0 := Aside0.mk hc0_0; clear hr0_0 hc0_0; have HB := Aside0.mk (Below.refl w.heap.size w); have H : (if 0 ≤ (l0_0.length : Int) then (if ((l0_0.length : Int) : Int).toNat ≤ 35184372088832 then (dir_names.l0 k (List.replicate ((l0_0.length : Int) : Int).toNat 0) l0_0 (l0_0.length : Int) 0) else (none)) else (none)) = some r := h; clear h
 by_cases c2 : 0 ≤ (l0_0.length : Int)
 ·
  rw [if_pos c2] at H; have c2b0 := eq_true c2; have c2b1 : decide (0 ≤ (l0_0.length : Int)) = true := decide_eq_true c2; clear c2
  by_cases c3 : ((l0_0.length : Int) : Int).toNat ≤ 35184372088832
  ·
   rw [if_pos c3] at H; have c3b0 := eq_true c3; have c3b1 : decide (((l0_0.length : Int) : Int).toNat ≤ 35184372088832) = true := decide_eq_true c3; clear c3; obtain ⟨y144, hy144⟩ : ∃ y_ : List Int, y_ = (List.replicate ((l0_0.length : Int) : Int).toNat 0) := ⟨_, rfl⟩
   replace H : (dir_names.l0 k y144 l0_0 (l0_0.length : Int) 0) = some r := by first | (rw [hy144]; with_reducible exact H) | (have H2_ := (Option.bind_some _ _).symm.trans H; rw [hy144]; with_reducible exact H2_) | (have H2_ := (Option.bind_some _ _).symm.trans H; with_reducible exact H2_) | with_reducible exact H | (rw [hy144]; exact H) | exact H
   have Ny144 := Aside0.mk hy144; clear hy144; have H' := Aside0.mk H; clear H
   go_enter Try.func72, Try.ntmps72
   go_wp2_with (first | ((with_reducible refine gate_dst (N := 1) rfl ?_); (try (refine gate_guard (by rfl) ?_; dsimp only)); refine box_event ?hg (N := 1) ?hd (cs := #[.slice A0_0 l0_0.length c0_0]) (t := 24) ?hr ?_; (case hd => rfl); (case hg => rfl); (case hr => first | (go_simp; done) | (go_simp; rfl)); intro gb143 hg w4 hbox hb; have n0_ := Aside0.mk (below_step (by repeat (first | (with_reducible first | exact HB.out | apply wA | apply wN | apply wD) | exact HB.out)) hb); have n1_ := Aside0.mk (hbox); have n2_ := Aside0.mk ((by rw [hg]; exact (below_size (by repeat (first | (with_reducible first | exact HB.out | apply wA | apply wN | apply wD) | exact HB.out))) : w.heap.size ≤ gb143)); have n3_ := Aside0.mk ((by rw [hg]; exact (below_size (by repeat (first | (with_reducible first | exact HB.out | apply wA | apply wN | apply wD) | exact HB.out))) : w.heap.size ≤ gb143)); clear HB; have HB := n0_; have BK143 := n1_; have GW143 := n2_; have GE143 := n3_; clear n0_ n1_ n2_ n3_; clear hb hbox hg; have hcz5_0 : w4.cell? ⟨gb143, 0, none⟩ = some (.slice A0_0 l0_0.length c0_0) := (bC BK143.out 0).trans rfl; have hfz5_0 := bZ BK143.out 0) | ((with_reducible refine gate_dst (N := 11) rfl ?_); (try (refine gate_guard (by rfl) ?_; dsimp only)); refine Kd.R_make (Kd.int .i64) _ 3 rfl (N := 11) rfl 25 _ _ rfl (l0_0.length : Int) rfl rfl Try.underlying25 (.int .i64 0) 8 info3 rfl (by decide) (by omega) 0 (ok := fun _ => True) (okp := fun _ => True) rfl (fun _ hk => hk) trivial (of_decide_eq_true (by first | (with_reducible assumption) | assumption)) (Nat.le_trans (Nat.mul_le_mul_right _ (of_decide_eq_true (by first | (with_reducible assumption) | assumption) : (l0_0.length : Int).toNat ≤ 35184372088832)) (by omega)) (Below.refl _ _) (Nat.le_refl _) ?_; intro v145 w6 ho7 hb hg_ hnew_; clear hg_ hnew_; (first | rw [← Ny144.out] at ho7 | (simp only [Int.reduceToNat] at ho7; rw [← Ny144.out] at ho7)); have n0_ := Aside0.mk (Kd.R_lower ho7 (below_size (by repeat (first | (with_reducible first | exact HB.out | apply wA | apply wN | apply wD | refine wS ?_ GE143.out) | exact HB.out)))); have n1_ := Aside0.mk (bB (g := gb143) (o := .cells #[.slice A0_0 l0_0.length c0_0] 24 (0, 0)) (by (with_reducible repeat (first | refine bN ?_ _ | refine bD ?_ | refine bA ?_ _)); exact BK143.out) hb); have n2_ := Aside0.mk (below_step (by repeat (first | (with_reducible first | exact HB.out | apply wA | apply wN | apply wD | refine wS ?_ GE143.out) | exact HB.out)) hb); clear BK143; clear HB; have HO146 := n0_; have BK143 := n1_; have HB := n2_; clear n0_ n1_ n2_; clear hb ho7; have hcz8_0 : w6.cell? ⟨gb143, 0, none⟩ = some (.slice A0_0 l0_0.length c0_0) := (bC BK143.out 0).trans rfl; have hfz8_0 := bZ BK143.out 0))
   go_loopg [15] k (fun kq v15 w' => ∃ (x3_1 : List Int) (x15_1 : Int), v15 = .int .i64 x15_1 ∧ Aside0 (dir_names.l0 kq x3_1 l0_0 (l0_0.length : Int) x15_1 = some r) ∧ Aside0 (kq ≤ k) ∧ Aside0 (Kd.R (Kd.int .i64) 3 w' w.heap.size (fun _ => True) v145 x3_1) ∧ Aside0 (w'.heap[gb143]? = some (.cells #[(.slice A0_0 l0_0.length c0_0)] 24 (0, 0))) ∧ Aside0 (Below w.heap.size w w'))
   case atStart => exact ⟨(y144), (0), (by first | rfl | (simp; done) | (simp [*]; done)), H', ⟨Nat.le_refl _⟩, ⟨by (with_reducible repeat (first | apply Kd.R_alloc | apply Kd.R_drewN | apply Kd.R_drew)); exact HO146.out⟩, ⟨by (with_reducible repeat (first | refine bN ?_ _ | refine bD ?_ | refine bA ?_ _)); exact BK143.out⟩, ⟨by repeat (first | (with_reducible first | exact HB.out | apply wA | apply wN | apply wD | refine wS ?_ GE143.out) | exact HB.out)⟩⟩
   case round =>
    clear H'
    try clear c2
    try clear c2b0
    try clear c2b1
    try clear p2
    try clear c3
    try clear c3b0
    try clear c3b1
    try clear c7
    try clear hcz5_0
    try clear hcz8_0
    try clear hfz5_0
    try clear hfz8_0
    obtain ⟨x3_1, x15_1, rfl, HA, HK1, HO_3, BK143, HB⟩ := hrel
    cases gk with
    | zero => exact absurd HA.out (by simp [dir_names.l0])
    | succ k1 =>
     have H := HA.out; clear HA; simp only [dir_names.l0] at H
     by_cases c9 : x15_1 < (l0_0.length : Int)
     ·
      rw [if_pos c9] at H; have c9b0 : decide (x15_1 < (l0_0.length : Int)) = true := decide_eq_true c9; clear c9
      by_cases c10 : 0 ≤ x15_1
      ·
       rw [if_pos c10] at H; have c10b0 : decide (0 ≤ x15_1) = true := decide_eq_true c10; clear c10
       by_cases c11 : x15_1 < (l0_0.length : Int)
       ·
        rw [if_pos c11] at H; have c11b0 : decide (x15_1 < (l0_0.length : Int)) = true := decide_eq_true c11; clear c11; have H' := Aside0.mk H; clear H; have p147 : 0 ≤ (x15_1 : Int) := of_decide_eq_true (by first | (with_reducible assumption) | assumption); have q147 : x15_1 < (l0_0.length : Int) := of_decide_eq_true (by first | (with_reducible assumption) | assumption); obtain ⟨ad147, A147_3, c147_3, A147_4, c147_4, e147, hx147_0, hx147_1, hx147_2, hx147_3, hx147_4, hl147_3, hi147_3, hl147_4, hi147_4⟩ := at_T28 HR0_0.out x15_1 p147 q147
        cases e147
        replace hx147_0 := (HB.out.cell (World.block_lt_of_cell? w _ hx147_0)).trans hx147_0; replace hx147_1 := (HB.out.cell (World.block_lt_of_cell? w _ hx147_1)).trans hx147_1; replace hx147_2 := (HB.out.cell (World.block_lt_of_cell? w _ hx147_2)).trans hx147_2; replace hx147_3 := (HB.out.cell (World.block_lt_of_cell? w _ hx147_3)).trans hx147_3; replace hx147_4 := (HB.out.cell (World.block_lt_of_cell? w _ hx147_4)).trans hx147_4; have HR147_3 := Aside0.mk hi147_3; have HC147_3 := Aside0.mk hl147_3; clear hi147_3 hl147_3; have HR147_4 := Aside0.mk hi147_4; have HC147_4 := Aside0.mk hl147_4; clear hi147_4 hl147_4; replace p147 := eq_true p147; replace q147 := eq_true q147
        go_wp2_with (first | ((with_reducible refine gate_dst (N := 5) rfl ?_); (try (refine gate_guard (by rfl) ?_; dsimp only)); refine box_event ?hg (N := 5) ?hd (cs := #[.int .i64 0, .int .i64 0, .int .i64 0, .slice none 0 0, .slice none 0 0]) (t := 28) ?hr ?_; (case hd => rfl); (case hg => rfl); (case hr => first | (go_simp; done) | (go_simp; rfl)); intro gb148 hg w12 hbox hb; have n0_ := Aside0.mk (Kd.R_below (by (with_reducible repeat (first | apply Kd.R_alloc | apply Kd.R_drewN | apply Kd.R_drew)); exact HO_3.out) hb); have n1_ := Aside0.mk (bB (g := gb143) (o := .cells #[.slice (some ad147) l0_0.length c0_0] 24 (0, 0)) (by (with_reducible repeat (first | refine bN ?_ _ | refine bD ?_ | refine bA ?_ _)); exact BK143.out) hb); have n2_ := Aside0.mk (below_step (by repeat (first | (with_reducible first | exact HB.out | apply wA | apply wN | apply wD | refine wS ?_ GE143.out) | exact HB.out)) hb); have n3_ := Aside0.mk (hbox); have n4_ := Aside0.mk ((by rw [hg]; exact (below_size (by repeat (first | (with_reducible first | exact HB.out | apply wA | apply wN | apply wD | refine wS ?_ GE143.out) | exact HB.out))) : w.heap.size ≤ gb148)); have n5_ := Aside0.mk ((by rw [hg]; exact (below_size (by repeat (first | (with_reducible first | exact HB.out | apply wA | apply wN | apply wD | refine wS ?_ GE143.out) | exact HB.out))) : w.heap.size ≤ gb148)); have n6_ := Aside0.mk ((by rw [hg]; exact Nat.ne_of_lt (blk_lt (g := gb143) (o := .cells #[.slice (some ad147) l0_0.length c0_0] 24 (0, 0)) (by (with_reducible repeat (first | refine bN ?_ _ | refine bD ?_ | refine bA ?_ _)); exact BK143.out)) : gb143 ≠ gb148)); have n7_ := Aside0.mk ((by rw [hg]; exact Nat.ne_of_gt (blk_lt (g := gb143) (o := .cells #[.slice (some ad147) l0_0.length c0_0] 24 (0, 0)) (by (with_reducible repeat (first | refine bN ?_ _ | refine bD ?_ | refine bA ?_ _)); exact BK143.out)) : gb148 ≠ gb143)); clear HO_3; clear BK143; clear HB; have HO_3 := n0_; have BK143 := n1_; have HB := n2_; have BK148 := n3_; have GW148 := n4_; have GE148 := n5_; have NB143_148 := n6_; have NB148_143 := n7_; clear n0_ n1_ n2_ n3_ n4_ n5_ n6_ n7_; clear hb hbox hg; have hnb13 := NB148_143.out; have hnc13 := NB143_148.out; have hcz14_0 : w12.cell? ⟨gb148, 0, none⟩ = some (.int .i64 0) := (bC BK148.out 0).trans rfl; have hcz14_1 : w12.cell? ⟨gb148, 1, none⟩ = some (.int .i64 0) := (bC BK148.out 1).trans rfl; have hcz14_2 : w12.cell? ⟨gb148, 2, none⟩ = some (.int .i64 0) := (bC BK148.out 2).trans rfl; have hcz14_3 : w12.cell? ⟨gb148, 3, none⟩ = some (.slice none 0 0) := (bC BK148.out 3).trans rfl; have hcz14_4 : w12.cell? ⟨gb148, 4, none⟩ = some (.slice none 0 0) := (bC BK148.out 4).trans rfl; have hfz14_0 := bZ BK148.out 0; have hfz14_1 := bZ BK148.out 1; have hfz14_2 := bZ BK148.out 2; have hfz14_3 := bZ BK148.out 3; have hfz14_4 := bZ BK148.out 4))
        go_loopg [22] k1 (fun kq v22 w' => ∃ (x3_2 : List Int) (x22_2 : Int), v22 = .int .i64 x22_2 ∧ Aside0 (dir_names.l1 kq x3_2 l0_0 (l0_0.length : Int) x15_1 ((rd_T28 l0_0 x15_1).f4) (((rd_T28 l0_0 x15_1).f4).length : Int) x22_2 = some r) ∧ Aside0 (kq ≤ k1) ∧ Aside0 (Kd.R (Kd.int .i64) 3 w' w.heap.size (fun _ => True) v145 x3_2) ∧ Aside0 (w'.heap[gb143]? = some (.cells #[(.slice (some ad147) l0_0.length c0_0)] 24 (0, 0))) ∧ Aside0 (w'.heap[gb148]? = some (.cells #[.int .i64 ((rd_T28 l0_0 x15_1).f0), .int .i64 ((rd_T28 l0_0 x15_1).f1), .int .i64 ((rd_T28 l0_0 x15_1).f2), (.slice A147_3 ((rd_T28 l0_0 x15_1).f3).length c147_3), (.slice A147_4 ((rd_T28 l0_0 x15_1).f4).length c147_4)] 28 (0, 0))) ∧ Aside0 (Below w.heap.size w w'))
        case atStart => exact ⟨(x3_1), (0), (by first | rfl | (simp; done) | (simp [*]; done)), H', ⟨Nat.le_refl _⟩, ⟨by (with_reducible repeat (first | apply Kd.R_alloc | apply Kd.R_drewN | apply Kd.R_drew)); exact Kd.R_mono (Kd.R_far (p := ⟨gb148, 4, none⟩) (Kd.R_far (p := ⟨gb148, 3, none⟩) (Kd.R_far (p := ⟨gb148, 2, none⟩) (Kd.R_far (p := ⟨gb148, 1, none⟩) (Kd.R_far (p := ⟨gb148, 0, none⟩) (Kd.R_types HO_3.out BK148.out (by decide)) (fun _ hk => hk.2) (.int .i64 ((rd_T28 l0_0 x15_1).f0))) (fun _ hk => hk.2) (.int .i64 ((rd_T28 l0_0 x15_1).f1))) (fun _ hk => hk.2) (.int .i64 ((rd_T28 l0_0 x15_1).f2))) (fun _ hk => hk.2) (.slice A147_3 ((rd_T28 l0_0 x15_1).f3).length c147_3)) (fun _ hk => hk.2) (.slice A147_4 ((rd_T28 l0_0 x15_1).f4).length c147_4)) (fun _ hk => trivial)⟩, ⟨by (with_reducible repeat (first | refine bN ?_ _ | refine bD ?_ | refine bA ?_ _)); refine bF ?_ NB143_148.out _; (with_reducible repeat (first | refine bN ?_ _ | refine bD ?_ | refine bA ?_ _)); refine bF ?_ NB143_148.out _; (with_reducible repeat (first | refine bN ?_ _ | refine bD ?_ | refine bA ?_ _)); refine bF ?_ NB143_148.out _; (with_reducible repeat (first | refine bN ?_ _ | refine bD ?_ | refine bA ?_ _)); refine bF ?_ NB143_148.out _; (with_reducible repeat (first | refine bN ?_ _ | refine bD ?_ | refine bA ?_ _)); refine bF ?_ NB143_148.out _; (with_reducible repeat (first | refine bN ?_ _ | refine bD ?_ | refine bA ?_ _)); exact BK143.out⟩, ⟨by (with_reducible repeat (first | refine bN ?_ _ | refine bD ?_ | refine bA ?_ _)); refine blk_put (cs := #[.int .i64 ((rd_T28 l0_0 x15_1).f0), .int .i64 ((rd_T28 l0_0 x15_1).f1), .int .i64 ((rd_T28 l0_0 x15_1).f2), .slice A147_3 ((rd_T28 l0_0 x15_1).f3).length c147_3, .slice none 0 0]) ?_ 4 _ rfl; (with_reducible repeat (first | refine bN ?_ _ | refine bD ?_ | refine bA ?_ _)); refine blk_put (cs := #[.int .i64 ((rd_T28 l0_0 x15_1).f0), .int .i64 ((rd_T28 l0_0 x15_1).f1), .int .i64 ((rd_T28 l0_0 x15_1).f2), .slice none 0 0, .slice none 0 0]) ?_ 3 _ rfl; (with_reducible repeat (first | refine bN ?_ _ | refine bD ?_ | refine bA ?_ _)); refine blk_put (cs := #[.int .i64 ((rd_T28 l0_0 x15_1).f0), .int .i64 ((rd_T28 l0_0 x15_1).f1), .int .i64 0, .slice none 0 0, .slice none 0 0]) ?_ 2 _ rfl; (with_reducible repeat (first | refine bN ?_ _ | refine bD ?_ | refine bA ?_ _)); refine blk_put (cs := #[.int .i64 ((rd_T28 l0_0 x15_1).f0), .int .i64 0, .int .i64 0, .slice none 0 0, .slice none 0 0]) ?_ 1 _ rfl; (with_reducible repeat (first | refine bN ?_ _ | refine bD ?_ | refine bA ?_ _)); refine blk_put (cs := #[.int .i64 0, .int .i64 0, .int .i64 0, .slice none 0 0, .slice none 0 0]) ?_ 0 _ rfl; (with_reducible repeat (first | refine bN ?_ _ | refine bD ?_ | refine bA ?_ _)); exact BK148.out⟩, ⟨by repeat (first | (with_reducible first | exact HB.out | apply wA | apply wN | apply wD | refine wS ?_ GE143.out | refine wS ?_ GE148.out) | exact HB.out)⟩⟩
        case round =>
         clear H'
         try clear c1
         try clear p1
         try clear q1
         try clear hx1
         try clear c2
         try clear c2b0
         try clear c2b1
         try clear p2
         try clear c3
         try clear c3b0
         try clear c3b1
         try clear c7
         try clear c9
         try clear c9b0
         try clear c10
         try clear c10b0
         try clear c11
         try clear c11b0
         try clear c13
         try clear c14
         try clear p14
         try clear q14
         try clear hx14
         try clear hcz14_0
         try clear hcz14_1
         try clear hcz14_2
         try clear hcz14_3
         try clear hcz14_4
         try clear hcz5_0
         try clear hcz8_0
         try clear hfz14_0
         try clear hfz14_1
         try clear hfz14_2
         try clear hfz14_3
         try clear hfz14_4
         try clear hfz5_0
         try clear hfz8_0
         try clear hx147_0
         try clear hx147_1
         try clear hx147_2
         try clear hx147_3
         try clear hx147_4
         try clear p147
         try clear p2
         try clear q147
         obtain ⟨x3_2, x22_2, rfl, HA, HK2, HO_3, BK143, BK148, HB⟩ := hrel
         cases gk with
         | zero => exact absurd HA.out (by simp [dir_names.l1])
         | succ k2 =>
          have H := HA.out; clear HA; simp only [dir_names.l1] at H
          by_cases c15 : x22_2 < (((rd_T28 l0_0 x15_1).f4).length : Int)
          ·
           rw [if_pos c15] at H; have c15b0 : decide (x22_2 < (((rd_T28 l0_0 x15_1).f4).length : Int)) = true := decide_eq_true c15; clear c15
           by_cases c16 : 0 ≤ x22_2
           ·
            rw [if_pos c16] at H; have c16b0 : decide (0 ≤ x22_2) = true := decide_eq_true c16; clear c16
            by_cases c17 : x22_2 < (((rd_T28 l0_0 x15_1).f4).length : Int)
            ·
             rw [if_pos c17] at H; have c17b0 : decide (x22_2 < (((rd_T28 l0_0 x15_1).f4).length : Int)) = true := decide_eq_true c17; clear c17
             by_cases c18 : ((rd_T78 ((rd_T28 l0_0 x15_1).f4) x22_2).f1) ≥ 0
             ·
              rw [if_pos c18] at H; have c18b0 : decide (0 ≤ ((rd_T78 ((rd_T28 l0_0 x15_1).f4) x22_2).f1)) = true := decide_eq_true c18; clear c18
              by_cases c19 : ((rd_T78 ((rd_T28 l0_0 x15_1).f4) x22_2).f1) < (x3_2.length : Int)
              ·
               rw [if_pos c19] at H; have c19b0 : decide (((rd_T78 ((rd_T28 l0_0 x15_1).f4) x22_2).f1) < (x3_2.length : Int)) = true := decide_eq_true c19; clear c19
               by_cases c20 : 0 ≤ ((rd_T78 ((rd_T28 l0_0 x15_1).f4) x22_2).f1)
               ·
                rw [if_pos c20] at H; have c20b0 : decide (0 ≤ ((rd_T78 ((rd_T28 l0_0 x15_1).f4) x22_2).f1)) = true := decide_eq_true c20; clear c20; obtain ⟨y152, hy152⟩ : ∃ y_ : List Int, y_ = (x3_2.set (((rd_T78 ((rd_T28 l0_0 x15_1).f4) x22_2).f1) : Int).toNat (wrap64 ((rd x3_2 ((rd_T78 ((rd_T28 l0_0 x15_1).f4) x22_2).f1)) + 1))) := ⟨_, rfl⟩
                replace H : (dir_names.l1 k2 y152 l0_0 (l0_0.length : Int) x15_1 ((rd_T28 l0_0 x15_1).f4) (((rd_T28 l0_0 x15_1).f4).length : Int) (wrap64 (x22_2 + 1))) = some r := by first | (rw [hy152]; with_reducible exact H) | (have H2_ := (Option.bind_some _ _).symm.trans H; rw [hy152]; with_reducible exact H2_) | (have H2_ := (Option.bind_some _ _).symm.trans H; with_reducible exact H2_) | with_reducible exact H | (rw [hy152]; exact H) | exact H
                have Ny152 := Aside0.mk hy152; clear hy152; have H' := Aside0.mk H; clear H; have p149 : 0 ≤ (x22_2 : Int) := of_decide_eq_true (by first | (with_reducible assumption) | assumption); have q149 : x22_2 < (((rd_T28 l0_0 x15_1).f4).length : Int) := of_decide_eq_true (by first | (with_reducible assumption) | assumption); obtain ⟨ad149, e149, hx149_0, hx149_1⟩ := at_T78 HR147_4.out x22_2 p149 q149
                cases e149
                replace hx149_0 := (HB.out.cell (World.block_lt_of_cell? w _ hx149_0)).trans hx149_0; replace hx149_1 := (HB.out.cell (World.block_lt_of_cell? w _ hx149_1)).trans hx149_1; replace p149 := eq_true p149; replace q149 := eq_true q149
                go_wp2_with (first | ((with_reducible refine gate_dst (N := 7) rfl ?_); (try (refine gate_guard (by rfl) ?_; dsimp only)); refine box_event ?hg (N := 7) ?hd (cs := #[.string (⟨#[]⟩ : ByteArray), .int .i64 0]) (t := 78) ?hr ?_; (case hd => rfl); (case hg => rfl); (case hr => first | (go_simp; done) | (go_simp; rfl)); intro gb150 hg w22 hbox hb; have n0_ := Aside0.mk (Kd.R_below (by (with_reducible repeat (first | apply Kd.R_alloc | apply Kd.R_drewN | apply Kd.R_drew)); exact HO_3.out) hb); have n1_ := Aside0.mk (bB (g := gb143) (o := .cells #[.slice (some ad147) l0_0.length c0_0] 24 (0, 0)) (by (with_reducible repeat (first | refine bN ?_ _ | refine bD ?_ | refine bA ?_ _)); exact BK143.out) hb); have n2_ := Aside0.mk (bB (g := gb148) (o := .cells #[.int .i64 ((rd_T28 l0_0 x15_1).f0), .int .i64 ((rd_T28 l0_0 x15_1).f1), .int .i64 ((rd_T28 l0_0 x15_1).f2), .slice A147_3 ((rd_T28 l0_0 x15_1).f3).length c147_3, .slice (some ad149) ((rd_T28 l0_0 x15_1).f4).length c147_4] 28 (0, 0)) (by (with_reducible repeat (first | refine bN ?_ _ | refine bD ?_ | refine bA ?_ _)); exact BK148.out) hb); have n3_ := Aside0.mk (below_step (by repeat (first | (with_reducible first | exact HB.out | apply wA | apply wN | apply wD | refine wS ?_ GE143.out | refine wS ?_ GE148.out) | exact HB.out)) hb); have n4_ := Aside0.mk (hbox); have n5_ := Aside0.mk ((by rw [hg]; exact (below_size (by repeat (first | (with_reducible first | exact HB.out | apply wA | apply wN | apply wD | refine wS ?_ GE143.out | refine wS ?_ GE148.out) | exact HB.out))) : w.heap.size ≤ gb150)); have n6_ := Aside0.mk ((by rw [hg]; exact (below_size (by repeat (first | (with_reducible first | exact HB.out | apply wA | apply wN | apply wD | refine wS ?_ GE143.out | refine wS ?_ GE148.out) | exact HB.out))) : w.heap.size ≤ gb150)); have n7_ := Aside0.mk ((by rw [hg]; exact Nat.ne_of_lt (blk_lt (g := gb143) (o := .cells #[.slice (some ad147) l0_0.length c0_0] 24 (0, 0)) (by (with_reducible repeat (first | refine bN ?_ _ | refine bD ?_ | refine bA ?_ _)); exact BK143.out)) : gb143 ≠ gb150)); have n8_ := Aside0.mk ((by rw [hg]; exact Nat.ne_of_gt (blk_lt (g := gb143) (o := .cells #[.slice (some ad147) l0_0.length c0_0] 24 (0, 0)) (by (with_reducible repeat (first | refine bN ?_ _ | refine bD ?_ | refine bA ?_ _)); exact BK143.out)) : gb150 ≠ gb143)); have n9_ := Aside0.mk ((by rw [hg]; exact Nat.ne_of_lt (blk_lt (g := gb148) (o := .cells #[.int .i64 ((rd_T28 l0_0 x15_1).f0), .int .i64 ((rd_T28 l0_0 x15_1).f1), .int .i64 ((rd_T28 l0_0 x15_1).f2), .slice A147_3 ((rd_T28 l0_0 x15_1).f3).length c147_3, .slice (some ad149) ((rd_T28 l0_0 x15_1).f4).length c147_4] 28 (0, 0)) (by (with_reducible repeat (first | refine bN ?_ _ | refine bD ?_ | refine bA ?_ _)); exact BK148.out)) : gb148 ≠ gb150)); have n10_ := Aside0.mk ((by rw [hg]; exact Nat.ne_of_gt (blk_lt (g := gb148) (o := .cells #[.int .i64 ((rd_T28 l0_0 x15_1).f0), .int .i64 ((rd_T28 l0_0 x15_1).f1), .int .i64 ((rd_T28 l0_0 x15_1).f2), .slice A147_3 ((rd_T28 l0_0 x15_1).f3).length c147_3, .slice (some ad149) ((rd_T28 l0_0 x15_1).f4).length c147_4] 28 (0, 0)) (by (with_reducible repeat (first | refine bN ?_ _ | refine bD ?_ | refine bA ?_ _)); exact BK148.out)) : gb150 ≠ gb148)); clear HO_3; clear BK143; clear BK148; clear HB; have HO_3 := n0_; have BK143 := n1_; have BK148 := n2_; have HB := n3_; have BK150 := n4_; have GW150 := n5_; have GE150 := n6_; have NB143_150 := n7_; have NB150_143 := n8_; have NB148_150 := n9_; have NB150_148 := n10_; clear n0_ n1_ n2_ n3_ n4_ n5_ n6_ n7_ n8_ n9_ n10_; clear hb hbox hg; have hnb23 := NB150_143.out; have hnc23 := NB143_150.out; have hnb24 := NB150_148.out; have hnc24 := NB148_150.out; have hcz25_0 : w22.cell? ⟨gb150, 0, none⟩ = some (.string (⟨#[]⟩ : ByteArray)) := (bC BK150.out 0).trans rfl; have hcz25_1 : w22.cell? ⟨gb150, 1, none⟩ = some (.int .i64 0) := (bC BK150.out 1).trans rfl; have hfz25_0 := bZ BK150.out 0; have hfz25_1 := bZ BK150.out 1) | ((with_reducible refine gate_store (t := 78) (p := 7) rfl ?_); refine store_event (t := 78) (p := 7) (v := ?vo_w26) (w1 := ((w22.setCell ⟨gb150, 0, none⟩ (.string ((rd_T78 ((rd_T28 l0_0 x15_1).f4) x22_2).f0))).setCell ⟨gb150, 1, none⟩ (.int .i64 ((rd_T78 ((rd_T28 l0_0 x15_1).f4) x22_2).f1)))) ?hg ?ho ?hn ?hr ?_; (case ho => rfl); (case hg => rfl); (case hn => rfl); (case hr => first | (go_simp; done) | (go_simp; rfl)); intro w26 hw; have n0_ : Aside0 (Kd.R (Kd.int .i64) 3 w26 w.heap.size (fun _ => True) v145 x3_2) := ⟨(by rw [hw]; exact (by (with_reducible repeat (first | apply Kd.R_alloc | apply Kd.R_drewN | apply Kd.R_drew)); exact Kd.R_mono (Kd.R_far (p := ⟨gb150, 1, none⟩) (Kd.R_far (p := ⟨gb150, 0, none⟩) (Kd.R_types HO_3.out BK150.out (by decide)) (fun _ hk => hk.2) (.string ((rd_T78 ((rd_T28 l0_0 x15_1).f4) x22_2).f0))) (fun _ hk => hk.2) (.int .i64 ((rd_T78 ((rd_T28 l0_0 x15_1).f4) x22_2).f1))) (fun _ hk => trivial)))⟩; have n1_ : Aside0 (w26.heap[gb143]? = some (.cells #[.slice (some ad147) l0_0.length c0_0] 24 (0, 0))) := ⟨(by rw [hw]; exact (by (with_reducible repeat (first | refine bN ?_ _ | refine bD ?_ | refine bA ?_ _)); refine bF ?_ NB143_150.out _; (with_reducible repeat (first | refine bN ?_ _ | refine bD ?_ | refine bA ?_ _)); refine bF ?_ NB143_150.out _; (with_reducible repeat (first | refine bN ?_ _ | refine bD ?_ | refine bA ?_ _)); exact BK143.out))⟩; have n2_ : Aside0 (w26.heap[gb148]? = some (.cells #[.int .i64 ((rd_T28 l0_0 x15_1).f0), .int .i64 ((rd_T28 l0_0 x15_1).f1), .int .i64 ((rd_T28 l0_0 x15_1).f2), .slice A147_3 ((rd_T28 l0_0 x15_1).f3).length c147_3, .slice (some ad149) ((rd_T28 l0_0 x15_1).f4).length c147_4] 28 (0, 0))) := ⟨(by rw [hw]; exact (by (with_reducible repeat (first | refine bN ?_ _ | refine bD ?_ | refine bA ?_ _)); refine bF ?_ NB148_150.out _; (with_reducible repeat (first | refine bN ?_ _ | refine bD ?_ | refine bA ?_ _)); refine bF ?_ NB148_150.out _; (with_reducible repeat (first | refine bN ?_ _ | refine bD ?_ | refine bA ?_ _)); exact BK148.out))⟩; have n3_ : Aside0 (w26.heap[gb150]? = some (.cells #[.string ((rd_T78 ((rd_T28 l0_0 x15_1).f4) x22_2).f0), .int .i64 ((rd_T78 ((rd_T28 l0_0 x15_1).f4) x22_2).f1)] 78 (0, 0))) := ⟨(by rw [hw]; exact (by (with_reducible repeat (first | refine bN ?_ _ | refine bD ?_ | refine bA ?_ _)); refine blk_put (cs := #[.string ((rd_T78 ((rd_T28 l0_0 x15_1).f4) x22_2).f0), .int .i64 0]) ?_ 1 _ rfl; (with_reducible repeat (first | refine bN ?_ _ | refine bD ?_ | refine bA ?_ _)); refine blk_put (cs := #[.string (⟨#[]⟩ : ByteArray), .int .i64 0]) ?_ 0 _ rfl; (with_reducible repeat (first | refine bN ?_ _ | refine bD ?_ | refine bA ?_ _)); exact BK150.out))⟩; have n4_ : Aside0 (Below w.heap.size w w26) := ⟨(by rw [hw]; exact (by repeat (first | (with_reducible first | exact HB.out | apply wA | apply wN | apply wD | refine wS ?_ GE143.out | refine wS ?_ GE148.out | refine wS ?_ GE150.out) | exact HB.out)))⟩; clear hw; clear HO_3; clear BK143; clear BK148; clear BK150; clear HB; have HO_3 := n0_; have BK143 := n1_; have BK148 := n2_; have BK150 := n3_; have HB := n4_; clear n0_ n1_ n2_ n3_ n4_; have hcz27_0 : w26.cell? ⟨gb150, 0, none⟩ = some (.string ((rd_T78 ((rd_T28 l0_0 x15_1).f4) x22_2).f0)) := (bC BK150.out 0).trans rfl; have hcz27_1 : w26.cell? ⟨gb150, 1, none⟩ = some (.int .i64 ((rd_T78 ((rd_T28 l0_0 x15_1).f4) x22_2).f1)) := (bC BK150.out 1).trans rfl; have hfz27_0 := bZ BK150.out 0; have hfz27_1 := bZ BK150.out 1; obtain ⟨Ao28, co28, eo28⟩ := Kd.R_slice HO_3.out; subst eo28; have p151 : 0 ≤ (((rd_T78 ((rd_T28 l0_0 x15_1).f4) x22_2).f1) : Int) := of_decide_eq_true (by first | (with_reducible assumption) | assumption); have q151 : ((rd_T78 ((rd_T28 l0_0 x15_1).f4) x22_2).f1) < (x3_2.length : Int) := of_decide_eq_true (by first | (with_reducible assumption) | assumption); obtain ⟨ad151, e151, hx151_0⟩ := Kd.at_int (Kd.R_reads' HO_3.out).2.2 ((rd_T78 ((rd_T28 l0_0 x15_1).f4) x22_2).f1) p151 q151; cases e151; replace p151 := eq_true p151; replace q151 := eq_true q151; have p21 : 0 ≤ (((rd_T78 ((rd_T28 l0_0 x15_1).f4) x22_2).f1) : Int) := of_decide_eq_true (by first | (with_reducible assumption) | assumption); have q21 : (((rd_T78 ((rd_T28 l0_0 x15_1).f4) x22_2).f1) : Int) < ((x3_2.length : Int) : Int) := of_decide_eq_true (by first | (with_reducible assumption) | assumption); obtain ⟨go21, co21, eo21, gb21, gl21, cl21, HG21⟩ := Kd.R_form HO_3.out (by omega); (first | cases eo21 | (injection eo21 with ea_ en_ ec_; (first | subst ea_ | (injection ea_ with ea_; subst ea_)); subst ec_; clear en_)); have GB21 := Aside0.mk gb21; have GG21 := Aside0.mk HG21; clear gb21 gl21 HG21; (first | simp only [add_plain] at hx151_0 | skip); obtain ⟨hx21_0, hf21_0⟩ := Kd.R_celln 0 HO_3.out (((rd_T78 ((rd_T28 l0_0 x15_1).f4) x22_2).f1) : Int) p21 q21; replace p21 := eq_true p21; replace q21 := eq_true q21; obtain ⟨hy29_, hz29_⟩ := Kd.R_celln 0 HO_3.out (((rd_T78 ((rd_T28 l0_0 x15_1).f4) x22_2).f1) : Int) (of_decide_eq_true (by first | (with_reducible assumption) | assumption)) (of_decide_eq_true (by first | (with_reducible assumption) | assumption)); have HP29 := Kd.R_putg HO_3.out (((rd_T78 ((rd_T28 l0_0 x15_1).f4) x22_2).f1) : Int) (wrap64 ((rd x3_2 ((rd_T78 ((rd_T28 l0_0 x15_1).f4) x22_2).f1)) + 1))) | ((with_reducible refine gate_store (t := 3) (p := 42) rfl ?_); refine store_event (t := 3) (p := 42) (v := ?vo_w30) (w1 := (w26.setCell ⟨go21, (((rd_T78 ((rd_T28 l0_0 x15_1).f4) x22_2).f1) : Int).toNat, none⟩ (.int .i64 (wrap64 ((rd x3_2 ((rd_T78 ((rd_T28 l0_0 x15_1).f4) x22_2).f1)) + 1))))) ?hg ?ho ?hn ?hr ?_; (case ho => rfl); (case hg => rfl); (case hn => rfl); (case hr => first | (go_simp; done) | (go_simp; rfl)); intro w30 hw; have hg : w26.grownBy w30 (some go21) := (by rw [hw]; exact HP29.2); have hp_ : Kd.R (Kd.int .i64) 3 w30 w.heap.size (fun _ => True) (.slice (some ⟨go21, 0, none⟩) x3_2.length co28) y152 := (by rw [hw, Ny152.out]; exact HP29.1); clear HP29; have n0_ := Aside0.mk (hp_); have n1_ := Aside0.mk (blk_grown (g := gb143) (o := .cells #[.slice (some ad147) l0_0.length c0_0] 24 (0, 0)) (by (with_reducible repeat (first | refine bN ?_ _ | refine bD ?_ | refine bA ?_ _)); exact BK143.out) hg (Kd.R_ne HO_3.out BK143.out (by decide))); have n2_ := Aside0.mk (blk_grown (g := gb148) (o := .cells #[.int .i64 ((rd_T28 l0_0 x15_1).f0), .int .i64 ((rd_T28 l0_0 x15_1).f1), .int .i64 ((rd_T28 l0_0 x15_1).f2), .slice A147_3 ((rd_T28 l0_0 x15_1).f3).length c147_3, .slice (some ad149) ((rd_T28 l0_0 x15_1).f4).length c147_4] 28 (0, 0)) (by (with_reducible repeat (first | refine bN ?_ _ | refine bD ?_ | refine bA ?_ _)); exact BK148.out) hg (Kd.R_ne HO_3.out BK148.out (by decide))); have n3_ := Aside0.mk (blk_grown (g := gb150) (o := .cells #[.string ((rd_T78 ((rd_T28 l0_0 x15_1).f4) x22_2).f0), .int .i64 ((rd_T78 ((rd_T28 l0_0 x15_1).f4) x22_2).f1)] 78 (0, 0)) (by (with_reducible repeat (first | refine bN ?_ _ | refine bD ?_ | refine bA ?_ _)); exact BK150.out) hg (Kd.R_ne HO_3.out BK150.out (by decide))); have n4_ := Aside0.mk ((by rw [hw]; exact wS (HB.out) GB21.out : Below w.heap.size w w30)); clear HO_3; clear BK143; clear BK148; clear BK150; clear HB; have HO_3 := n0_; have BK143 := n1_; have BK148 := n2_; have BK150 := n3_; have HB := n4_; clear n0_ n1_ n2_ n3_ n4_; clear hg hw hp_))
                go_roundg k2
                case measure => have := HK1.out; have := HK2.out; omega
                case rel => exact ⟨(y152), (wrap64 (x22_2 + 1)), (by first | rfl | (simp; done) | (simp [*]; done)), H', ⟨by have := HK1.out; have := HK2.out; omega⟩, ⟨by (with_reducible repeat (first | apply Kd.R_alloc | apply Kd.R_drewN | apply Kd.R_drew)); exact HO_3.out⟩, ⟨by (with_reducible repeat (first | refine bN ?_ _ | refine bD ?_ | refine bA ?_ _)); exact BK143.out⟩, ⟨by (with_reducible repeat (first | refine bN ?_ _ | refine bD ?_ | refine bA ?_ _)); exact BK148.out⟩, ⟨by repeat (first | (with_reducible first | exact HB.out | apply wA | apply wN | apply wD | refine wS ?_ GE143.out | refine wS ?_ GE148.out | refine wS ?_ GE150.out) | exact HB.out)⟩⟩
               ·
                rw [if_neg c20] at H; exact absurd H (by simp)
              ·
               rw [if_neg c19] at H; exact absurd H (by simp)
             ·
              rw [if_neg c18] at H; exact absurd H (by simp)
            ·
             rw [if_neg c17] at H; exact absurd H (by simp)
           ·
            rw [if_neg c16] at H; exact absurd H (by simp)
          ·
           rw [if_neg c15] at H; have c15b0 : decide (x22_2 < (((rd_T28 l0_0 x15_1).f4).length : Int)) = false := decide_eq_false c15; clear c15; have H' := Aside0.mk H; clear H
           go_wp2
           go_roundg k2
           case measure => have := HK1.out; have := HK2.out; omega
           case rel => exact ⟨(x3_2), (wrap64 (x15_1 + 1)), (by first | rfl | (simp; done) | (simp [*]; done)), H', ⟨by have := HK1.out; have := HK2.out; omega⟩, ⟨by (with_reducible repeat (first | apply Kd.R_alloc | apply Kd.R_drewN | apply Kd.R_drew)); exact HO_3.out⟩, ⟨by (with_reducible repeat (first | refine bN ?_ _ | refine bD ?_ | refine bA ?_ _)); exact BK143.out⟩, ⟨by repeat (first | (with_reducible first | exact HB.out | apply wA | apply wN | apply wD | refine wS ?_ GE143.out | refine wS ?_ GE148.out) | exact HB.out)⟩⟩
       ·
        rw [if_neg c11] at H; exact absurd H (by simp)
      ·
       rw [if_neg c10] at H; exact absurd H (by simp)
     ·
      rw [if_neg c9] at H; have c9b0 : decide (x15_1 < (l0_0.length : Int)) = false := decide_eq_false c9; clear c9; obtain rfl := Option.some.inj H
      go_wp2
      go_ret
      exact ⟨_, by first | rfl | exact congrArg (fun b_ => Ending.returned (Value.bool b_)) HRET.out | (rw [HRET.out]) | (simp [errW_none, errW_some] <;> rfl) | (simp [*, errW_none, errW_some] <;> rfl), by (with_reducible repeat (first | apply Kd.R_alloc | apply Kd.R_drewN | apply Kd.R_drew)); exact HO_3.out, by repeat (first | (with_reducible first | exact HB.out | apply wA | apply wN | apply wD | refine wS ?_ GE143.out) | exact HB.out)⟩
  ·
   rw [if_neg c3] at H; exact absurd H (by simp)
 ·
  rw [if_neg c2] at H; exact absurd H (by simp)
end Go.Proofs.Ytkigiehkckjlhaa.PMakes
