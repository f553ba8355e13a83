/- The Go functions that these laws reach, each as a Lean function with the same answers (a law itself where it answers true), and the proof that the code comes to them; conditions: those of each theorem. Laid by a program of this session over the print. -/
import Derived.Test.YtkigiehkckjlhaaZSumsPSumsx0
namespace Go.Proofs.Ytkigiehkckjlhaa.PSums
open Go.RowKit Go.Proofs.YtkigiehkckjlhaaW.PrintWords Go.Proofs.YtkigiehkckjlhaaW.PrintLast Go.Proofs.YtkigiehkckjlhaaW.PrintMore
attribute [local go_sem] max2_int min2_int max_two min_two max_three min_three max_four min_four   -- for this text's walks alone
set_option linter.unusedVariables false
set_option linter.unusedSimpArgs false
open Go.Proofs.YtkigiehkckjlhaaW.PrintWords renaming blk_drewN → bN, blk_drew → bD, blk_alloc → bA, below_set → wS, below_alloc → wA, pw_below_drewN → wN, below_drew1 → wD, blk_below → bB, blk_far → bF, blk_cell → bC, blk_frozen → bZ
open List renaming setIfInBounds_toArray → lT, set_cons_zero → l0_, set_cons_succ → lS
mutual
def potsherdref12_reached.j0 : Nat → Int → List Bool → Bool → List (S28) → Option (List Bool)
 | 0, _, _, _, _ => none
 | k + 1, x1, x5, x30, x205000 => if x30 = true then (some x5) else (if 0 ≤ x1 then (if x1 < (x5.length : Int) then (potsherdref12_reached.l0 k (x5.set (x1 : Int).toNat true) (x5.length : Int) 0 x205000) else (none)) else (none))
def potsherdref12_reached.l0 : Nat → List Bool → Int → Int → List (S28) → Option (List Bool)
 | 0, _, _, _, _ => none
 | k + 1, x5, x36, x37, x205000 => if x37 < x36 then (potsherdref12_reached.l1 k x5 x36 x37 x205000 (x205000.length : Int) 0 x205000) else (some x5)
def potsherdref12_reached.l1 : Nat → List Bool → Int → Int → List (S28) → Int → Int → List (S28) → Option (List Bool)
 | 0, _, _, _, _, _, _, _ => none
 | k + 1, x5, x36, x37, x40, x41, x42, x205000 => if x42 < x41 then (if 0 ≤ x42 then (if x42 < (x40.length : Int) then (if x42 < (x5.length : Int) then (if rdOf false x5 x42 = true then (potsherdref12_reached.l2 k x5 x36 x37 x40 x41 x42 ((rd_T28 x40 x42).f4) (((rd_T28 x40 x42).f4).length : Int) 0 x205000) else (potsherdref12_reached.l1 k x5 x36 x37 x40 x41 (wrap64 (x42 + 1)) x205000)) else (none)) else (none)) else (none)) else (potsherdref12_reached.l0 k x5 x36 (wrap64 (x37 + 1)) x205000)
def potsherdref12_reached.l2 : Nat → List Bool → Int → Int → List (S28) → Int → Int → List (S78) → Int → Int → List (S28) → Option (List Bool)
 | 0, _, _, _, _, _, _, _, _, _, _ => none
 | k + 1, x5, x36, x37, x40, x41, x42, x53, x54, x55, x205000 => if x55 < x54 then (if 0 ≤ x55 then (if x55 < (x53.length : Int) then (if ((rd_T78 x53 x55).f1) ≥ 0 then (if ((rd_T78 x53 x55).f1) < (x5.length : Int) then (if 0 ≤ ((rd_T78 x53 x55).f1) then (if ((rd_T78 x53 x55).f1) < (x205000.length : Int) then (if ((rd_T28 x205000 ((rd_T78 x53 x55).f1)).f0) = 2 then (potsherdref12_reached.l2 k (x5.set (((rd_T78 x53 x55).f1) : Int).toNat true) x36 x37 x40 x41 x42 x53 x54 (wrap64 (x55 + 1)) x205000) else (potsherdref12_reached.l2 k x5 x36 x37 x40 x41 x42 x53 x54 (wrap64 (x55 + 1)) x205000)) else (none)) else (none)) else (potsherdref12_reached.l2 k x5 x36 x37 x40 x41 x42 x53 x54 (wrap64 (x55 + 1)) x205000)) else (potsherdref12_reached.l2 k x5 x36 x37 x40 x41 x42 x53 x54 (wrap64 (x55 + 1)) x205000)) else (none)) else (none)) else (potsherdref12_reached.l1 k x5 x36 x37 x40 x41 (wrap64 (x42 + 1)) x205000)
end
def potsherdref12_reached.f (k : Nat) (l0_0 : List (S28)) (a1 : Int) : Option (List Bool) := if 0 ≤ (l0_0.length : Int) then (if ((l0_0.length : Int) : Int).toNat ≤ 281474976710656 then ((some (List.replicate ((l0_0.length : Int) : Int).toNat false : List Bool)).bind fun y205 => (if a1 < 0 then (potsherdref12_reached.j0 k a1 y205 true l0_0) else (if a1 ≥ (y205.length : Int) then (potsherdref12_reached.j0 k a1 y205 true l0_0) else (if 0 ≤ a1 then (if a1 < (l0_0.length : Int) then (potsherdref12_reached.j0 k a1 y205 (((rd_T28 l0_0 a1).f0) != 2) l0_0) else (none)) else (none))))) else (none)) else (none)
theorem potsherdref12_reached.mono_l : ∀ k, (∀ y0 y1 y2 y3, LeO (potsherdref12_reached.j0 k y0 y1 y2 y3) (potsherdref12_reached.j0 (k + 1) y0 y1 y2 y3)) ∧ (∀ y0 y1 y2 y3, LeO (potsherdref12_reached.l0 k y0 y1 y2 y3) (potsherdref12_reached.l0 (k + 1) y0 y1 y2 y3)) ∧ (∀ y0 y1 y2 y3 y4 y5 y6, LeO (potsherdref12_reached.l1 k y0 y1 y2 y3 y4 y5 y6) (potsherdref12_reached.l1 (k + 1) y0 y1 y2 y3 y4 y5 y6)) ∧ (∀ y0 y1 y2 y3 y4 y5 y6 y7 y8 y9, LeO (potsherdref12_reached.l2 k y0 y1 y2 y3 y4 y5 y6 y7 y8 y9) (potsherdref12_reached.l2 (k + 1) y0 y1 y2 y3 y4 y5 y6 y7 y8 y9))
 | 0 => ⟨fun _ _ _ _ r h => by simp [potsherdref12_reached.j0] at h, fun _ _ _ _ r h => by simp [potsherdref12_reached.l0] at h, fun _ _ _ _ _ _ _ r h => by simp [potsherdref12_reached.l1] at h, fun _ _ _ _ _ _ _ _ _ _ r h => by simp [potsherdref12_reached.l2] at h⟩
 | k + 1 => by
  obtain ⟨ih0, ih1, ih2, ih3⟩ := potsherdref12_reached.mono_l k; refine ⟨?_, ?_, ?_, ?_⟩
  ·
   intro y0 y1 y2 y3
   unfold potsherdref12_reached.j0
   repeat' first
   | (with_reducible exact ih0 _ _ _ _)
   | (with_reducible exact ih1 _ _ _ _)
   | (with_reducible exact ih2 _ _ _ _ _ _ _)
   | (with_reducible exact ih3 _ _ _ _ _ _ _ _ _ _)
   | (with_reducible exact LeO.refl _)
   | (with_reducible exact LeO.none _)
   | (with_reducible refine LeO.ite ?_ ?_)
   | (with_reducible refine LeO.bind ?_ (fun _ => ?_))
   | exact ih0 _ _ _ _
   | exact ih1 _ _ _ _
   | exact ih2 _ _ _ _ _ _ _
   | exact ih3 _ _ _ _ _ _ _ _ _ _
   | exact LeO.none _
   | refine LeO.ite ?_ ?_
   | refine LeO.bind ?_ (fun _ => ?_)
  ·
   intro y0 y1 y2 y3
   unfold potsherdref12_reached.l0
   repeat' first
   | (with_reducible exact ih0 _ _ _ _)
   | (with_reducible exact ih1 _ _ _ _)
   | (with_reducible exact ih2 _ _ _ _ _ _ _)
   | (with_reducible exact ih3 _ _ _ _ _ _ _ _ _ _)
   | (with_reducible exact LeO.refl _)
   | (with_reducible exact LeO.none _)
   | (with_reducible refine LeO.ite ?_ ?_)
   | (with_reducible refine LeO.bind ?_ (fun _ => ?_))
   | exact ih0 _ _ _ _
   | exact ih1 _ _ _ _
   | exact ih2 _ _ _ _ _ _ _
   | exact ih3 _ _ _ _ _ _ _ _ _ _
   | exact LeO.none _
   | refine LeO.ite ?_ ?_
   | refine LeO.bind ?_ (fun _ => ?_)
  ·
   intro y0 y1 y2 y3 y4 y5 y6
   unfold potsherdref12_reached.l1
   repeat' first
   | (with_reducible exact ih0 _ _ _ _)
   | (with_reducible exact ih1 _ _ _ _)
   | (with_reducible exact ih2 _ _ _ _ _ _ _)
   | (with_reducible exact ih3 _ _ _ _ _ _ _ _ _ _)
   | (with_reducible exact LeO.refl _)
   | (with_reducible exact LeO.none _)
   | (with_reducible refine LeO.ite ?_ ?_)
   | (with_reducible refine LeO.bind ?_ (fun _ => ?_))
   | exact ih0 _ _ _ _
   | exact ih1 _ _ _ _
   | exact ih2 _ _ _ _ _ _ _
   | exact ih3 _ _ _ _ _ _ _ _ _ _
   | exact LeO.none _
   | refine LeO.ite ?_ ?_
   | refine LeO.bind ?_ (fun _ => ?_)
  ·
   intro y0 y1 y2 y3 y4 y5 y6 y7 y8 y9
   unfold potsherdref12_reached.l2
   repeat' first
   | (with_reducible exact ih0 _ _ _ _)
   | (with_reducible exact ih1 _ _ _ _)
   | (with_reducible exact ih2 _ _ _ _ _ _ _)
   | (with_reducible exact ih3 _ _ _ _ _ _ _ _ _ _)
   | (with_reducible exact LeO.refl _)
   | (with_reducible exact LeO.none _)
   | (with_reducible refine LeO.ite ?_ ?_)
   | (with_reducible refine LeO.bind ?_ (fun _ => ?_))
   | exact ih0 _ _ _ _
   | exact ih1 _ _ _ _
   | exact ih2 _ _ _ _ _ _ _
   | exact ih3 _ _ _ _ _ _ _ _ _ _
   | exact LeO.none _
   | refine LeO.ite ?_ ?_
   | refine LeO.bind ?_ (fun _ => ?_)
theorem potsherdref12_reached.mono : ∀ a0 a1 k, LeO (potsherdref12_reached.f k a0 a1) (potsherdref12_reached.f (k + 1) a0 a1) := by
 intro a0 a1 k; obtain ⟨ih0, ih1, ih2, ih3⟩ := potsherdref12_reached.mono_l k
 unfold potsherdref12_reached.f
 repeat' first
  | (with_reducible exact ih0 _ _ _ _)
  | (with_reducible exact ih1 _ _ _ _)
  | (with_reducible exact ih2 _ _ _ _ _ _ _)
  | (with_reducible exact ih3 _ _ _ _ _ _ _ _ _ _)
  | (with_reducible exact LeO.refl _)
  | (with_reducible exact LeO.none _)
  | (with_reducible refine LeO.ite ?_ ?_)
  | (with_reducible refine LeO.bind ?_ (fun _ => ?_))
  | exact ih0 _ _ _ _
  | exact ih1 _ _ _ _
  | exact ih2 _ _ _ _ _ _ _
  | exact ih3 _ _ _ _ _ _ _ _ _ _
  | exact LeO.none _
  | refine LeO.ite ?_ ?_
  | refine LeO.bind ?_ (fun _ => ?_)
set_option maxHeartbeats 8000000 in
set_option maxRecDepth 100000 in
theorem potsherdref12_reached.calls (k : Nat) (A0_0 : Option Addr) (c0_0 : Nat) (l0_0 : List (S28)) (a1 : Int) (r : List Bool) (w : World) (hr0_0 : Kd.C k28 w A0_0 l0_0.length l0_0) (hc0_0 : l0_0.length ≤ c0_0) (h : potsherdref12_reached.f k l0_0 a1 = some r) :
 Calls Try.prog 51 #[.agg #[.slice A0_0 l0_0.length c0_0], .int .i64 a1] w fun e w' => ∃ v0_ : Value, e = .returned (v0_) ∧ Kd.R Kd.bool 4 w' w.heap.size (fun _ => True) v0_ r ∧ Below w.heap.size w w' := by
 have hu24 := Try.underlying24; have hu28 := Try.underlying28; have hu78 := Try.underlying78; have HR0_0 := Aside0.mk hr0_0; have HC0_0 := Aside0.mk hc0_0; clear hr0_0 hc0_0; have HB := Aside0.mk (Below.refl w.heap.size w); have H : (if 0 ≤ (l0_0.length : Int) then (if ((l0_0.length : Int) : Int).toNat ≤ 281474976710656 then ((some (List.replicate ((l0_0.length : Int) : Int).toNat false : List Bool)).bind fun y205 => (if a1 < 0 then (potsherdref12_reached.j0 k a1 y205 true l0_0) else (if a1 ≥ (y205.length : Int) then (potsherdref12_reached.j0 k a1 y205 true l0_0) else (if 0 ≤ a1 then (if a1 < (l0_0.length : Int) then (potsherdref12_reached.j0 k a1 y205 (((rd_T28 l0_0 a1).f0) != 2) l0_0) else (none)) else (none))))) else (none)) else (none)) = some r := h; clear h
 by_cases c3 : 0 ≤ (l0_0.length : Int)
 ·
  rw [if_pos c3] at H; have c3b0 := eq_true c3; have c3b1 : decide (0 ≤ (l0_0.length : Int)) = true := decide_eq_true c3; clear c3
  by_cases c4 : ((l0_0.length : Int) : Int).toNat ≤ 281474976710656
  ·
   rw [if_pos c4] at H; have c4b0 := eq_true c4; have c4b1 : decide (((l0_0.length : Int) : Int).toNat ≤ 281474976710656) = true := decide_eq_true c4; clear c4; obtain ⟨y205, hy205⟩ : ∃ y_ : List Bool, y_ = (List.replicate ((l0_0.length : Int) : Int).toNat false) := ⟨_, rfl⟩
   replace H : (if a1 < 0 then (potsherdref12_reached.j0 k a1 y205 true l0_0) else (if a1 ≥ (y205.length : Int) then (potsherdref12_reached.j0 k a1 y205 true l0_0) else (if 0 ≤ a1 then (if a1 < (l0_0.length : Int) then (potsherdref12_reached.j0 k a1 y205 (((rd_T28 l0_0 a1).f0) != 2) l0_0) else (none)) else (none)))) = some r := by first | (rw [hy205]; with_reducible exact H) | (have H2_ := (Option.bind_some _ _).symm.trans H; rw [hy205]; with_reducible exact H2_) | (have H2_ := (Option.bind_some _ _).symm.trans H; with_reducible exact H2_) | with_reducible exact H | (rw [hy205]; exact H) | exact H
   have Ny205 := Aside0.mk hy205; clear hy205; have HC5 := Aside0.mk H; clear H
   go_enter Try.func51, Try.ntmps51
   go_upto_region 2 with (first | ((with_reducible refine gate_dst (N := 2) rfl ?_); (try (refine gate_guard (by rfl) ?_; dsimp only)); refine box_event ?hg (N := 2) ?hd (cs := #[.slice A0_0 l0_0.length c0_0]) (t := 24) ?hr ?_; (case hd => rfl); (case hg => rfl); (case hr => first | (go_simp; done) | (go_simp; rfl)); intro gb204 hg w6 hbox hb; have n0_ := Aside0.mk (below_step (by repeat (first | (with_reducible first | exact HB.out | apply wA | apply wN | apply wD) | exact HB.out)) hb); have n1_ := Aside0.mk (hbox); have n2_ := Aside0.mk ((by rw [hg]; exact (below_size (by repeat (first | (with_reducible first | exact HB.out | apply wA | apply wN | apply wD) | exact HB.out))) : w.heap.size ≤ gb204)); have n3_ := Aside0.mk ((by rw [hg]; exact (below_size (by repeat (first | (with_reducible first | exact HB.out | apply wA | apply wN | apply wD) | exact HB.out))) : w.heap.size ≤ gb204)); clear HB; have HB := n0_; have BK204 := n1_; have GW204 := n2_; have GE204 := n3_; clear n0_ n1_ n2_ n3_; clear hb hbox hg; have hcz7_0 : w6.cell? ⟨gb204, 0, none⟩ = some (.slice A0_0 l0_0.length c0_0) := (bC BK204.out 0).trans rfl; have hfz7_0 := bZ BK204.out 0) | ((with_reducible refine gate_dst (N := 13) rfl ?_); (try (refine gate_guard (by rfl) ?_; dsimp only)); refine Kd.R_make Kd.bool _ 4 rfl (N := 13) rfl 79 _ _ rfl (l0_0.length : Int) rfl rfl Try.underlying79 (.bool false) 1 info4 rfl (by decide) (by omega) false (ok := fun _ => True) (okp := fun _ => True) rfl (fun _ hk => hk) trivial (of_decide_eq_true (by first | (with_reducible assumption) | assumption)) (Nat.le_trans (Nat.mul_le_mul_right _ (of_decide_eq_true (by first | (with_reducible assumption) | assumption) : (l0_0.length : Int).toNat ≤ 281474976710656)) (by omega)) (Below.refl _ _) (Nat.le_refl _) ?_; intro v206 w8 ho9 hb hg_ hnew_; clear hg_ hnew_; (first | rw [← Ny205.out] at ho9 | (simp only [Int.reduceToNat] at ho9; rw [← Ny205.out] at ho9)); have n0_ := Aside0.mk (Kd.R_lower ho9 (below_size (by repeat (first | (with_reducible first | exact HB.out | apply wA | apply wN | apply wD | refine wS ?_ GE204.out) | exact HB.out)))); have n1_ := Aside0.mk (bB (g := gb204) (o := .cells #[.slice A0_0 l0_0.length c0_0] 24 (0, 0)) (by (with_reducible repeat (first | refine bN ?_ _ | refine bD ?_ | refine bA ?_ _)); exact BK204.out) hb); have n2_ := Aside0.mk (below_step (by repeat (first | (with_reducible first | exact HB.out | apply wA | apply wN | apply wD | refine wS ?_ GE204.out) | exact HB.out)) hb); clear BK204; clear HB; have HO207 := n0_; have BK204 := n1_; have HB := n2_; clear n0_ n1_ n2_; clear hb ho9))
   (try simp only [Act.put, lT, l0_, lS])
   go_cut [30] (fun v30 wc => ∃ (kq : Nat) (x30_4 : Bool), v30 = .bool x30_4 ∧ Aside0 (potsherdref12_reached.j0 kq a1 y205 x30_4 l0_0 = some r) ∧ Aside0 (kq ≤ k) ∧ Aside0 (Kd.R Kd.bool 4 wc w.heap.size (fun _ => True) v206 y205) ∧ Aside0 (wc.heap[gb204]? = some (.cells #[(.slice A0_0 l0_0.length c0_0)] 24 (0, 0))) ∧ Aside0 (Below w.heap.size w wc))
   case first =>
    have H := HC5.out; clear HC5
    by_cases c10 : a1 < 0
    ·
     rw [if_pos c10] at H; have c10b0 : decide (a1 < 0) = true := decide_eq_true c10; clear c10
     (first | rw [c10b0] | (simp only [i64_w, i32_w]; rw [c10b0]) | skip)
     have H' := Aside0.mk H; clear H
     go_wp2
     go_meet
     case rel => exact ⟨_, (true), (by first | rfl | (simp; done) | (simp [*]; done)), H', ⟨by first | omega | exact Nat.le_refl _⟩, ⟨by (with_reducible repeat (first | apply Kd.R_alloc | apply Kd.R_drewN | apply Kd.R_drew)); exact HO207.out⟩, ⟨by (with_reducible repeat (first | refine bN ?_ _ | refine bD ?_ | refine bA ?_ _)); exact BK204.out⟩, ⟨by repeat (first | (with_reducible first | exact HB.out | apply wA | apply wN | apply wD | refine wS ?_ GE204.out) | exact HB.out)⟩⟩
    ·
     rw [if_neg c10] at H; have c10b0 : decide (a1 < 0) = false := decide_eq_false c10; clear c10
     (first | rw [c10b0] | (simp only [i64_w, i32_w]; rw [c10b0]) | skip)
     by_cases c11 : a1 ≥ (y205.length : Int)
     ·
      rw [if_pos c11] at H; have c11b0 : decide ((y205.length : Int) ≤ a1) = true := decide_eq_true c11; clear c11; have H' := Aside0.mk H; clear H; obtain ⟨Ao12, co12, eo12⟩ := Kd.R_slice HO207.out; subst eo12
      go_wp2
      go_meet
      case rel => exact ⟨_, (true), (by first | rfl | (simp; done) | (simp [*]; done)), H', ⟨by first | omega | exact Nat.le_refl _⟩, ⟨by (with_reducible repeat (first | apply Kd.R_alloc | apply Kd.R_drewN | apply Kd.R_drew)); exact HO207.out⟩, ⟨by (with_reducible repeat (first | refine bN ?_ _ | refine bD ?_ | refine bA ?_ _)); exact BK204.out⟩, ⟨by repeat (first | (with_reducible first | exact HB.out | apply wA | apply wN | apply wD | refine wS ?_ GE204.out) | exact HB.out)⟩⟩
     ·
      rw [if_neg c11] at H; have c11b0 : decide ((y205.length : Int) ≤ a1) = false := decide_eq_false c11; clear c11
      by_cases c13 : 0 ≤ a1
      ·
       rw [if_pos c13] at H; have c13b0 : decide (0 ≤ a1) = true := decide_eq_true c13; clear c13
       by_cases c14 : a1 < (l0_0.length : Int)
       ·
        rw [if_pos c14] at H; have c14b0 : decide (a1 < (l0_0.length : Int)) = true := decide_eq_true c14; clear c14; have H' := Aside0.mk H; clear H; obtain ⟨Ao15, co15, eo15⟩ := Kd.R_slice HO207.out; subst eo15; have hcz16_0 : w8.cell? ⟨gb204, 0, none⟩ = some (.slice A0_0 l0_0.length c0_0) := (bC BK204.out 0).trans rfl; have hfz16_0 := bZ BK204.out 0; have p208 : 0 ≤ (a1 : Int) := of_decide_eq_true (by first | (with_reducible assumption) | assumption); have q208 : a1 < (l0_0.length : Int) := of_decide_eq_true (by first | (with_reducible assumption) | assumption); obtain ⟨ad208, A208_3, c208_3, A208_4, c208_4, e208, hx208_0, hx208_1, hx208_2, hx208_3, hx208_4, hl208_3, hi208_3, hl208_4, hi208_4⟩ := at_T28 HR0_0.out a1 p208 q208
        cases e208
        replace hx208_0 := (HB.out.cell (World.block_lt_of_cell? w _ hx208_0)).trans hx208_0; replace hx208_1 := (HB.out.cell (World.block_lt_of_cell? w _ hx208_1)).trans hx208_1; replace hx208_2 := (HB.out.cell (World.block_lt_of_cell? w _ hx208_2)).trans hx208_2; replace hx208_3 := (HB.out.cell (World.block_lt_of_cell? w _ hx208_3)).trans hx208_3; replace hx208_4 := (HB.out.cell (World.block_lt_of_cell? w _ hx208_4)).trans hx208_4; have HR208_3 := Aside0.mk hi208_3; have HC208_3 := Aside0.mk hl208_3; clear hi208_3 hl208_3; have HR208_4 := Aside0.mk hi208_4; have HC208_4 := Aside0.mk hl208_4; clear hi208_4 hl208_4; replace p208 := eq_true p208; replace q208 := eq_true q208
        go_wp2
        go_meet
        case rel => exact ⟨_, ((((rd_T28 l0_0 a1).f0) != 2)), (by first | rfl | (simp; done) | (simp [*]; done)), H', ⟨by first | omega | exact Nat.le_refl _⟩, ⟨by (with_reducible repeat (first | apply Kd.R_alloc | apply Kd.R_drewN | apply Kd.R_drew)); exact HO207.out⟩, ⟨by (with_reducible repeat (first | refine bN ?_ _ | refine bD ?_ | refine bA ?_ _)); exact BK204.out⟩, ⟨by repeat (first | (with_reducible first | exact HB.out | apply wA | apply wN | apply wD | refine wS ?_ GE204.out) | exact HB.out)⟩⟩
       ·
        rw [if_neg c14] at H; exact absurd H (by simp)
      ·
       rw [if_neg c13] at H; exact absurd H (by simp)
   case rest =>
    clear HC5
    try clear c1
    try clear c2
    try clear p2
    try clear q2
    try clear hx2
    try clear c3
    try clear c3b0
    try clear c3b1
    try clear c4
    try clear c4b0
    try clear c4b1
    try clear c5
    try clear c10
    try clear c10b0
    try clear c11
    try clear c11b0
    try clear c13
    try clear c13b0
    try clear c14
    try clear c14b0
    try clear hcz16_0
    try clear hcz7_0
    try clear hfz16_0
    try clear hfz7_0
    try clear hx208_0
    try clear hx208_1
    try clear hx208_2
    try clear hx208_3
    try clear hx208_4
    try clear p208
    try clear q208
    obtain ⟨kq, x30_4, rfl, HA, HJ4, HO_5, BK204, HB⟩ := hcut
    cases kq with
    | zero => exact absurd HA.out (by simp [potsherdref12_reached.j0])
    | succ kj4 =>
     have H := HA.out; clear HA; simp only [potsherdref12_reached.j0] at H
     by_cases c17 : x30_4 = true
     ·
      subst c17
      have H1 : (some y205) = some r := by rw [if_pos rfl] at H; exact H
      clear H; have H := H1; clear H1; obtain rfl := Option.some.inj H
      go_wp2
      go_ret
      exact ⟨_, by first | rfl | exact congrArg (fun b_ => Ending.returned (Value.bool b_)) HRET.out | (rw [HRET.out]) | (simp [errW_none, errW_some] <;> rfl) | (simp [*, errW_none, errW_some] <;> rfl), by (with_reducible repeat (first | apply Kd.R_alloc | apply Kd.R_drewN | apply Kd.R_drew)); exact HO_5.out, by repeat (first | (with_reducible first | exact HB.out | apply wA | apply wN | apply wD | refine wS ?_ GE204.out) | exact HB.out)⟩
     ·
      replace c17 := Bool.eq_false_iff.mpr c17; subst c17
      have H1 : (if 0 ≤ a1 then (if a1 < (y205.length : Int) then (potsherdref12_reached.l0 kj4 (y205.set (a1 : Int).toNat true) (y205.length : Int) 0 l0_0) else (none)) else (none)) = some r := by rw [if_neg (show ¬ (false = true) by decide)] at H; exact H
      clear H; have H := H1; clear H1
      by_cases c18 : 0 ≤ a1
      ·
       rw [if_pos c18] at H; have c18b0 : decide (0 ≤ a1) = true := decide_eq_true c18; clear c18
       by_cases c19 : a1 < (y205.length : Int)
       ·
        rw [if_pos c19] at H; have c19b0 : decide (a1 < (y205.length : Int)) = true := decide_eq_true c19; clear c19; obtain ⟨y209, hy209⟩ : ∃ y_ : List Bool, y_ = (y205.set (a1 : Int).toNat true) := ⟨_, rfl⟩
        replace H : (potsherdref12_reached.l0 kj4 y209 (y205.length : Int) 0 l0_0) = some r := by first | (rw [hy209]; with_reducible exact H) | (have H2_ := (Option.bind_some _ _).symm.trans H; rw [hy209]; with_reducible exact H2_) | (have H2_ := (Option.bind_some _ _).symm.trans H; with_reducible exact H2_) | with_reducible exact H | (rw [hy209]; exact H) | exact H
        have Ny209 := Aside0.mk hy209; clear hy209; have H' := Aside0.mk H; clear H; have p20 : 0 ≤ (a1 : Int) := of_decide_eq_true (by first | (with_reducible assumption) | assumption); have q20 : (a1 : Int) < ((y205.length : Int) : Int) := of_decide_eq_true (by first | (with_reducible assumption) | assumption); obtain ⟨go20, co20, eo20, gb20, gl20, cl20, HG20⟩ := Kd.R_form HO_5.out (by omega)
        (first | cases eo20 | (injection eo20 with ea_ en_ ec_; (first | subst ea_ | (injection ea_ with ea_; subst ea_)); subst ec_; clear en_))
        have GB20 := Aside0.mk gb20; have GG20 := Aside0.mk HG20; clear gb20 gl20 HG20; obtain ⟨hx20_0, hf20_0⟩ := Kd.R_celln false HO_5.out (a1 : Int) p20 q20; replace p20 := eq_true p20; replace q20 := eq_true q20; have HP21 := Kd.R_putg HO_5.out (a1 : Int) true
        go_wp2_with (first | ((with_reducible refine gate_store (t := 4) (p := 34) rfl ?_); refine store_event (t := 4) (p := 34) (v := ?vo_w22) (w1 := (wc.setCell ⟨go20, (a1 : Int).toNat, none⟩ (.bool true))) ?hg ?ho ?hn ?hr ?_; (case ho => rfl); (case hg => rfl); (case hn => rfl); (case hr => first | (go_simp; done) | (go_simp; rfl)); intro w22 hw; have hg : wc.grownBy w22 (some go20) := (by rw [hw]; exact HP21.2); have hp_ : Kd.R Kd.bool 4 w22 w.heap.size (fun _ => True) (.slice (some ⟨go20, 0, none⟩) y205.length co20) y209 := (by rw [hw, Ny209.out]; exact HP21.1); clear HP21; have n0_ := Aside0.mk (hp_); have n1_ := Aside0.mk (blk_grown (g := gb204) (o := .cells #[.slice A0_0 l0_0.length c0_0] 24 (0, 0)) (by (with_reducible repeat (first | refine bN ?_ _ | refine bD ?_ | refine bA ?_ _)); exact BK204.out) hg (Kd.R_ne HO_5.out BK204.out (by decide))); have n2_ := Aside0.mk ((by rw [hw]; exact wS (HB.out) GB20.out : Below w.heap.size w w22)); clear HO_5; clear BK204; clear HB; have HO_5 := n0_; have BK204 := n1_; have HB := n2_; clear n0_ n1_ n2_; clear hg hw hp_))
        go_loopg [37] kj4 (fun kq v37 w' => ∃ (x5_2 : List Bool) (x37_2 : Int), v37 = .int .i64 x37_2 ∧ Aside0 (potsherdref12_reached.l0 kq x5_2 (y205.length : Int) x37_2 l0_0 = some r) ∧ Aside0 (kq ≤ kj4) ∧ Aside0 (Kd.R Kd.bool 4 w' w.heap.size (fun _ => True) (.slice (some ⟨go20, 0, none⟩) y205.length co20) x5_2) ∧ Aside0 (w'.heap[gb204]? = some (.cells #[(.slice A0_0 l0_0.length c0_0)] 24 (0, 0))) ∧ Aside0 (Below w.heap.size w w'))
        case atStart => exact ⟨(y209), (0), (by first | rfl | (simp; done) | (simp [*]; done)), H', ⟨Nat.le_refl _⟩, ⟨by (with_reducible repeat (first | apply Kd.R_alloc | apply Kd.R_drewN | apply Kd.R_drew)); exact HO_5.out⟩, ⟨by (with_reducible repeat (first | refine bN ?_ _ | refine bD ?_ | refine bA ?_ _)); exact BK204.out⟩, ⟨by repeat (first | (with_reducible first | exact HB.out | apply wA | apply wN | apply wD | refine wS ?_ GE204.out) | exact HB.out)⟩⟩
        case round =>
         clear H'
         try clear c1
         try clear c2
         try clear p2
         try clear q2
         try clear hx2
         try clear hf2
         try clear c3
         try clear c3b0
         try clear c3b1
         try clear c4
         try clear c4b0
         try clear c4b1
         try clear c5
         try clear c10
         try clear c10b0
         try clear c11
         try clear c11b0
         try clear c13
         try clear c13b0
         try clear c14
         try clear c14b0
         try clear c17
         try clear c18
         try clear c18b0
         try clear c19
         try clear c19b0
         try clear c20
         try clear p20
         try clear q20
         try clear hx20
         try clear hf20
         try clear hcz16_0
         try clear hcz7_0
         try clear hfz16_0
         try clear hfz7_0
         try clear hx208_0
         try clear hx208_1
         try clear hx208_2
         try clear hx208_3
         try clear hx208_4
         try clear hx20_0
         try clear p2
         try clear p20
         try clear p208
         try clear q2
         try clear q20
         try clear q208
         obtain ⟨x5_2, x37_2, rfl, HA, HK2, HO_5, BK204, HB⟩ := hrel; have hl5_2 := (Kd.R_reads' HO_5.out).1; rw [hl5_2] at HO_5
         (try simp only [hl5_2])
         (try simp only [hl5_2] at BK204)
         cases gk with
         | zero => exact absurd HA.out (by simp [potsherdref12_reached.l0])
         | succ k2 =>
          have H := HA.out; clear HA; simp only [potsherdref12_reached.l0] at H
          by_cases c23 : x37_2 < (y205.length : Int)
          ·
           rw [if_pos c23] at H; have c23b0 : decide (x37_2 < (y205.length : Int)) = true := decide_eq_true c23; clear c23; (first | simp only [hl5_2] at c23b0 | skip); have H' := Aside0.mk H; clear H; have hcz24_0 : wr.cell? ⟨gb204, 0, none⟩ = some (.slice A0_0 l0_0.length c0_0) := (bC BK204.out 0).trans rfl; have hfz24_0 := bZ BK204.out 0
           go_wp2
           go_loopg [42] k2 (fun kq v42 w' => ∃ (x5_3 : List Bool) (x42_3 : Int), v42 = .int .i64 x42_3 ∧ Aside0 (potsherdref12_reached.l1 kq x5_3 (y205.length : Int) x37_2 l0_0 (l0_0.length : Int) x42_3 l0_0 = some r) ∧ Aside0 (kq ≤ k2) ∧ Aside0 (Kd.R Kd.bool 4 w' w.heap.size (fun _ => True) (.slice (some ⟨go20, 0, none⟩) x5_2.length co20) x5_3) ∧ Aside0 (w'.heap[gb204]? = some (.cells #[(.slice A0_0 l0_0.length c0_0)] 24 (0, 0))) ∧ Aside0 (Below w.heap.size w w'))
           case atStart => exact ⟨(x5_2), (0), (by first | rfl | (simp; done) | (simp [*]; done)), H', ⟨Nat.le_refl _⟩, ⟨by (try simp only [hl5_2]); (with_reducible repeat (first | apply Kd.R_alloc | apply Kd.R_drewN | apply Kd.R_drew)); exact HO_5.out⟩, ⟨by (try simp only [hl5_2]); (with_reducible repeat (first | refine bN ?_ _ | refine bD ?_ | refine bA ?_ _)); exact BK204.out⟩, ⟨by repeat (first | (with_reducible first | exact HB.out | apply wA | apply wN | apply wD | refine wS ?_ GE204.out) | exact HB.out)⟩⟩
           case round =>
            clear H'
            try clear c1
            try clear c2
            try clear p2
            try clear q2
            try clear hx2
            try clear hf2
            try clear c3
            try clear c3b0
            try clear c3b1
            try clear c4
            try clear c4b0
            try clear c4b1
            try clear c5
            try clear c10
            try clear c10b0
            try clear c11
            try clear c11b0
            try clear c13
            try clear c13b0
            try clear c14
            try clear c14b0
            try clear c17
            try clear c18
            try clear c18b0
            try clear c19
            try clear c19b0
            try clear c20
            try clear p20
            try clear q20
            try clear hx20
            try clear hf20
            try clear c23
            try clear c23b0
            try clear hcz16_0
            try clear hcz24_0
            try clear hcz7_0
            try clear hfz16_0
            try clear hfz24_0
            try clear hfz7_0
            try clear hx208_0
            try clear hx208_1
            try clear hx208_2
            try clear hx208_3
            try clear hx208_4
            try clear hx20_0
            try clear p2
            try clear p20
            try clear p208
            try clear q2
            try clear q20
            try clear q208
            obtain ⟨x5_3, x42_3, rfl, HA, HK3, HO_5, BK204, HB⟩ := hrel; have hl5_3 := (Kd.R_reads' HO_5.out).1; rw [hl5_3] at HO_5
            (try simp only [hl5_3])
            (try simp only [hl5_3] at BK204)
            cases gk with
            | zero => exact absurd HA.out (by simp [potsherdref12_reached.l1])
            | succ k3 =>
             have H := HA.out; clear HA; simp only [potsherdref12_reached.l1] at H
             by_cases c25 : x42_3 < (l0_0.length : Int)
             ·
              rw [if_pos c25] at H; have c25b0 : decide (x42_3 < (l0_0.length : Int)) = true := decide_eq_true c25; clear c25
              by_cases c26 : 0 ≤ x42_3
              ·
               rw [if_pos c26] at H; have c26b0 : decide (0 ≤ x42_3) = true := decide_eq_true c26; clear c26
               by_cases c27 : x42_3 < (l0_0.length : Int)
               ·
                rw [if_pos c27] at H; have c27b0 : decide (x42_3 < (l0_0.length : Int)) = true := decide_eq_true c27; clear c27
                by_cases c28 : x42_3 < (x5_3.length : Int)
                ·
                 rw [if_pos c28] at H; have c28b0 : decide (x42_3 < (x5_3.length : Int)) = true := decide_eq_true c28; clear c28; obtain ⟨bq29, hbq29⟩ : ∃ b_ : Bool, b_ = (rdOf false x5_3 x42_3) := ⟨_, rfl⟩
                 replace H : (if bq29 = true then (potsherdref12_reached.l2 k3 x5_3 (y205.length : Int) x37_2 l0_0 (l0_0.length : Int) x42_3 ((rd_T28 l0_0 x42_3).f4) (((rd_T28 l0_0 x42_3).f4).length : Int) 0 l0_0) else (potsherdref12_reached.l1 k3 x5_3 (y205.length : Int) x37_2 l0_0 (l0_0.length : Int) (wrap64 (x42_3 + 1)) l0_0)) = some r := by rw [← hbq29] at H; exact H
                 have Nbq29 := Aside0.mk hbq29; clear hbq29
                 by_cases c30 : bq29 = true
                 ·
                  subst c30
                  have H1 : (potsherdref12_reached.l2 k3 x5_3 (y205.length : Int) x37_2 l0_0 (l0_0.length : Int) x42_3 ((rd_T28 l0_0 x42_3).f4) (((rd_T28 l0_0 x42_3).f4).length : Int) 0 l0_0) = some r := by rw [if_pos rfl] at H; exact H
                  clear H; have H := H1; clear H1; have H' := Aside0.mk H; clear H; have p210 : 0 ≤ (x42_3 : Int) := of_decide_eq_true (by first | (with_reducible assumption) | assumption); have q210 : x42_3 < (l0_0.length : Int) := of_decide_eq_true (by first | (with_reducible assumption) | assumption); obtain ⟨ad210, A210_3, c210_3, A210_4, c210_4, e210, hx210_0, hx210_1, hx210_2, hx210_3, hx210_4, hl210_3, hi210_3, hl210_4, hi210_4⟩ := at_T28 HR0_0.out x42_3 p210 q210
                  cases e210
                  replace hx210_0 := (HB.out.cell (World.block_lt_of_cell? w _ hx210_0)).trans hx210_0; replace hx210_1 := (HB.out.cell (World.block_lt_of_cell? w _ hx210_1)).trans hx210_1; replace hx210_2 := (HB.out.cell (World.block_lt_of_cell? w _ hx210_2)).trans hx210_2; replace hx210_3 := (HB.out.cell (World.block_lt_of_cell? w _ hx210_3)).trans hx210_3; replace hx210_4 := (HB.out.cell (World.block_lt_of_cell? w _ hx210_4)).trans hx210_4; have HR210_3 := Aside0.mk hi210_3; have HC210_3 := Aside0.mk hl210_3; clear hi210_3 hl210_3; have HR210_4 := Aside0.mk hi210_4; have HC210_4 := Aside0.mk hl210_4; clear hi210_4 hl210_4; replace p210 := eq_true p210; replace q210 := eq_true q210
                  go_wp2_with (first | ((with_reducible refine gate_dst (N := 7) rfl ?_); (try (refine gate_guard (by rfl) ?_; dsimp only)); refine box_event ?hg (N := 7) ?hd (cs := #[.int .i64 0, .int .i64 0, .int .i64 0, .slice none 0 0, .slice none 0 0]) (t := 28) ?hr ?_; (case hd => rfl); (case hg => rfl); (case hr => first | (go_simp; done) | (go_simp; rfl)); intro gb211 hg w31 hbox hb; have n0_ := Aside0.mk (Kd.R_below (by (with_reducible repeat (first | apply Kd.R_alloc | apply Kd.R_drewN | apply Kd.R_drew)); exact HO_5.out) hb); have n1_ := Aside0.mk (bB (g := gb204) (o := .cells #[.slice (some ad210) l0_0.length c0_0] 24 (0, 0)) (by (with_reducible repeat (first | refine bN ?_ _ | refine bD ?_ | refine bA ?_ _)); exact BK204.out) hb); have n2_ := Aside0.mk (below_step (by repeat (first | (with_reducible first | exact HB.out | apply wA | apply wN | apply wD | refine wS ?_ GE204.out) | exact HB.out)) hb); have n3_ := Aside0.mk (hbox); have n4_ := Aside0.mk ((by rw [hg]; exact (below_size (by repeat (first | (with_reducible first | exact HB.out | apply wA | apply wN | apply wD | refine wS ?_ GE204.out) | exact HB.out))) : w.heap.size ≤ gb211)); have n5_ := Aside0.mk ((by rw [hg]; exact (below_size (by repeat (first | (with_reducible first | exact HB.out | apply wA | apply wN | apply wD | refine wS ?_ GE204.out) | exact HB.out))) : w.heap.size ≤ gb211)); have n6_ := Aside0.mk ((by rw [hg]; exact Nat.ne_of_lt (blk_lt (g := gb204) (o := .cells #[.slice (some ad210) l0_0.length c0_0] 24 (0, 0)) (by (with_reducible repeat (first | refine bN ?_ _ | refine bD ?_ | refine bA ?_ _)); exact BK204.out)) : gb204 ≠ gb211)); have n7_ := Aside0.mk ((by rw [hg]; exact Nat.ne_of_gt (blk_lt (g := gb204) (o := .cells #[.slice (some ad210) l0_0.length c0_0] 24 (0, 0)) (by (with_reducible repeat (first | refine bN ?_ _ | refine bD ?_ | refine bA ?_ _)); exact BK204.out)) : gb211 ≠ gb204)); clear HO_5; clear BK204; clear HB; have HO_5 := n0_; have BK204 := n1_; have HB := n2_; have BK211 := n3_; have GW211 := n4_; have GE211 := n5_; have NB204_211 := n6_; have NB211_204 := n7_; clear n0_ n1_ n2_ n3_ n4_ n5_ n6_ n7_; clear hb hbox hg; have hnb32 := NB211_204.out; have hnc32 := NB204_211.out; have hcz33_0 : w31.cell? ⟨gb211, 0, none⟩ = some (.int .i64 0) := (bC BK211.out 0).trans rfl; have hcz33_1 : w31.cell? ⟨gb211, 1, none⟩ = some (.int .i64 0) := (bC BK211.out 1).trans rfl; have hcz33_2 : w31.cell? ⟨gb211, 2, none⟩ = some (.int .i64 0) := (bC BK211.out 2).trans rfl; have hcz33_3 : w31.cell? ⟨gb211, 3, none⟩ = some (.slice none 0 0) := (bC BK211.out 3).trans rfl; have hcz33_4 : w31.cell? ⟨gb211, 4, none⟩ = some (.slice none 0 0) := (bC BK211.out 4).trans rfl; have hfz33_0 := bZ BK211.out 0; have hfz33_1 := bZ BK211.out 1; have hfz33_2 := bZ BK211.out 2; have hfz33_3 := bZ BK211.out 3; have hfz33_4 := bZ BK211.out 4; have p212 : 0 ≤ (x42_3 : Int) := of_decide_eq_true (by first | (with_reducible assumption) | assumption); have q212 : x42_3 < (x5_3.length : Int) := of_decide_eq_true (by first | (with_reducible assumption) | assumption); obtain ⟨ad212, e212, hx212_0⟩ := Kd.at_bool (Kd.R_reads' HO_5.out).2.2 x42_3 p212 q212; (try rw [← Nbq29.out] at hx212_0); obtain rfl : (⟨go20, 0, none⟩ : Addr) = ad212 := (by injection e212); (first | simp only [add_plain] at hx212_0 | simp only [add_at] at hx212_0 | simp only [Addr.add, Nat.zero_add] at hx212_0 | skip); have hn212_0 : (⟨go20, 0, none⟩ : Addr).block ≠ gb211 := Kd.own_blk (Kd.R_ne HO_5.out BK211.out (by decide)); have hn212_1 : (⟨go20, 0, none⟩ : Addr).block ≠ gb211 := Kd.own_blk (Kd.R_ne HO_5.out BK211.out (by decide)); have hn212_2 : (⟨go20, 0, none⟩ : Addr).block ≠ gb211 := Kd.own_blk (Kd.R_ne HO_5.out BK211.out (by decide)); have hn212_3 : (⟨go20, 0, none⟩ : Addr).block ≠ gb211 := Kd.own_blk (Kd.R_ne HO_5.out BK211.out (by decide)); have hn212_4 : (⟨go20, 0, none⟩ : Addr).block ≠ gb211 := Kd.own_blk (Kd.R_ne HO_5.out BK211.out (by decide)); replace hx212_0 := (cell_far (p := ⟨gb211, 0, none⟩) (by first | (rw [add_block]; exact hn212_0) | (show (Addr.add _ _).block ≠ _; rw [add_block]; exact hn212_0) | exact hn212_0) (.int .i64 ((rd_T28 l0_0 x42_3).f0))).trans hx212_0; replace hx212_0 := (cell_far (p := ⟨gb211, 1, none⟩) (by first | (rw [add_block]; exact hn212_1) | (show (Addr.add _ _).block ≠ _; rw [add_block]; exact hn212_1) | exact hn212_1) (.int .i64 ((rd_T28 l0_0 x42_3).f1))).trans hx212_0; replace hx212_0 := (cell_far (p := ⟨gb211, 2, none⟩) (by first | (rw [add_block]; exact hn212_2) | (show (Addr.add _ _).block ≠ _; rw [add_block]; exact hn212_2) | exact hn212_2) (.int .i64 ((rd_T28 l0_0 x42_3).f2))).trans hx212_0; replace hx212_0 := (cell_far (p := ⟨gb211, 3, none⟩) (by first | (rw [add_block]; exact hn212_3) | (show (Addr.add _ _).block ≠ _; rw [add_block]; exact hn212_3) | exact hn212_3) (.slice A210_3 ((rd_T28 l0_0 x42_3).f3).length c210_3)).trans hx212_0; replace hx212_0 := (cell_far (p := ⟨gb211, 4, none⟩) (by first | (rw [add_block]; exact hn212_4) | (show (Addr.add _ _).block ≠ _; rw [add_block]; exact hn212_4) | exact hn212_4) (.slice A210_4 ((rd_T28 l0_0 x42_3).f4).length c210_4)).trans hx212_0; clear hn212_0; clear hn212_1; clear hn212_2; clear hn212_3; clear hn212_4; replace p212 := eq_true p212; replace q212 := eq_true q212))
                  go_loopg [55] k3 (fun kq v55 w' => ∃ (x5_4 : List Bool) (x55_4 : Int), v55 = .int .i64 x55_4 ∧ Aside0 (potsherdref12_reached.l2 kq x5_4 (y205.length : Int) x37_2 l0_0 (l0_0.length : Int) x42_3 ((rd_T28 l0_0 x42_3).f4) (((rd_T28 l0_0 x42_3).f4).length : Int) x55_4 l0_0 = some r) ∧ Aside0 (kq ≤ k3) ∧ Aside0 (Kd.R Kd.bool 4 w' w.heap.size (fun _ => True) (.slice (some ⟨go20, 0, none⟩) x5_3.length co20) x5_4) ∧ Aside0 (w'.heap[gb204]? = some (.cells #[(.slice (some ad210) l0_0.length c0_0)] 24 (0, 0))) ∧ Aside0 (w'.heap[gb211]? = some (.cells #[.int .i64 ((rd_T28 l0_0 x42_3).f0), .int .i64 ((rd_T28 l0_0 x42_3).f1), .int .i64 ((rd_T28 l0_0 x42_3).f2), (.slice A210_3 ((rd_T28 l0_0 x42_3).f3).length c210_3), (.slice A210_4 ((rd_T28 l0_0 x42_3).f4).length c210_4)] 28 (0, 0))) ∧ Aside0 (Below w.heap.size w w'))
                  case atStart => exact ⟨(x5_3), (0), (by first | rfl | (simp; done) | (simp [*]; done)), H', ⟨Nat.le_refl _⟩, ⟨by (try simp only [hl5_2]); (try simp only [hl5_3]); (with_reducible repeat (first | apply Kd.R_alloc | apply Kd.R_drewN | apply Kd.R_drew)); exact Kd.R_mono (Kd.R_far (p := ⟨gb211, 4, none⟩) (Kd.R_far (p := ⟨gb211, 3, none⟩) (Kd.R_far (p := ⟨gb211, 2, none⟩) (Kd.R_far (p := ⟨gb211, 1, none⟩) (Kd.R_far (p := ⟨gb211, 0, none⟩) (Kd.R_types HO_5.out BK211.out (by decide)) (fun _ hk => hk.2) (.int .i64 ((rd_T28 l0_0 x42_3).f0))) (fun _ hk => hk.2) (.int .i64 ((rd_T28 l0_0 x42_3).f1))) (fun _ hk => hk.2) (.int .i64 ((rd_T28 l0_0 x42_3).f2))) (fun _ hk => hk.2) (.slice A210_3 ((rd_T28 l0_0 x42_3).f3).length c210_3)) (fun _ hk => hk.2) (.slice A210_4 ((rd_T28 l0_0 x42_3).f4).length c210_4)) (fun _ hk => trivial)⟩, ⟨by (try simp only [hl5_2]); (try simp only [hl5_3]); (with_reducible repeat (first | refine bN ?_ _ | refine bD ?_ | refine bA ?_ _)); refine bF ?_ NB204_211.out _; (with_reducible repeat (first | refine bN ?_ _ | refine bD ?_ | refine bA ?_ _)); refine bF ?_ NB204_211.out _; (with_reducible repeat (first | refine bN ?_ _ | refine bD ?_ | refine bA ?_ _)); refine bF ?_ NB204_211.out _; (with_reducible repeat (first | refine bN ?_ _ | refine bD ?_ | refine bA ?_ _)); refine bF ?_ NB204_211.out _; (with_reducible repeat (first | refine bN ?_ _ | refine bD ?_ | refine bA ?_ _)); refine bF ?_ NB204_211.out _; (with_reducible repeat (first | refine bN ?_ _ | refine bD ?_ | refine bA ?_ _)); exact BK204.out⟩, ⟨by (try simp only [hl5_2]); (try simp only [hl5_3]); (with_reducible repeat (first | refine bN ?_ _ | refine bD ?_ | refine bA ?_ _)); refine blk_put (cs := #[.int .i64 ((rd_T28 l0_0 x42_3).f0), .int .i64 ((rd_T28 l0_0 x42_3).f1), .int .i64 ((rd_T28 l0_0 x42_3).f2), .slice A210_3 ((rd_T28 l0_0 x42_3).f3).length c210_3, .slice none 0 0]) ?_ 4 _ rfl; (with_reducible repeat (first | refine bN ?_ _ | refine bD ?_ | refine bA ?_ _)); refine blk_put (cs := #[.int .i64 ((rd_T28 l0_0 x42_3).f0), .int .i64 ((rd_T28 l0_0 x42_3).f1), .int .i64 ((rd_T28 l0_0 x42_3).f2), .slice none 0 0, .slice none 0 0]) ?_ 3 _ rfl; (with_reducible repeat (first | refine bN ?_ _ | refine bD ?_ | refine bA ?_ _)); refine blk_put (cs := #[.int .i64 ((rd_T28 l0_0 x42_3).f0), .int .i64 ((rd_T28 l0_0 x42_3).f1), .int .i64 0, .slice none 0 0, .slice none 0 0]) ?_ 2 _ rfl; (with_reducible repeat (first | refine bN ?_ _ | refine bD ?_ | refine bA ?_ _)); refine blk_put (cs := #[.int .i64 ((rd_T28 l0_0 x42_3).f0), .int .i64 0, .int .i64 0, .slice none 0 0, .slice none 0 0]) ?_ 1 _ rfl; (with_reducible repeat (first | refine bN ?_ _ | refine bD ?_ | refine bA ?_ _)); refine blk_put (cs := #[.int .i64 0, .int .i64 0, .int .i64 0, .slice none 0 0, .slice none 0 0]) ?_ 0 _ rfl; (with_reducible repeat (first | refine bN ?_ _ | refine bD ?_ | refine bA ?_ _)); exact BK211.out⟩, ⟨by repeat (first | (with_reducible first | exact HB.out | apply wA | apply wN | apply wD | refine wS ?_ GE204.out | refine wS ?_ GE211.out) | exact HB.out)⟩⟩
                  case round =>
                   clear H'
                   try clear c1
                   try clear c2
                   try clear p2
                   try clear q2
                   try clear hx2
                   try clear hf2
                   try clear c3
                   try clear c3b0
                   try clear c3b1
                   try clear c4
                   try clear c4b0
                   try clear c4b1
                   try clear c5
                   try clear p6
                   try clear c10
                   try clear c10b0
                   try clear c11
                   try clear c11b0
                   try clear c13
                   try clear c13b0
                   try clear c14
                   try clear c14b0
                   try clear c17
                   try clear c18
                   try clear c18b0
                   try clear c19
                   try clear c19b0
                   try clear c20
                   try clear p20
                   try clear q20
                   try clear hx20
                   try clear hf20
                   try clear c21
                   try clear p21
                   try clear q21
                   try clear hx21
                   try clear c23
                   try clear c23b0
                   try clear c25
                   try clear c25b0
                   try clear c26
                   try clear c26b0
                   try clear c27
                   try clear c27b0
                   try clear c28
                   try clear c28b0
                   try clear q29
                   try clear c30
                   try clear c32
                   try clear hcz16_0
                   try clear hcz24_0
                   try clear hcz33_0
                   try clear hcz33_1
                   try clear hcz33_2
                   try clear hcz33_3
                   try clear hcz33_4
                   try clear hcz7_0
                   try clear hfz16_0
                   try clear hfz24_0
                   try clear hfz33_0
                   try clear hfz33_1
                   try clear hfz33_2
                   try clear hfz33_3
                   try clear hfz33_4
                   try clear hfz7_0
                   try clear hx208_0
                   try clear hx208_1
                   try clear hx208_2
                   try clear hx208_3
                   try clear hx208_4
                   try clear hx20_0
                   try clear hx210_0
                   try clear hx210_1
                   try clear hx210_2
                   try clear hx210_3
                   try clear hx210_4
                   try clear hx212_0
                   try clear p2
                   try clear p20
                   try clear p208
                   try clear p210
                   try clear p212
                   try clear q2
                   try clear q20
                   try clear q208
                   try clear q210
                   try clear q212
                   obtain ⟨x5_4, x55_4, rfl, HA, HK4, HO_5, BK204, BK211, HB⟩ := hrel; have hl5_4 := (Kd.R_reads' HO_5.out).1; rw [hl5_4] at HO_5
                   (try simp only [hl5_4])
                   (try simp only [hl5_4] at BK204)
                   (try simp only [hl5_4] at BK211)
                   cases gk with
                   | zero => exact absurd HA.out (by simp [potsherdref12_reached.l2])
                   | succ k4 =>
                    have H := HA.out; clear HA; simp only [potsherdref12_reached.l2] at H
                    by_cases c34 : x55_4 < (((rd_T28 l0_0 x42_3).f4).length : Int)
                    ·
                     rw [if_pos c34] at H; have c34b0 : decide (x55_4 < (((rd_T28 l0_0 x42_3).f4).length : Int)) = true := decide_eq_true c34; clear c34
                     by_cases c35 : 0 ≤ x55_4
                     ·
                      rw [if_pos c35] at H; have c35b0 : decide (0 ≤ x55_4) = true := decide_eq_true c35; clear c35
                      by_cases c36 : x55_4 < (((rd_T28 l0_0 x42_3).f4).length : Int)
                      ·
                       rw [if_pos c36] at H; have c36b0 : decide (x55_4 < (((rd_T28 l0_0 x42_3).f4).length : Int)) = true := decide_eq_true c36; clear c36
                       by_cases c37 : ((rd_T78 ((rd_T28 l0_0 x42_3).f4) x55_4).f1) ≥ 0
                       ·
                        rw [if_pos c37] at H; have c37b0 : decide (0 ≤ ((rd_T78 ((rd_T28 l0_0 x42_3).f4) x55_4).f1)) = true := decide_eq_true c37; clear c37
                        by_cases c38 : ((rd_T78 ((rd_T28 l0_0 x42_3).f4) x55_4).f1) < (x5_4.length : Int)
                        ·
                         rw [if_pos c38] at H; have c38b0 : decide (((rd_T78 ((rd_T28 l0_0 x42_3).f4) x55_4).f1) < (x5_4.length : Int)) = true := decide_eq_true c38; clear c38
                         by_cases c39 : 0 ≤ ((rd_T78 ((rd_T28 l0_0 x42_3).f4) x55_4).f1)
                         ·
                          rw [if_pos c39] at H; have c39b0 : decide (0 ≤ ((rd_T78 ((rd_T28 l0_0 x42_3).f4) x55_4).f1)) = true := decide_eq_true c39; clear c39
                          by_cases c40 : ((rd_T78 ((rd_T28 l0_0 x42_3).f4) x55_4).f1) < (l0_0.length : Int)
                          ·
                           rw [if_pos c40] at H; have c40b0 : decide (((rd_T78 ((rd_T28 l0_0 x42_3).f4) x55_4).f1) < (l0_0.length : Int)) = true := decide_eq_true c40; clear c40
                           by_cases c41 : ((rd_T28 l0_0 ((rd_T78 ((rd_T28 l0_0 x42_3).f4) x55_4).f1)).f0) = 2
                           ·
                            rw [if_pos c41] at H; have c41b0 : (((rd_T28 l0_0 ((rd_T78 ((rd_T28 l0_0 x42_3).f4) x55_4).f1)).f0) == 2) = true := beq_iff_eq.mpr c41; have c41b1 : (((rd_T28 l0_0 ((rd_T78 ((rd_T28 l0_0 x42_3).f4) x55_4).f1)).f0) != 2) = false := bne_eq_false_iff_eq.mpr c41; clear c41; obtain ⟨y216, hy216⟩ : ∃ y_ : List Bool, y_ = (x5_4.set (((rd_T78 ((rd_T28 l0_0 x42_3).f4) x55_4).f1) : Int).toNat true) := ⟨_, rfl⟩
                            replace H : (potsherdref12_reached.l2 k4 y216 (y205.length : Int) x37_2 l0_0 (l0_0.length : Int) x42_3 ((rd_T28 l0_0 x42_3).f4) (((rd_T28 l0_0 x42_3).f4).length : Int) (wrap64 (x55_4 + 1)) l0_0) = some r := by first | (rw [hy216]; with_reducible exact H) | (have H2_ := (Option.bind_some _ _).symm.trans H; rw [hy216]; with_reducible exact H2_) | (have H2_ := (Option.bind_some _ _).symm.trans H; with_reducible exact H2_) | with_reducible exact H | (rw [hy216]; exact H) | exact H
                            have Ny216 := Aside0.mk hy216; clear hy216; have H' := Aside0.mk H; clear H; have p213 : 0 ≤ (x55_4 : Int) := of_decide_eq_true (by first | (with_reducible assumption) | assumption); have q213 : x55_4 < (((rd_T28 l0_0 x42_3).f4).length : Int) := of_decide_eq_true (by first | (with_reducible assumption) | assumption); obtain ⟨ad213, e213, hx213_0, hx213_1⟩ := at_T78 HR210_4.out x55_4 p213 q213
                            cases e213
                            replace hx213_0 := (HB.out.cell (World.block_lt_of_cell? w _ hx213_0)).trans hx213_0; replace hx213_1 := (HB.out.cell (World.block_lt_of_cell? w _ hx213_1)).trans hx213_1; replace p213 := eq_true p213; replace q213 := eq_true q213
                            go_wp2_with (first | ((with_reducible refine gate_dst (N := 9) rfl ?_); (try (refine gate_guard (by rfl) ?_; dsimp only)); refine box_event ?hg (N := 9) ?hd (cs := #[.string (⟨#[]⟩ : ByteArray), .int .i64 0]) (t := 78) ?hr ?_; (case hd => rfl); (case hg => rfl); (case hr => first | (go_simp; done) | (go_simp; rfl)); intro gb214 hg w43 hbox hb; have n0_ := Aside0.mk (Kd.R_below (by (with_reducible repeat (first | apply Kd.R_alloc | apply Kd.R_drewN | apply Kd.R_drew)); exact HO_5.out) hb); have n1_ := Aside0.mk (bB (g := gb204) (o := .cells #[.slice (some ad210) l0_0.length c0_0] 24 (0, 0)) (by (with_reducible repeat (first | refine bN ?_ _ | refine bD ?_ | refine bA ?_ _)); exact BK204.out) hb); have n2_ := Aside0.mk (bB (g := gb211) (o := .cells #[.int .i64 ((rd_T28 l0_0 x42_3).f0), .int .i64 ((rd_T28 l0_0 x42_3).f1), .int .i64 ((rd_T28 l0_0 x42_3).f2), .slice A210_3 ((rd_T28 l0_0 x42_3).f3).length c210_3, .slice (some ad213) ((rd_T28 l0_0 x42_3).f4).length c210_4] 28 (0, 0)) (by (with_reducible repeat (first | refine bN ?_ _ | refine bD ?_ | refine bA ?_ _)); exact BK211.out) hb); have n3_ := Aside0.mk (below_step (by repeat (first | (with_reducible first | exact HB.out | apply wA | apply wN | apply wD | refine wS ?_ GE204.out | refine wS ?_ GE211.out) | exact HB.out)) hb); have n4_ := Aside0.mk (hbox); have n5_ := Aside0.mk ((by rw [hg]; exact (below_size (by repeat (first | (with_reducible first | exact HB.out | apply wA | apply wN | apply wD | refine wS ?_ GE204.out | refine wS ?_ GE211.out) | exact HB.out))) : w.heap.size ≤ gb214)); have n6_ := Aside0.mk ((by rw [hg]; exact (below_size (by repeat (first | (with_reducible first | exact HB.out | apply wA | apply wN | apply wD | refine wS ?_ GE204.out | refine wS ?_ GE211.out) | exact HB.out))) : w.heap.size ≤ gb214)); have n7_ := Aside0.mk ((by rw [hg]; exact Nat.ne_of_lt (blk_lt (g := gb204) (o := .cells #[.slice (some ad210) l0_0.length c0_0] 24 (0, 0)) (by (with_reducible repeat (first | refine bN ?_ _ | refine bD ?_ | refine bA ?_ _)); exact BK204.out)) : gb204 ≠ gb214)); have n8_ := Aside0.mk ((by rw [hg]; exact Nat.ne_of_gt (blk_lt (g := gb204) (o := .cells #[.slice (some ad210) l0_0.length c0_0] 24 (0, 0)) (by (with_reducible repeat (first | refine bN ?_ _ | refine bD ?_ | refine bA ?_ _)); exact BK204.out)) : gb214 ≠ gb204)); have n9_ := Aside0.mk ((by rw [hg]; exact Nat.ne_of_lt (blk_lt (g := gb211) (o := .cells #[.int .i64 ((rd_T28 l0_0 x42_3).f0), .int .i64 ((rd_T28 l0_0 x42_3).f1), .int .i64 ((rd_T28 l0_0 x42_3).f2), .slice A210_3 ((rd_T28 l0_0 x42_3).f3).length c210_3, .slice (some ad213) ((rd_T28 l0_0 x42_3).f4).length c210_4] 28 (0, 0)) (by (with_reducible repeat (first | refine bN ?_ _ | refine bD ?_ | refine bA ?_ _)); exact BK211.out)) : gb211 ≠ gb214)); have n10_ := Aside0.mk ((by rw [hg]; exact Nat.ne_of_gt (blk_lt (g := gb211) (o := .cells #[.int .i64 ((rd_T28 l0_0 x42_3).f0), .int .i64 ((rd_T28 l0_0 x42_3).f1), .int .i64 ((rd_T28 l0_0 x42_3).f2), .slice A210_3 ((rd_T28 l0_0 x42_3).f3).length c210_3, .slice (some ad213) ((rd_T28 l0_0 x42_3).f4).length c210_4] 28 (0, 0)) (by (with_reducible repeat (first | refine bN ?_ _ | refine bD ?_ | refine bA ?_ _)); exact BK211.out)) : gb214 ≠ gb211)); clear HO_5; clear BK204; clear BK211; clear HB; have HO_5 := n0_; have BK204 := n1_; have BK211 := n2_; have HB := n3_; have BK214 := n4_; have GW214 := n5_; have GE214 := n6_; have NB204_214 := n7_; have NB214_204 := n8_; have NB211_214 := n9_; have NB214_211 := n10_; clear n0_ n1_ n2_ n3_ n4_ n5_ n6_ n7_ n8_ n9_ n10_; clear hb hbox hg; have hnb44 := NB214_204.out; have hnc44 := NB204_214.out; have hnb45 := NB214_211.out; have hnc45 := NB211_214.out; have hcz46_0 : w43.cell? ⟨gb214, 0, none⟩ = some (.string (⟨#[]⟩ : ByteArray)) := (bC BK214.out 0).trans rfl; have hcz46_1 : w43.cell? ⟨gb214, 1, none⟩ = some (.int .i64 0) := (bC BK214.out 1).trans rfl; have hfz46_0 := bZ BK214.out 0; have hfz46_1 := bZ BK214.out 1) | ((with_reducible refine gate_store (t := 78) (p := 9) rfl ?_); refine store_event (t := 78) (p := 9) (v := ?vo_w47) (w1 := ((w43.setCell ⟨gb214, 0, none⟩ (.string ((rd_T78 ((rd_T28 l0_0 x42_3).f4) x55_4).f0))).setCell ⟨gb214, 1, none⟩ (.int .i64 ((rd_T78 ((rd_T28 l0_0 x42_3).f4) x55_4).f1)))) ?hg ?ho ?hn ?hr ?_; (case ho => rfl); (case hg => rfl); (case hn => rfl); (case hr => first | (go_simp; done) | (go_simp; rfl)); intro w47 hw; have n0_ : Aside0 (Kd.R Kd.bool 4 w47 w.heap.size (fun _ => True) (.slice (some ⟨go20, 0, none⟩) x5_4.length co20) x5_4) := ⟨(by rw [hw]; exact (by (with_reducible repeat (first | apply Kd.R_alloc | apply Kd.R_drewN | apply Kd.R_drew)); exact Kd.R_mono (Kd.R_far (p := ⟨gb214, 1, none⟩) (Kd.R_far (p := ⟨gb214, 0, none⟩) (Kd.R_types HO_5.out BK214.out (by decide)) (fun _ hk => hk.2) (.string ((rd_T78 ((rd_T28 l0_0 x42_3).f4) x55_4).f0))) (fun _ hk => hk.2) (.int .i64 ((rd_T78 ((rd_T28 l0_0 x42_3).f4) x55_4).f1))) (fun _ hk => trivial)))⟩; have n1_ : Aside0 (w47.heap[gb204]? = some (.cells #[.slice (some ad210) l0_0.length c0_0] 24 (0, 0))) := ⟨(by rw [hw]; exact (by (with_reducible repeat (first | refine bN ?_ _ | refine bD ?_ | refine bA ?_ _)); refine bF ?_ NB204_214.out _; (with_reducible repeat (first | refine bN ?_ _ | refine bD ?_ | refine bA ?_ _)); refine bF ?_ NB204_214.out _; (with_reducible repeat (first | refine bN ?_ _ | refine bD ?_ | refine bA ?_ _)); exact BK204.out))⟩; have n2_ : Aside0 (w47.heap[gb211]? = some (.cells #[.int .i64 ((rd_T28 l0_0 x42_3).f0), .int .i64 ((rd_T28 l0_0 x42_3).f1), .int .i64 ((rd_T28 l0_0 x42_3).f2), .slice A210_3 ((rd_T28 l0_0 x42_3).f3).length c210_3, .slice (some ad213) ((rd_T28 l0_0 x42_3).f4).length c210_4] 28 (0, 0))) := ⟨(by rw [hw]; exact (by (with_reducible repeat (first | refine bN ?_ _ | refine bD ?_ | refine bA ?_ _)); refine bF ?_ NB211_214.out _; (with_reducible repeat (first | refine bN ?_ _ | refine bD ?_ | refine bA ?_ _)); refine bF ?_ NB211_214.out _; (with_reducible repeat (first | refine bN ?_ _ | refine bD ?_ | refine bA ?_ _)); exact BK211.out))⟩; have n3_ : Aside0 (w47.heap[gb214]? = some (.cells #[.string ((rd_T78 ((rd_T28 l0_0 x42_3).f4) x55_4).f0), .int .i64 ((rd_T78 ((rd_T28 l0_0 x42_3).f4) x55_4).f1)] 78 (0, 0))) := ⟨(by rw [hw]; exact (by (with_reducible repeat (first | refine bN ?_ _ | refine bD ?_ | refine bA ?_ _)); refine blk_put (cs := #[.string ((rd_T78 ((rd_T28 l0_0 x42_3).f4) x55_4).f0), .int .i64 0]) ?_ 1 _ rfl; (with_reducible repeat (first | refine bN ?_ _ | refine bD ?_ | refine bA ?_ _)); refine blk_put (cs := #[.string (⟨#[]⟩ : ByteArray), .int .i64 0]) ?_ 0 _ rfl; (with_reducible repeat (first | refine bN ?_ _ | refine bD ?_ | refine bA ?_ _)); exact BK214.out))⟩; have n4_ : Aside0 (Below w.heap.size w w47) := ⟨(by rw [hw]; exact (by repeat (first | (with_reducible first | exact HB.out | apply wA | apply wN | apply wD | refine wS ?_ GE204.out | refine wS ?_ GE211.out | refine wS ?_ GE214.out) | exact HB.out)))⟩; clear hw; clear HO_5; clear BK204; clear BK211; clear BK214; clear HB; have HO_5 := n0_; have BK204 := n1_; have BK211 := n2_; have BK214 := n3_; have HB := n4_; clear n0_ n1_ n2_ n3_ n4_; have hcz48_0 : w47.cell? ⟨gb214, 0, none⟩ = some (.string ((rd_T78 ((rd_T28 l0_0 x42_3).f4) x55_4).f0)) := (bC BK214.out 0).trans rfl; have hcz48_1 : w47.cell? ⟨gb214, 1, none⟩ = some (.int .i64 ((rd_T78 ((rd_T28 l0_0 x42_3).f4) x55_4).f1)) := (bC BK214.out 1).trans rfl; have hfz48_0 := bZ BK214.out 0; have hfz48_1 := bZ BK214.out 1; have hnb49 := NB204_211.out; have hnc49 := NB211_204.out; have hcz50_0 : w47.cell? ⟨gb204, 0, none⟩ = some (.slice (some ad210) l0_0.length c0_0) := (bC BK204.out 0).trans rfl; have hfz50_0 := bZ BK204.out 0; have p215 : 0 ≤ (((rd_T78 ((rd_T28 l0_0 x42_3).f4) x55_4).f1) : Int) := of_decide_eq_true (by first | (with_reducible assumption) | assumption); have q215 : ((rd_T78 ((rd_T28 l0_0 x42_3).f4) x55_4).f1) < (l0_0.length : Int) := of_decide_eq_true (by first | (with_reducible assumption) | assumption); obtain ⟨ad215, A215_3, c215_3, A215_4, c215_4, e215, hx215_0, hx215_1, hx215_2, hx215_3, hx215_4, hl215_3, hi215_3, hl215_4, hi215_4⟩ := at_T28 HR0_0.out ((rd_T78 ((rd_T28 l0_0 x42_3).f4) x55_4).f1) p215 q215; obtain rfl : ad210 = ad215 := (by injection e215); replace hx215_0 := (HB.out.cell (World.block_lt_of_cell? w _ hx215_0)).trans hx215_0; replace hx215_1 := (HB.out.cell (World.block_lt_of_cell? w _ hx215_1)).trans hx215_1; replace hx215_2 := (HB.out.cell (World.block_lt_of_cell? w _ hx215_2)).trans hx215_2; replace hx215_3 := (HB.out.cell (World.block_lt_of_cell? w _ hx215_3)).trans hx215_3; replace hx215_4 := (HB.out.cell (World.block_lt_of_cell? w _ hx215_4)).trans hx215_4; have HR215_3 := Aside0.mk hi215_3; have HC215_3 := Aside0.mk hl215_3; clear hi215_3 hl215_3; have HR215_4 := Aside0.mk hi215_4; have HC215_4 := Aside0.mk hl215_4; clear hi215_4 hl215_4; replace p215 := eq_true p215; replace q215 := eq_true q215; have p42 : 0 ≤ (((rd_T78 ((rd_T28 l0_0 x42_3).f4) x55_4).f1) : Int) := of_decide_eq_true (by first | (with_reducible assumption) | assumption); have q42 : (((rd_T78 ((rd_T28 l0_0 x42_3).f4) x55_4).f1) : Int) < ((x5_4.length : Int) : Int) := of_decide_eq_true (by first | (with_reducible assumption) | assumption); obtain ⟨hx42_0, hf42_0⟩ := Kd.R_celln false HO_5.out (((rd_T78 ((rd_T28 l0_0 x42_3).f4) x55_4).f1) : Int) p42 q42; replace p42 := eq_true p42; replace q42 := eq_true q42; obtain ⟨hy51_, hz51_⟩ := Kd.R_celln false HO_5.out (((rd_T78 ((rd_T28 l0_0 x42_3).f4) x55_4).f1) : Int) (of_decide_eq_true (by first | (with_reducible assumption) | assumption)) (of_decide_eq_true (by first | (with_reducible assumption) | assumption)); have HP51 := Kd.R_putg HO_5.out (((rd_T78 ((rd_T28 l0_0 x42_3).f4) x55_4).f1) : Int) true) | ((with_reducible refine gate_store (t := 4) (p := 82) rfl ?_); refine store_event (t := 4) (p := 82) (v := ?vo_w52) (w1 := (w47.setCell ⟨go20, (((rd_T78 ((rd_T28 l0_0 x42_3).f4) x55_4).f1) : Int).toNat, none⟩ (.bool true))) ?hg ?ho ?hn ?hr ?_; (case ho => rfl); (case hg => rfl); (case hn => rfl); (case hr => first | (go_simp; done) | (go_simp; rfl)); intro w52 hw; have hg : w47.grownBy w52 (some go20) := (by rw [hw]; exact HP51.2); have hp_ : Kd.R Kd.bool 4 w52 w.heap.size (fun _ => True) (.slice (some ⟨go20, 0, none⟩) x5_4.length co20) y216 := (by rw [hw, Ny216.out]; exact HP51.1); clear HP51; have n0_ := Aside0.mk (hp_); have n1_ := Aside0.mk (blk_grown (g := gb204) (o := .cells #[.slice (some ad210) l0_0.length c0_0] 24 (0, 0)) (by (with_reducible repeat (first | refine bN ?_ _ | refine bD ?_ | refine bA ?_ _)); exact BK204.out) hg (Kd.R_ne HO_5.out BK204.out (by decide))); have n2_ := Aside0.mk (blk_grown (g := gb211) (o := .cells #[.int .i64 ((rd_T28 l0_0 x42_3).f0), .int .i64 ((rd_T28 l0_0 x42_3).f1), .int .i64 ((rd_T28 l0_0 x42_3).f2), .slice A210_3 ((rd_T28 l0_0 x42_3).f3).length c210_3, .slice (some ad213) ((rd_T28 l0_0 x42_3).f4).length c210_4] 28 (0, 0)) (by (with_reducible repeat (first | refine bN ?_ _ | refine bD ?_ | refine bA ?_ _)); exact BK211.out) hg (Kd.R_ne HO_5.out BK211.out (by decide))); have n3_ := Aside0.mk (blk_grown (g := gb214) (o := .cells #[.string ((rd_T78 ((rd_T28 l0_0 x42_3).f4) x55_4).f0), .int .i64 ((rd_T78 ((rd_T28 l0_0 x42_3).f4) x55_4).f1)] 78 (0, 0)) (by (with_reducible repeat (first | refine bN ?_ _ | refine bD ?_ | refine bA ?_ _)); exact BK214.out) hg (Kd.R_ne HO_5.out BK214.out (by decide))); have n4_ := Aside0.mk ((by rw [hw]; exact wS (HB.out) GB20.out : Below w.heap.size w w52)); clear HO_5; clear BK204; clear BK211; clear BK214; clear HB; have HO_5 := n0_; have BK204 := n1_; have BK211 := n2_; have BK214 := n3_; have HB := n4_; clear n0_ n1_ n2_ n3_ n4_; clear hg hw hp_))
                            (try simp only [← hl5_4])
                            go_roundg k4
                            case measure => have := HJ4.out; have := HK2.out; have := HK3.out; have := HK4.out; omega
                            case rel => exact ⟨(y216), (wrap64 (x55_4 + 1)), (by first | rfl | (simp; done) | (simp [*]; done)), H', ⟨by have := HJ4.out; have := HK2.out; have := HK3.out; have := HK4.out; omega⟩, ⟨by (try simp only [hl5_2]); (try simp only [hl5_3]); (try simp only [hl5_4]); (with_reducible repeat (first | apply Kd.R_alloc | apply Kd.R_drewN | apply Kd.R_drew)); exact HO_5.out⟩, ⟨by (try simp only [hl5_2]); (try simp only [hl5_3]); (try simp only [hl5_4]); (with_reducible repeat (first | refine bN ?_ _ | refine bD ?_ | refine bA ?_ _)); exact BK204.out⟩, ⟨by (try simp only [hl5_2]); (try simp only [hl5_3]); (try simp only [hl5_4]); (with_reducible repeat (first | refine bN ?_ _ | refine bD ?_ | refine bA ?_ _)); exact BK211.out⟩, ⟨by repeat (first | (with_reducible first | exact HB.out | apply wA | apply wN | apply wD | refine wS ?_ GE204.out | refine wS ?_ GE211.out | refine wS ?_ GE214.out) | exact HB.out)⟩⟩
                           ·
                            rw [if_neg c41] at H; have c41b0 : (((rd_T28 l0_0 ((rd_T78 ((rd_T28 l0_0 x42_3).f4) x55_4).f1)).f0) == 2) = false := beq_eq_false_iff_ne.mpr c41; have c41b1 : (((rd_T28 l0_0 ((rd_T78 ((rd_T28 l0_0 x42_3).f4) x55_4).f1)).f0) != 2) = true := bne_iff_ne.mpr c41; have H' := Aside0.mk H; clear H; have p213 : 0 ≤ (x55_4 : Int) := of_decide_eq_true (by first | (with_reducible assumption) | assumption); have q213 : x55_4 < (((rd_T28 l0_0 x42_3).f4).length : Int) := of_decide_eq_true (by first | (with_reducible assumption) | assumption); obtain ⟨ad213, e213, hx213_0, hx213_1⟩ := at_T78 HR210_4.out x55_4 p213 q213
                            cases e213
                            replace hx213_0 := (HB.out.cell (World.block_lt_of_cell? w _ hx213_0)).trans hx213_0; replace hx213_1 := (HB.out.cell (World.block_lt_of_cell? w _ hx213_1)).trans hx213_1; replace p213 := eq_true p213; replace q213 := eq_true q213
                            go_wp2_with (first | ((with_reducible refine gate_dst (N := 9) rfl ?_); (try (refine gate_guard (by rfl) ?_; dsimp only)); refine box_event ?hg (N := 9) ?hd (cs := #[.string (⟨#[]⟩ : ByteArray), .int .i64 0]) (t := 78) ?hr ?_; (case hd => rfl); (case hg => rfl); (case hr => first | (go_simp; done) | (go_simp; rfl)); intro gb214 hg w53 hbox hb; have n0_ := Aside0.mk (Kd.R_below (by (with_reducible repeat (first | apply Kd.R_alloc | apply Kd.R_drewN | apply Kd.R_drew)); exact HO_5.out) hb); have n1_ := Aside0.mk (bB (g := gb204) (o := .cells #[.slice (some ad210) l0_0.length c0_0] 24 (0, 0)) (by (with_reducible repeat (first | refine bN ?_ _ | refine bD ?_ | refine bA ?_ _)); exact BK204.out) hb); have n2_ := Aside0.mk (bB (g := gb211) (o := .cells #[.int .i64 ((rd_T28 l0_0 x42_3).f0), .int .i64 ((rd_T28 l0_0 x42_3).f1), .int .i64 ((rd_T28 l0_0 x42_3).f2), .slice A210_3 ((rd_T28 l0_0 x42_3).f3).length c210_3, .slice (some ad213) ((rd_T28 l0_0 x42_3).f4).length c210_4] 28 (0, 0)) (by (with_reducible repeat (first | refine bN ?_ _ | refine bD ?_ | refine bA ?_ _)); exact BK211.out) hb); have n3_ := Aside0.mk (below_step (by repeat (first | (with_reducible first | exact HB.out | apply wA | apply wN | apply wD | refine wS ?_ GE204.out | refine wS ?_ GE211.out) | exact HB.out)) hb); have n4_ := Aside0.mk (hbox); have n5_ := Aside0.mk ((by rw [hg]; exact (below_size (by repeat (first | (with_reducible first | exact HB.out | apply wA | apply wN | apply wD | refine wS ?_ GE204.out | refine wS ?_ GE211.out) | exact HB.out))) : w.heap.size ≤ gb214)); have n6_ := Aside0.mk ((by rw [hg]; exact (below_size (by repeat (first | (with_reducible first | exact HB.out | apply wA | apply wN | apply wD | refine wS ?_ GE204.out | refine wS ?_ GE211.out) | exact HB.out))) : w.heap.size ≤ gb214)); have n7_ := Aside0.mk ((by rw [hg]; exact Nat.ne_of_lt (blk_lt (g := gb204) (o := .cells #[.slice (some ad210) l0_0.length c0_0] 24 (0, 0)) (by (with_reducible repeat (first | refine bN ?_ _ | refine bD ?_ | refine bA ?_ _)); exact BK204.out)) : gb204 ≠ gb214)); have n8_ := Aside0.mk ((by rw [hg]; exact Nat.ne_of_gt (blk_lt (g := gb204) (o := .cells #[.slice (some ad210) l0_0.length c0_0] 24 (0, 0)) (by (with_reducible repeat (first | refine bN ?_ _ | refine bD ?_ | refine bA ?_ _)); exact BK204.out)) : gb214 ≠ gb204)); have n9_ := Aside0.mk ((by rw [hg]; exact Nat.ne_of_lt (blk_lt (g := gb211) (o := .cells #[.int .i64 ((rd_T28 l0_0 x42_3).f0), .int .i64 ((rd_T28 l0_0 x42_3).f1), .int .i64 ((rd_T28 l0_0 x42_3).f2), .slice A210_3 ((rd_T28 l0_0 x42_3).f3).length c210_3, .slice (some ad213) ((rd_T28 l0_0 x42_3).f4).length c210_4] 28 (0, 0)) (by (with_reducible repeat (first | refine bN ?_ _ | refine bD ?_ | refine bA ?_ _)); exact BK211.out)) : gb211 ≠ gb214)); have n10_ := Aside0.mk ((by rw [hg]; exact Nat.ne_of_gt (blk_lt (g := gb211) (o := .cells #[.int .i64 ((rd_T28 l0_0 x42_3).f0), .int .i64 ((rd_T28 l0_0 x42_3).f1), .int .i64 ((rd_T28 l0_0 x42_3).f2), .slice A210_3 ((rd_T28 l0_0 x42_3).f3).length c210_3, .slice (some ad213) ((rd_T28 l0_0 x42_3).f4).length c210_4] 28 (0, 0)) (by (with_reducible repeat (first | refine bN ?_ _ | refine bD ?_ | refine bA ?_ _)); exact BK211.out)) : gb214 ≠ gb211)); clear HO_5; clear BK204; clear BK211; clear HB; have HO_5 := n0_; have BK204 := n1_; have BK211 := n2_; have HB := n3_; have BK214 := n4_; have GW214 := n5_; have GE214 := n6_; have NB204_214 := n7_; have NB214_204 := n8_; have NB211_214 := n9_; have NB214_211 := n10_; clear n0_ n1_ n2_ n3_ n4_ n5_ n6_ n7_ n8_ n9_ n10_; clear hb hbox hg; have hnb54 := NB214_204.out; have hnc54 := NB204_214.out; have hnb55 := NB214_211.out; have hnc55 := NB211_214.out; have hcz56_0 : w53.cell? ⟨gb214, 0, none⟩ = some (.string (⟨#[]⟩ : ByteArray)) := (bC BK214.out 0).trans rfl; have hcz56_1 : w53.cell? ⟨gb214, 1, none⟩ = some (.int .i64 0) := (bC BK214.out 1).trans rfl; have hfz56_0 := bZ BK214.out 0; have hfz56_1 := bZ BK214.out 1; have hnb57 := NB204_211.out; have hnc57 := NB211_204.out; have hcz58_0 : w53.cell? ⟨gb204, 0, none⟩ = some (.slice (some ad210) l0_0.length c0_0) := (bC BK204.out 0).trans rfl; have hfz58_0 := bZ BK204.out 0; have p215 : 0 ≤ (((rd_T78 ((rd_T28 l0_0 x42_3).f4) x55_4).f1) : Int) := of_decide_eq_true (by first | (with_reducible assumption) | assumption); have q215 : ((rd_T78 ((rd_T28 l0_0 x42_3).f4) x55_4).f1) < (l0_0.length : Int) := of_decide_eq_true (by first | (with_reducible assumption) | assumption); obtain ⟨ad215, A215_3, c215_3, A215_4, c215_4, e215, hx215_0, hx215_1, hx215_2, hx215_3, hx215_4, hl215_3, hi215_3, hl215_4, hi215_4⟩ := at_T28 HR0_0.out ((rd_T78 ((rd_T28 l0_0 x42_3).f4) x55_4).f1) p215 q215; obtain rfl : ad210 = ad215 := (by injection e215); have hn215_0 : ad210.block ≠ gb214 := Nat.ne_of_lt (Nat.lt_of_lt_of_le (by have := World.block_lt_of_cell? _ _ hx215_0; first | rwa [add_block] at this | exact this) GW214.out); have hn215_1 : ad210.block ≠ gb214 := Nat.ne_of_lt (Nat.lt_of_lt_of_le (by have := World.block_lt_of_cell? _ _ hx215_0; first | rwa [add_block] at this | exact this) GW214.out); replace hx215_0 := (HB.out.cell (World.block_lt_of_cell? w _ hx215_0)).trans hx215_0; replace hx215_1 := (HB.out.cell (World.block_lt_of_cell? w _ hx215_1)).trans hx215_1; replace hx215_2 := (HB.out.cell (World.block_lt_of_cell? w _ hx215_2)).trans hx215_2; replace hx215_3 := (HB.out.cell (World.block_lt_of_cell? w _ hx215_3)).trans hx215_3; replace hx215_4 := (HB.out.cell (World.block_lt_of_cell? w _ hx215_4)).trans hx215_4; have HR215_3 := Aside0.mk hi215_3; have HC215_3 := Aside0.mk hl215_3; clear hi215_3 hl215_3; have HR215_4 := Aside0.mk hi215_4; have HC215_4 := Aside0.mk hl215_4; clear hi215_4 hl215_4; replace hx215_0 := (cell_far (p := ⟨gb214, 0, none⟩) (by first | (rw [add_block]; exact hn215_0) | (show (Addr.add _ _).block ≠ _; rw [add_block]; exact hn215_0) | exact hn215_0) (.string ((rd_T78 ((rd_T28 l0_0 x42_3).f4) x55_4).f0))).trans hx215_0; replace hx215_1 := (cell_far (p := ⟨gb214, 0, none⟩) (by first | (rw [add_block]; exact hn215_0) | (show (Addr.add _ _).block ≠ _; rw [add_block]; exact hn215_0) | exact hn215_0) (.string ((rd_T78 ((rd_T28 l0_0 x42_3).f4) x55_4).f0))).trans hx215_1; replace hx215_2 := (cell_far (p := ⟨gb214, 0, none⟩) (by first | (rw [add_block]; exact hn215_0) | (show (Addr.add _ _).block ≠ _; rw [add_block]; exact hn215_0) | exact hn215_0) (.string ((rd_T78 ((rd_T28 l0_0 x42_3).f4) x55_4).f0))).trans hx215_2; replace hx215_3 := (cell_far (p := ⟨gb214, 0, none⟩) (by first | (rw [add_block]; exact hn215_0) | (show (Addr.add _ _).block ≠ _; rw [add_block]; exact hn215_0) | exact hn215_0) (.string ((rd_T78 ((rd_T28 l0_0 x42_3).f4) x55_4).f0))).trans hx215_3; replace hx215_4 := (cell_far (p := ⟨gb214, 0, none⟩) (by first | (rw [add_block]; exact hn215_0) | (show (Addr.add _ _).block ≠ _; rw [add_block]; exact hn215_0) | exact hn215_0) (.string ((rd_T78 ((rd_T28 l0_0 x42_3).f4) x55_4).f0))).trans hx215_4; replace hx215_0 := (cell_far (p := ⟨gb214, 1, none⟩) (by first | (rw [add_block]; exact hn215_1) | (show (Addr.add _ _).block ≠ _; rw [add_block]; exact hn215_1) | exact hn215_1) (.int .i64 ((rd_T78 ((rd_T28 l0_0 x42_3).f4) x55_4).f1))).trans hx215_0; replace hx215_1 := (cell_far (p := ⟨gb214, 1, none⟩) (by first | (rw [add_block]; exact hn215_1) | (show (Addr.add _ _).block ≠ _; rw [add_block]; exact hn215_1) | exact hn215_1) (.int .i64 ((rd_T78 ((rd_T28 l0_0 x42_3).f4) x55_4).f1))).trans hx215_1; replace hx215_2 := (cell_far (p := ⟨gb214, 1, none⟩) (by first | (rw [add_block]; exact hn215_1) | (show (Addr.add _ _).block ≠ _; rw [add_block]; exact hn215_1) | exact hn215_1) (.int .i64 ((rd_T78 ((rd_T28 l0_0 x42_3).f4) x55_4).f1))).trans hx215_2; replace hx215_3 := (cell_far (p := ⟨gb214, 1, none⟩) (by first | (rw [add_block]; exact hn215_1) | (show (Addr.add _ _).block ≠ _; rw [add_block]; exact hn215_1) | exact hn215_1) (.int .i64 ((rd_T78 ((rd_T28 l0_0 x42_3).f4) x55_4).f1))).trans hx215_3; replace hx215_4 := (cell_far (p := ⟨gb214, 1, none⟩) (by first | (rw [add_block]; exact hn215_1) | (show (Addr.add _ _).block ≠ _; rw [add_block]; exact hn215_1) | exact hn215_1) (.int .i64 ((rd_T78 ((rd_T28 l0_0 x42_3).f4) x55_4).f1))).trans hx215_4; clear hn215_0; clear hn215_1; replace p215 := eq_true p215; replace q215 := eq_true q215))
                            (try simp only [← hl5_4])
                            go_roundg k4
                            case measure => have := HJ4.out; have := HK2.out; have := HK3.out; have := HK4.out; omega
                            case rel => exact ⟨(x5_4), (wrap64 (x55_4 + 1)), (by first | rfl | (simp; done) | (simp [*]; done)), H', ⟨by have := HJ4.out; have := HK2.out; have := HK3.out; have := HK4.out; omega⟩, ⟨by (try simp only [hl5_2]); (try simp only [hl5_3]); (try simp only [hl5_4]); (with_reducible repeat (first | apply Kd.R_alloc | apply Kd.R_drewN | apply Kd.R_drew)); exact Kd.R_mono (Kd.R_far (p := ⟨gb214, 1, none⟩) (Kd.R_far (p := ⟨gb214, 0, none⟩) (Kd.R_types HO_5.out BK214.out (by decide)) (fun _ hk => hk.2) (.string ((rd_T78 ((rd_T28 l0_0 x42_3).f4) x55_4).f0))) (fun _ hk => hk.2) (.int .i64 ((rd_T78 ((rd_T28 l0_0 x42_3).f4) x55_4).f1))) (fun _ hk => trivial)⟩, ⟨by (try simp only [hl5_2]); (try simp only [hl5_3]); (try simp only [hl5_4]); (with_reducible repeat (first | refine bN ?_ _ | refine bD ?_ | refine bA ?_ _)); refine bF ?_ NB204_214.out _; (with_reducible repeat (first | refine bN ?_ _ | refine bD ?_ | refine bA ?_ _)); refine bF ?_ NB204_214.out _; (with_reducible repeat (first | refine bN ?_ _ | refine bD ?_ | refine bA ?_ _)); exact BK204.out⟩, ⟨by (try simp only [hl5_2]); (try simp only [hl5_3]); (try simp only [hl5_4]); (with_reducible repeat (first | refine bN ?_ _ | refine bD ?_ | refine bA ?_ _)); refine bF ?_ NB211_214.out _; (with_reducible repeat (first | refine bN ?_ _ | refine bD ?_ | refine bA ?_ _)); refine bF ?_ NB211_214.out _; (with_reducible repeat (first | refine bN ?_ _ | refine bD ?_ | refine bA ?_ _)); exact BK211.out⟩, ⟨by repeat (first | (with_reducible first | exact HB.out | apply wA | apply wN | apply wD | refine wS ?_ GE204.out | refine wS ?_ GE211.out | refine wS ?_ GE214.out) | exact HB.out)⟩⟩
                          ·
                           rw [if_neg c40] at H; exact absurd H (by simp)
                         ·
                          rw [if_neg c39] at H; exact absurd H (by simp)
                        ·
                         rw [if_neg c38] at H; have c38b0 : decide (((rd_T78 ((rd_T28 l0_0 x42_3).f4) x55_4).f1) < (x5_4.length : Int)) = false := decide_eq_false c38; clear c38; have H' := Aside0.mk H; clear H; have p213 : 0 ≤ (x55_4 : Int) := of_decide_eq_true (by first | (with_reducible assumption) | assumption); have q213 : x55_4 < (((rd_T28 l0_0 x42_3).f4).length : Int) := of_decide_eq_true (by first | (with_reducible assumption) | assumption); obtain ⟨ad213, e213, hx213_0, hx213_1⟩ := at_T78 HR210_4.out x55_4 p213 q213
                         cases e213
                         replace hx213_0 := (HB.out.cell (World.block_lt_of_cell? w _ hx213_0)).trans hx213_0; replace hx213_1 := (HB.out.cell (World.block_lt_of_cell? w _ hx213_1)).trans hx213_1; replace p213 := eq_true p213; replace q213 := eq_true q213
                         go_wp2_with (first | ((with_reducible refine gate_dst (N := 9) rfl ?_); (try (refine gate_guard (by rfl) ?_; dsimp only)); refine box_event ?hg (N := 9) ?hd (cs := #[.string (⟨#[]⟩ : ByteArray), .int .i64 0]) (t := 78) ?hr ?_; (case hd => rfl); (case hg => rfl); (case hr => first | (go_simp; done) | (go_simp; rfl)); intro gb214 hg w59 hbox hb; have n0_ := Aside0.mk (Kd.R_below (by (with_reducible repeat (first | apply Kd.R_alloc | apply Kd.R_drewN | apply Kd.R_drew)); exact HO_5.out) hb); have n1_ := Aside0.mk (bB (g := gb204) (o := .cells #[.slice (some ad210) l0_0.length c0_0] 24 (0, 0)) (by (with_reducible repeat (first | refine bN ?_ _ | refine bD ?_ | refine bA ?_ _)); exact BK204.out) hb); have n2_ := Aside0.mk (bB (g := gb211) (o := .cells #[.int .i64 ((rd_T28 l0_0 x42_3).f0), .int .i64 ((rd_T28 l0_0 x42_3).f1), .int .i64 ((rd_T28 l0_0 x42_3).f2), .slice A210_3 ((rd_T28 l0_0 x42_3).f3).length c210_3, .slice (some ad213) ((rd_T28 l0_0 x42_3).f4).length c210_4] 28 (0, 0)) (by (with_reducible repeat (first | refine bN ?_ _ | refine bD ?_ | refine bA ?_ _)); exact BK211.out) hb); have n3_ := Aside0.mk (below_step (by repeat (first | (with_reducible first | exact HB.out | apply wA | apply wN | apply wD | refine wS ?_ GE204.out | refine wS ?_ GE211.out) | exact HB.out)) hb); have n4_ := Aside0.mk (hbox); have n5_ := Aside0.mk ((by rw [hg]; exact (below_size (by repeat (first | (with_reducible first | exact HB.out | apply wA | apply wN | apply wD | refine wS ?_ GE204.out | refine wS ?_ GE211.out) | exact HB.out))) : w.heap.size ≤ gb214)); have n6_ := Aside0.mk ((by rw [hg]; exact (below_size (by repeat (first | (with_reducible first | exact HB.out | apply wA | apply wN | apply wD | refine wS ?_ GE204.out | refine wS ?_ GE211.out) | exact HB.out))) : w.heap.size ≤ gb214)); have n7_ := Aside0.mk ((by rw [hg]; exact Nat.ne_of_lt (blk_lt (g := gb204) (o := .cells #[.slice (some ad210) l0_0.length c0_0] 24 (0, 0)) (by (with_reducible repeat (first | refine bN ?_ _ | refine bD ?_ | refine bA ?_ _)); exact BK204.out)) : gb204 ≠ gb214)); have n8_ := Aside0.mk ((by rw [hg]; exact Nat.ne_of_gt (blk_lt (g := gb204) (o := .cells #[.slice (some ad210) l0_0.length c0_0] 24 (0, 0)) (by (with_reducible repeat (first | refine bN ?_ _ | refine bD ?_ | refine bA ?_ _)); exact BK204.out)) : gb214 ≠ gb204)); have n9_ := Aside0.mk ((by rw [hg]; exact Nat.ne_of_lt (blk_lt (g := gb211) (o := .cells #[.int .i64 ((rd_T28 l0_0 x42_3).f0), .int .i64 ((rd_T28 l0_0 x42_3).f1), .int .i64 ((rd_T28 l0_0 x42_3).f2), .slice A210_3 ((rd_T28 l0_0 x42_3).f3).length c210_3, .slice (some ad213) ((rd_T28 l0_0 x42_3).f4).length c210_4] 28 (0, 0)) (by (with_reducible repeat (first | refine bN ?_ _ | refine bD ?_ | refine bA ?_ _)); exact BK211.out)) : gb211 ≠ gb214)); have n10_ := Aside0.mk ((by rw [hg]; exact Nat.ne_of_gt (blk_lt (g := gb211) (o := .cells #[.int .i64 ((rd_T28 l0_0 x42_3).f0), .int .i64 ((rd_T28 l0_0 x42_3).f1), .int .i64 ((rd_T28 l0_0 x42_3).f2), .slice A210_3 ((rd_T28 l0_0 x42_3).f3).length c210_3, .slice (some ad213) ((rd_T28 l0_0 x42_3).f4).length c210_4] 28 (0, 0)) (by (with_reducible repeat (first | refine bN ?_ _ | refine bD ?_ | refine bA ?_ _)); exact BK211.out)) : gb214 ≠ gb211)); clear HO_5; clear BK204; clear BK211; clear HB; have HO_5 := n0_; have BK204 := n1_; have BK211 := n2_; have HB := n3_; have BK214 := n4_; have GW214 := n5_; have GE214 := n6_; have NB204_214 := n7_; have NB214_204 := n8_; have NB211_214 := n9_; have NB214_211 := n10_; clear n0_ n1_ n2_ n3_ n4_ n5_ n6_ n7_ n8_ n9_ n10_; clear hb hbox hg; have hnb60 := NB214_204.out; have hnc60 := NB204_214.out; have hnb61 := NB214_211.out; have hnc61 := NB211_214.out; have hcz62_0 : w59.cell? ⟨gb214, 0, none⟩ = some (.string (⟨#[]⟩ : ByteArray)) := (bC BK214.out 0).trans rfl; have hcz62_1 : w59.cell? ⟨gb214, 1, none⟩ = some (.int .i64 0) := (bC BK214.out 1).trans rfl; have hfz62_0 := bZ BK214.out 0; have hfz62_1 := bZ BK214.out 1))
                         (try simp only [← hl5_4])
                         go_roundg k4
                         case measure => have := HJ4.out; have := HK2.out; have := HK3.out; have := HK4.out; omega
                         case rel => exact ⟨(x5_4), (wrap64 (x55_4 + 1)), (by first | rfl | (simp; done) | (simp [*]; done)), H', ⟨by have := HJ4.out; have := HK2.out; have := HK3.out; have := HK4.out; omega⟩, ⟨by (try simp only [hl5_2]); (try simp only [hl5_3]); (try simp only [hl5_4]); (with_reducible repeat (first | apply Kd.R_alloc | apply Kd.R_drewN | apply Kd.R_drew)); exact Kd.R_mono (Kd.R_far (p := ⟨gb214, 1, none⟩) (Kd.R_far (p := ⟨gb214, 0, none⟩) (Kd.R_types HO_5.out BK214.out (by decide)) (fun _ hk => hk.2) (.string ((rd_T78 ((rd_T28 l0_0 x42_3).f4) x55_4).f0))) (fun _ hk => hk.2) (.int .i64 ((rd_T78 ((rd_T28 l0_0 x42_3).f4) x55_4).f1))) (fun _ hk => trivial)⟩, ⟨by (try simp only [hl5_2]); (try simp only [hl5_3]); (try simp only [hl5_4]); (with_reducible repeat (first | refine bN ?_ _ | refine bD ?_ | refine bA ?_ _)); refine bF ?_ NB204_214.out _; (with_reducible repeat (first | refine bN ?_ _ | refine bD ?_ | refine bA ?_ _)); refine bF ?_ NB204_214.out _; (with_reducible repeat (first | refine bN ?_ _ | refine bD ?_ | refine bA ?_ _)); exact BK204.out⟩, ⟨by (try simp only [hl5_2]); (try simp only [hl5_3]); (try simp only [hl5_4]); (with_reducible repeat (first | refine bN ?_ _ | refine bD ?_ | refine bA ?_ _)); refine bF ?_ NB211_214.out _; (with_reducible repeat (first | refine bN ?_ _ | refine bD ?_ | refine bA ?_ _)); refine bF ?_ NB211_214.out _; (with_reducible repeat (first | refine bN ?_ _ | refine bD ?_ | refine bA ?_ _)); exact BK211.out⟩, ⟨by repeat (first | (with_reducible first | exact HB.out | apply wA | apply wN | apply wD | refine wS ?_ GE204.out | refine wS ?_ GE211.out | refine wS ?_ GE214.out) | exact HB.out)⟩⟩
                       ·
                        rw [if_neg c37] at H; have c37b0 : decide (0 ≤ ((rd_T78 ((rd_T28 l0_0 x42_3).f4) x55_4).f1)) = false := decide_eq_false c37; clear c37; have H' := Aside0.mk H; clear H; have p213 : 0 ≤ (x55_4 : Int) := of_decide_eq_true (by first | (with_reducible assumption) | assumption); have q213 : x55_4 < (((rd_T28 l0_0 x42_3).f4).length : Int) := of_decide_eq_true (by first | (with_reducible assumption) | assumption); obtain ⟨ad213, e213, hx213_0, hx213_1⟩ := at_T78 HR210_4.out x55_4 p213 q213
                        cases e213
                        replace hx213_0 := (HB.out.cell (World.block_lt_of_cell? w _ hx213_0)).trans hx213_0; replace hx213_1 := (HB.out.cell (World.block_lt_of_cell? w _ hx213_1)).trans hx213_1; replace p213 := eq_true p213; replace q213 := eq_true q213
                        go_wp2_with (first | ((with_reducible refine gate_dst (N := 9) rfl ?_); (try (refine gate_guard (by rfl) ?_; dsimp only)); refine box_event ?hg (N := 9) ?hd (cs := #[.string (⟨#[]⟩ : ByteArray), .int .i64 0]) (t := 78) ?hr ?_; (case hd => rfl); (case hg => rfl); (case hr => first | (go_simp; done) | (go_simp; rfl)); intro gb214 hg w63 hbox hb; have n0_ := Aside0.mk (Kd.R_below (by (with_reducible repeat (first | apply Kd.R_alloc | apply Kd.R_drewN | apply Kd.R_drew)); exact HO_5.out) hb); have n1_ := Aside0.mk (bB (g := gb204) (o := .cells #[.slice (some ad210) l0_0.length c0_0] 24 (0, 0)) (by (with_reducible repeat (first | refine bN ?_ _ | refine bD ?_ | refine bA ?_ _)); exact BK204.out) hb); have n2_ := Aside0.mk (bB (g := gb211) (o := .cells #[.int .i64 ((rd_T28 l0_0 x42_3).f0), .int .i64 ((rd_T28 l0_0 x42_3).f1), .int .i64 ((rd_T28 l0_0 x42_3).f2), .slice A210_3 ((rd_T28 l0_0 x42_3).f3).length c210_3, .slice (some ad213) ((rd_T28 l0_0 x42_3).f4).length c210_4] 28 (0, 0)) (by (with_reducible repeat (first | refine bN ?_ _ | refine bD ?_ | refine bA ?_ _)); exact BK211.out) hb); have n3_ := Aside0.mk (below_step (by repeat (first | (with_reducible first | exact HB.out | apply wA | apply wN | apply wD | refine wS ?_ GE204.out | refine wS ?_ GE211.out) | exact HB.out)) hb); have n4_ := Aside0.mk (hbox); have n5_ := Aside0.mk ((by rw [hg]; exact (below_size (by repeat (first | (with_reducible first | exact HB.out | apply wA | apply wN | apply wD | refine wS ?_ GE204.out | refine wS ?_ GE211.out) | exact HB.out))) : w.heap.size ≤ gb214)); have n6_ := Aside0.mk ((by rw [hg]; exact (below_size (by repeat (first | (with_reducible first | exact HB.out | apply wA | apply wN | apply wD | refine wS ?_ GE204.out | refine wS ?_ GE211.out) | exact HB.out))) : w.heap.size ≤ gb214)); have n7_ := Aside0.mk ((by rw [hg]; exact Nat.ne_of_lt (blk_lt (g := gb204) (o := .cells #[.slice (some ad210) l0_0.length c0_0] 24 (0, 0)) (by (with_reducible repeat (first | refine bN ?_ _ | refine bD ?_ | refine bA ?_ _)); exact BK204.out)) : gb204 ≠ gb214)); have n8_ := Aside0.mk ((by rw [hg]; exact Nat.ne_of_gt (blk_lt (g := gb204) (o := .cells #[.slice (some ad210) l0_0.length c0_0] 24 (0, 0)) (by (with_reducible repeat (first | refine bN ?_ _ | refine bD ?_ | refine bA ?_ _)); exact BK204.out)) : gb214 ≠ gb204)); have n9_ := Aside0.mk ((by rw [hg]; exact Nat.ne_of_lt (blk_lt (g := gb211) (o := .cells #[.int .i64 ((rd_T28 l0_0 x42_3).f0), .int .i64 ((rd_T28 l0_0 x42_3).f1), .int .i64 ((rd_T28 l0_0 x42_3).f2), .slice A210_3 ((rd_T28 l0_0 x42_3).f3).length c210_3, .slice (some ad213) ((rd_T28 l0_0 x42_3).f4).length c210_4] 28 (0, 0)) (by (with_reducible repeat (first | refine bN ?_ _ | refine bD ?_ | refine bA ?_ _)); exact BK211.out)) : gb211 ≠ gb214)); have n10_ := Aside0.mk ((by rw [hg]; exact Nat.ne_of_gt (blk_lt (g := gb211) (o := .cells #[.int .i64 ((rd_T28 l0_0 x42_3).f0), .int .i64 ((rd_T28 l0_0 x42_3).f1), .int .i64 ((rd_T28 l0_0 x42_3).f2), .slice A210_3 ((rd_T28 l0_0 x42_3).f3).length c210_3, .slice (some ad213) ((rd_T28 l0_0 x42_3).f4).length c210_4] 28 (0, 0)) (by (with_reducible repeat (first | refine bN ?_ _ | refine bD ?_ | refine bA ?_ _)); exact BK211.out)) : gb214 ≠ gb211)); clear HO_5; clear BK204; clear BK211; clear HB; have HO_5 := n0_; have BK204 := n1_; have BK211 := n2_; have HB := n3_; have BK214 := n4_; have GW214 := n5_; have GE214 := n6_; have NB204_214 := n7_; have NB214_204 := n8_; have NB211_214 := n9_; have NB214_211 := n10_; clear n0_ n1_ n2_ n3_ n4_ n5_ n6_ n7_ n8_ n9_ n10_; clear hb hbox hg; have hnb64 := NB214_204.out; have hnc64 := NB204_214.out; have hnb65 := NB214_211.out; have hnc65 := NB211_214.out; have hcz66_0 : w63.cell? ⟨gb214, 0, none⟩ = some (.string (⟨#[]⟩ : ByteArray)) := (bC BK214.out 0).trans rfl; have hcz66_1 : w63.cell? ⟨gb214, 1, none⟩ = some (.int .i64 0) := (bC BK214.out 1).trans rfl; have hfz66_0 := bZ BK214.out 0; have hfz66_1 := bZ BK214.out 1))
                        (try simp only [← hl5_4])
                        go_roundg k4
                        case measure => have := HJ4.out; have := HK2.out; have := HK3.out; have := HK4.out; omega
                        case rel => exact ⟨(x5_4), (wrap64 (x55_4 + 1)), (by first | rfl | (simp; done) | (simp [*]; done)), H', ⟨by have := HJ4.out; have := HK2.out; have := HK3.out; have := HK4.out; omega⟩, ⟨by (try simp only [hl5_2]); (try simp only [hl5_3]); (try simp only [hl5_4]); (with_reducible repeat (first | apply Kd.R_alloc | apply Kd.R_drewN | apply Kd.R_drew)); exact Kd.R_mono (Kd.R_far (p := ⟨gb214, 1, none⟩) (Kd.R_far (p := ⟨gb214, 0, none⟩) (Kd.R_types HO_5.out BK214.out (by decide)) (fun _ hk => hk.2) (.string ((rd_T78 ((rd_T28 l0_0 x42_3).f4) x55_4).f0))) (fun _ hk => hk.2) (.int .i64 ((rd_T78 ((rd_T28 l0_0 x42_3).f4) x55_4).f1))) (fun _ hk => trivial)⟩, ⟨by (try simp only [hl5_2]); (try simp only [hl5_3]); (try simp only [hl5_4]); (with_reducible repeat (first | refine bN ?_ _ | refine bD ?_ | refine bA ?_ _)); refine bF ?_ NB204_214.out _; (with_reducible repeat (first | refine bN ?_ _ | refine bD ?_ | refine bA ?_ _)); refine bF ?_ NB204_214.out _; (with_reducible repeat (first | refine bN ?_ _ | refine bD ?_ | refine bA ?_ _)); exact BK204.out⟩, ⟨by (try simp only [hl5_2]); (try simp only [hl5_3]); (try simp only [hl5_4]); (with_reducible repeat (first | refine bN ?_ _ | refine bD ?_ | refine bA ?_ _)); refine bF ?_ NB211_214.out _; (with_reducible repeat (first | refine bN ?_ _ | refine bD ?_ | refine bA ?_ _)); refine bF ?_ NB211_214.out _; (with_reducible repeat (first | refine bN ?_ _ | refine bD ?_ | refine bA ?_ _)); exact BK211.out⟩, ⟨by repeat (first | (with_reducible first | exact HB.out | apply wA | apply wN | apply wD | refine wS ?_ GE204.out | refine wS ?_ GE211.out | refine wS ?_ GE214.out) | exact HB.out)⟩⟩
                      ·
                       rw [if_neg c36] at H; exact absurd H (by simp)
                     ·
                      rw [if_neg c35] at H; exact absurd H (by simp)
                    ·
                     rw [if_neg c34] at H; have c34b0 : decide (x55_4 < (((rd_T28 l0_0 x42_3).f4).length : Int)) = false := decide_eq_false c34; clear c34; have H' := Aside0.mk H; clear H
                     go_wp2
                     (try simp only [← hl5_3, ← hl5_4])
                     go_roundg k4
                     case measure => have := HJ4.out; have := HK2.out; have := HK3.out; have := HK4.out; omega
                     case rel => exact ⟨(x5_4), (wrap64 (x42_3 + 1)), (by first | rfl | (simp; done) | (simp [*]; done)), H', ⟨by have := HJ4.out; have := HK2.out; have := HK3.out; have := HK4.out; omega⟩, ⟨by (try simp only [hl5_2]); (try simp only [hl5_3]); (try simp only [hl5_4]); (with_reducible repeat (first | apply Kd.R_alloc | apply Kd.R_drewN | apply Kd.R_drew)); exact HO_5.out⟩, ⟨by (try simp only [hl5_2]); (try simp only [hl5_3]); (try simp only [hl5_4]); (with_reducible repeat (first | refine bN ?_ _ | refine bD ?_ | refine bA ?_ _)); exact BK204.out⟩, ⟨by repeat (first | (with_reducible first | exact HB.out | apply wA | apply wN | apply wD | refine wS ?_ GE204.out | refine wS ?_ GE211.out) | exact HB.out)⟩⟩
                 ·
                  replace c30 := Bool.eq_false_iff.mpr c30; subst c30
                  have H1 : (potsherdref12_reached.l1 k3 x5_3 (y205.length : Int) x37_2 l0_0 (l0_0.length : Int) (wrap64 (x42_3 + 1)) l0_0) = some r := by rw [if_neg (show ¬ (false = true) by decide)] at H; exact H
                  clear H; have H := H1; clear H1; have H' := Aside0.mk H; clear H; have p210 : 0 ≤ (x42_3 : Int) := of_decide_eq_true (by first | (with_reducible assumption) | assumption); have q210 : x42_3 < (l0_0.length : Int) := of_decide_eq_true (by first | (with_reducible assumption) | assumption); obtain ⟨ad210, A210_3, c210_3, A210_4, c210_4, e210, hx210_0, hx210_1, hx210_2, hx210_3, hx210_4, hl210_3, hi210_3, hl210_4, hi210_4⟩ := at_T28 HR0_0.out x42_3 p210 q210
                  cases e210
                  replace hx210_0 := (HB.out.cell (World.block_lt_of_cell? w _ hx210_0)).trans hx210_0; replace hx210_1 := (HB.out.cell (World.block_lt_of_cell? w _ hx210_1)).trans hx210_1; replace hx210_2 := (HB.out.cell (World.block_lt_of_cell? w _ hx210_2)).trans hx210_2; replace hx210_3 := (HB.out.cell (World.block_lt_of_cell? w _ hx210_3)).trans hx210_3; replace hx210_4 := (HB.out.cell (World.block_lt_of_cell? w _ hx210_4)).trans hx210_4; have HR210_3 := Aside0.mk hi210_3; have HC210_3 := Aside0.mk hl210_3; clear hi210_3 hl210_3; have HR210_4 := Aside0.mk hi210_4; have HC210_4 := Aside0.mk hl210_4; clear hi210_4 hl210_4; replace p210 := eq_true p210; replace q210 := eq_true q210
                  go_wp2_with (first | ((with_reducible refine gate_dst (N := 7) rfl ?_); (try (refine gate_guard (by rfl) ?_; dsimp only)); refine box_event ?hg (N := 7) ?hd (cs := #[.int .i64 0, .int .i64 0, .int .i64 0, .slice none 0 0, .slice none 0 0]) (t := 28) ?hr ?_; (case hd => rfl); (case hg => rfl); (case hr => first | (go_simp; done) | (go_simp; rfl)); intro gb211 hg w67 hbox hb; have n0_ := Aside0.mk (Kd.R_below (by (with_reducible repeat (first | apply Kd.R_alloc | apply Kd.R_drewN | apply Kd.R_drew)); exact HO_5.out) hb); have n1_ := Aside0.mk (bB (g := gb204) (o := .cells #[.slice (some ad210) l0_0.length c0_0] 24 (0, 0)) (by (with_reducible repeat (first | refine bN ?_ _ | refine bD ?_ | refine bA ?_ _)); exact BK204.out) hb); have n2_ := Aside0.mk (below_step (by repeat (first | (with_reducible first | exact HB.out | apply wA | apply wN | apply wD | refine wS ?_ GE204.out) | exact HB.out)) hb); have n3_ := Aside0.mk (hbox); have n4_ := Aside0.mk ((by rw [hg]; exact (below_size (by repeat (first | (with_reducible first | exact HB.out | apply wA | apply wN | apply wD | refine wS ?_ GE204.out) | exact HB.out))) : w.heap.size ≤ gb211)); have n5_ := Aside0.mk ((by rw [hg]; exact (below_size (by repeat (first | (with_reducible first | exact HB.out | apply wA | apply wN | apply wD | refine wS ?_ GE204.out) | exact HB.out))) : w.heap.size ≤ gb211)); have n6_ := Aside0.mk ((by rw [hg]; exact Nat.ne_of_lt (blk_lt (g := gb204) (o := .cells #[.slice (some ad210) l0_0.length c0_0] 24 (0, 0)) (by (with_reducible repeat (first | refine bN ?_ _ | refine bD ?_ | refine bA ?_ _)); exact BK204.out)) : gb204 ≠ gb211)); have n7_ := Aside0.mk ((by rw [hg]; exact Nat.ne_of_gt (blk_lt (g := gb204) (o := .cells #[.slice (some ad210) l0_0.length c0_0] 24 (0, 0)) (by (with_reducible repeat (first | refine bN ?_ _ | refine bD ?_ | refine bA ?_ _)); exact BK204.out)) : gb211 ≠ gb204)); clear HO_5; clear BK204; clear HB; have HO_5 := n0_; have BK204 := n1_; have HB := n2_; have BK211 := n3_; have GW211 := n4_; have GE211 := n5_; have NB204_211 := n6_; have NB211_204 := n7_; clear n0_ n1_ n2_ n3_ n4_ n5_ n6_ n7_; clear hb hbox hg; have hnb68 := NB211_204.out; have hnc68 := NB204_211.out; have hcz69_0 : w67.cell? ⟨gb211, 0, none⟩ = some (.int .i64 0) := (bC BK211.out 0).trans rfl; have hcz69_1 : w67.cell? ⟨gb211, 1, none⟩ = some (.int .i64 0) := (bC BK211.out 1).trans rfl; have hcz69_2 : w67.cell? ⟨gb211, 2, none⟩ = some (.int .i64 0) := (bC BK211.out 2).trans rfl; have hcz69_3 : w67.cell? ⟨gb211, 3, none⟩ = some (.slice none 0 0) := (bC BK211.out 3).trans rfl; have hcz69_4 : w67.cell? ⟨gb211, 4, none⟩ = some (.slice none 0 0) := (bC BK211.out 4).trans rfl; have hfz69_0 := bZ BK211.out 0; have hfz69_1 := bZ BK211.out 1; have hfz69_2 := bZ BK211.out 2; have hfz69_3 := bZ BK211.out 3; have hfz69_4 := bZ BK211.out 4; have p212 : 0 ≤ (x42_3 : Int) := of_decide_eq_true (by first | (with_reducible assumption) | assumption); have q212 : x42_3 < (x5_3.length : Int) := of_decide_eq_true (by first | (with_reducible assumption) | assumption); obtain ⟨ad212, e212, hx212_0⟩ := Kd.at_bool (Kd.R_reads' HO_5.out).2.2 x42_3 p212 q212; (try rw [← Nbq29.out] at hx212_0); obtain rfl : (⟨go20, 0, none⟩ : Addr) = ad212 := (by injection e212); (first | simp only [add_plain] at hx212_0 | simp only [add_at] at hx212_0 | simp only [Addr.add, Nat.zero_add] at hx212_0 | skip); have hn212_0 : (⟨go20, 0, none⟩ : Addr).block ≠ gb211 := Kd.own_blk (Kd.R_ne HO_5.out BK211.out (by decide)); have hn212_1 : (⟨go20, 0, none⟩ : Addr).block ≠ gb211 := Kd.own_blk (Kd.R_ne HO_5.out BK211.out (by decide)); have hn212_2 : (⟨go20, 0, none⟩ : Addr).block ≠ gb211 := Kd.own_blk (Kd.R_ne HO_5.out BK211.out (by decide)); have hn212_3 : (⟨go20, 0, none⟩ : Addr).block ≠ gb211 := Kd.own_blk (Kd.R_ne HO_5.out BK211.out (by decide)); have hn212_4 : (⟨go20, 0, none⟩ : Addr).block ≠ gb211 := Kd.own_blk (Kd.R_ne HO_5.out BK211.out (by decide)); replace hx212_0 := (cell_far (p := ⟨gb211, 0, none⟩) (by first | (rw [add_block]; exact hn212_0) | (show (Addr.add _ _).block ≠ _; rw [add_block]; exact hn212_0) | exact hn212_0) (.int .i64 ((rd_T28 l0_0 x42_3).f0))).trans hx212_0; replace hx212_0 := (cell_far (p := ⟨gb211, 1, none⟩) (by first | (rw [add_block]; exact hn212_1) | (show (Addr.add _ _).block ≠ _; rw [add_block]; exact hn212_1) | exact hn212_1) (.int .i64 ((rd_T28 l0_0 x42_3).f1))).trans hx212_0; replace hx212_0 := (cell_far (p := ⟨gb211, 2, none⟩) (by first | (rw [add_block]; exact hn212_2) | (show (Addr.add _ _).block ≠ _; rw [add_block]; exact hn212_2) | exact hn212_2) (.int .i64 ((rd_T28 l0_0 x42_3).f2))).trans hx212_0; replace hx212_0 := (cell_far (p := ⟨gb211, 3, none⟩) (by first | (rw [add_block]; exact hn212_3) | (show (Addr.add _ _).block ≠ _; rw [add_block]; exact hn212_3) | exact hn212_3) (.slice A210_3 ((rd_T28 l0_0 x42_3).f3).length c210_3)).trans hx212_0; replace hx212_0 := (cell_far (p := ⟨gb211, 4, none⟩) (by first | (rw [add_block]; exact hn212_4) | (show (Addr.add _ _).block ≠ _; rw [add_block]; exact hn212_4) | exact hn212_4) (.slice A210_4 ((rd_T28 l0_0 x42_3).f4).length c210_4)).trans hx212_0; clear hn212_0; clear hn212_1; clear hn212_2; clear hn212_3; clear hn212_4; replace p212 := eq_true p212; replace q212 := eq_true q212))
                  (try simp only [← hl5_3])
                  go_roundg k3
                  case measure => have := HJ4.out; have := HK2.out; have := HK3.out; omega
                  case rel => exact ⟨(x5_3), (wrap64 (x42_3 + 1)), (by first | rfl | (simp; done) | (simp [*]; done)), H', ⟨by have := HJ4.out; have := HK2.out; have := HK3.out; omega⟩, ⟨by (try simp only [hl5_2]); (try simp only [hl5_3]); (with_reducible repeat (first | apply Kd.R_alloc | apply Kd.R_drewN | apply Kd.R_drew)); exact Kd.R_mono (Kd.R_far (p := ⟨gb211, 4, none⟩) (Kd.R_far (p := ⟨gb211, 3, none⟩) (Kd.R_far (p := ⟨gb211, 2, none⟩) (Kd.R_far (p := ⟨gb211, 1, none⟩) (Kd.R_far (p := ⟨gb211, 0, none⟩) (Kd.R_types HO_5.out BK211.out (by decide)) (fun _ hk => hk.2) (.int .i64 ((rd_T28 l0_0 x42_3).f0))) (fun _ hk => hk.2) (.int .i64 ((rd_T28 l0_0 x42_3).f1))) (fun _ hk => hk.2) (.int .i64 ((rd_T28 l0_0 x42_3).f2))) (fun _ hk => hk.2) (.slice A210_3 ((rd_T28 l0_0 x42_3).f3).length c210_3)) (fun _ hk => hk.2) (.slice A210_4 ((rd_T28 l0_0 x42_3).f4).length c210_4)) (fun _ hk => trivial)⟩, ⟨by (try simp only [hl5_2]); (try simp only [hl5_3]); (with_reducible repeat (first | refine bN ?_ _ | refine bD ?_ | refine bA ?_ _)); refine bF ?_ NB204_211.out _; (with_reducible repeat (first | refine bN ?_ _ | refine bD ?_ | refine bA ?_ _)); refine bF ?_ NB204_211.out _; (with_reducible repeat (first | refine bN ?_ _ | refine bD ?_ | refine bA ?_ _)); refine bF ?_ NB204_211.out _; (with_reducible repeat (first | refine bN ?_ _ | refine bD ?_ | refine bA ?_ _)); refine bF ?_ NB204_211.out _; (with_reducible repeat (first | refine bN ?_ _ | refine bD ?_ | refine bA ?_ _)); refine bF ?_ NB204_211.out _; (with_reducible repeat (first | refine bN ?_ _ | refine bD ?_ | refine bA ?_ _)); exact BK204.out⟩, ⟨by repeat (first | (with_reducible first | exact HB.out | apply wA | apply wN | apply wD | refine wS ?_ GE204.out | refine wS ?_ GE211.out) | exact HB.out)⟩⟩
                ·
                 rw [if_neg c28] at H; exact absurd H (by simp)
               ·
                rw [if_neg c27] at H; exact absurd H (by simp)
              ·
               rw [if_neg c26] at H; exact absurd H (by simp)
             ·
              rw [if_neg c25] at H; have c25b0 : decide (x42_3 < (l0_0.length : Int)) = false := decide_eq_false c25; clear c25; have H' := Aside0.mk H; clear H
              go_wp2
              (try simp only [← hl5_2, ← hl5_3])
              go_roundg k3
              case measure => have := HJ4.out; have := HK2.out; have := HK3.out; omega
              case rel => exact ⟨(x5_3), (wrap64 (x37_2 + 1)), (by first | rfl | (simp; done) | (simp [*]; done)), H', ⟨by have := HJ4.out; have := HK2.out; have := HK3.out; omega⟩, ⟨by (try simp only [hl5_2]); (try simp only [hl5_3]); (with_reducible repeat (first | apply Kd.R_alloc | apply Kd.R_drewN | apply Kd.R_drew)); exact HO_5.out⟩, ⟨by (try simp only [hl5_2]); (try simp only [hl5_3]); (with_reducible repeat (first | refine bN ?_ _ | refine bD ?_ | refine bA ?_ _)); exact BK204.out⟩, ⟨by repeat (first | (with_reducible first | exact HB.out | apply wA | apply wN | apply wD | refine wS ?_ GE204.out) | exact HB.out)⟩⟩
          ·
           rw [if_neg c23] at H; have c23b0 : decide (x37_2 < (y205.length : Int)) = false := decide_eq_false c23; clear c23; (first | simp only [hl5_4] at c23b0 | simp only [hl5_3] at c23b0 | simp only [hl5_2] at c23b0 | skip); obtain rfl := Option.some.inj H
           go_wp2
           go_ret
           exact ⟨_, by first | rfl | exact congrArg (fun b_ => Ending.returned (Value.bool b_)) HRET.out | (rw [HRET.out]) | (simp [errW_none, errW_some] <;> rfl) | (simp [*, errW_none, errW_some] <;> rfl), by (with_reducible repeat (first | apply Kd.R_alloc | apply Kd.R_drewN | apply Kd.R_drew)); exact HO_5.out, by repeat (first | (with_reducible first | exact HB.out | apply wA | apply wN | apply wD | refine wS ?_ GE204.out) | exact HB.out)⟩
       ·
        rw [if_neg c19] at H; exact absurd H (by simp)
      ·
       rw [if_neg c18] at H; exact absurd H (by simp)
  ·
   rw [if_neg c4] at H; exact absurd H (by simp)
 ·
  rw [if_neg c3] at H; exact absurd H (by simp)
end Go.Proofs.Ytkigiehkckjlhaa.PSums
