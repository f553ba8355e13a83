/- The Go functions that these laws reach, each as a Lean function with the same answers (a law itself where it answers true), and the proof that the code comes to them; conditions: those of each theorem. Laid by a program of this session over the print. -/
import Derived.Test.YtkigiehkckjlhaaZMakesPMakesx0
namespace Go.Proofs.Ytkigiehkckjlhaa.PMakes
open Go.RowKit Go.Proofs.YtkigiehkckjlhaaW.PrintWords Go.Proofs.YtkigiehkckjlhaaW.PrintLast Go.Proofs.YtkigiehkckjlhaaW.PrintMore
attribute [local go_sem] max2_int min2_int max_two min_two max_three min_three max_four min_four   -- for this text's walks alone
set_option linter.unusedVariables false
set_option linter.unusedSimpArgs false
open Go.Proofs.YtkigiehkckjlhaaW.PrintWords renaming blk_drewN → bN, blk_drew → bD, blk_alloc → bA, below_set → wS, below_alloc → wA, pw_below_drewN → wN, below_drew1 → wD, blk_below → bB, blk_far → bF, blk_cell → bC, blk_frozen → bZ
open List renaming setIfInBounds_toArray → lT, set_cons_zero → l0_, set_cons_succ → lS
mutual
def dir_below.l0 : Nat → List Bool → List Int → List (S28) → Option (List Bool)
 | 0, _, _, _ => none
 | k + 1, x5, x6, x154000 => if (x6.length : Int) > 0 then (if 0 ≤ (wrap64 ((x6.length : Int) - 1)) then (if (wrap64 ((x6.length : Int) - 1)) < (x6.length : Int) then (if (wrap64 ((x6.length : Int) - 1)) ≤ (x6.length : Int) then (if 0 ≤ (rd x6 (wrap64 ((x6.length : Int) - 1))) then (if (rd x6 (wrap64 ((x6.length : Int) - 1))) < (x154000.length : Int) then (dir_below.l1 k x5 (x6.take ((wrap64 ((x6.length : Int) - 1)) : Int).toNat) ((rd_T28 x154000 (rd x6 (wrap64 ((x6.length : Int) - 1)))).f4) (((rd_T28 x154000 (rd x6 (wrap64 ((x6.length : Int) - 1)))).f4).length : Int) 0 x154000) else (none)) else (none)) else (none)) else (none)) else (none)) else (some x5)
def dir_below.l1 : Nat → List Bool → List Int → List (S78) → Int → Int → List (S28) → Option (List Bool)
 | 0, _, _, _, _, _, _ => none
 | k + 1, x5, x6, x38, x39, x40, x154000 => if x40 < x39 then (if 0 ≤ x40 then (if x40 < (x38.length : Int) then (if 0 ≤ ((rd_T78 x38 x40).f1) then (if ((rd_T78 x38 x40).f1) < (x5.length : Int) then (if (rdOf false x5 ((rd_T78 x38 x40).f1) = true) then (none) else (if x6.length < 17592186044416 then (dir_below.l1 k (x5.set (((rd_T78 x38 x40).f1) : Int).toNat true) (x6 ++ [(rd_T78 x38 x40).f1]) x38 x39 (wrap64 (x40 + 1)) x154000) else (none))) else (none)) else (none)) else (none)) else (none)) else (dir_below.l0 k x5 x6 x154000)
end
def dir_below.f (k : Nat) (l0_0 : List (S28)) (a1 : Int) : Option (List Bool) := if 0 ≤ (l0_0.length : Int) then (if ((l0_0.length : Int) : Int).toNat ≤ 281474976710656 then ((some (List.replicate ((l0_0.length : Int) : Int).toNat false : List Bool)).bind fun y154 => (if 0 ≤ a1 then (if a1 < (y154.length : Int) then (dir_below.l0 k (y154.set (a1 : Int).toNat true) (([a1] : List Int)) l0_0) else (none)) else (none))) else (none)) else (none)
theorem dir_below.mono_l : ∀ k, (∀ y0 y1 y2, LeO (dir_below.l0 k y0 y1 y2) (dir_below.l0 (k + 1) y0 y1 y2)) ∧ (∀ y0 y1 y2 y3 y4 y5, LeO (dir_below.l1 k y0 y1 y2 y3 y4 y5) (dir_below.l1 (k + 1) y0 y1 y2 y3 y4 y5))
 | 0 => ⟨fun _ _ _ r h => by simp [dir_below.l0] at h, fun _ _ _ _ _ _ r h => by simp [dir_below.l1] at h⟩
 | k + 1 => by
  obtain ⟨ih0, ih1⟩ := dir_below.mono_l k; refine ⟨?_, ?_⟩
  ·
   intro y0 y1 y2
   unfold dir_below.l0
   repeat' first
   | (with_reducible exact ih0 _ _ _)
   | (with_reducible exact ih1 _ _ _ _ _ _)
   | (with_reducible exact LeO.refl _)
   | (with_reducible exact LeO.none _)
   | (with_reducible refine LeO.ite ?_ ?_)
   | (with_reducible refine LeO.bind ?_ (fun _ => ?_))
   | exact ih0 _ _ _
   | exact ih1 _ _ _ _ _ _
   | exact LeO.none _
   | refine LeO.ite ?_ ?_
   | refine LeO.bind ?_ (fun _ => ?_)
  ·
   intro y0 y1 y2 y3 y4 y5
   unfold dir_below.l1
   repeat' first
   | (with_reducible exact ih0 _ _ _)
   | (with_reducible exact ih1 _ _ _ _ _ _)
   | (with_reducible exact LeO.refl _)
   | (with_reducible exact LeO.none _)
   | (with_reducible refine LeO.ite ?_ ?_)
   | (with_reducible refine LeO.bind ?_ (fun _ => ?_))
   | exact ih0 _ _ _
   | exact ih1 _ _ _ _ _ _
   | exact LeO.none _
   | refine LeO.ite ?_ ?_
   | refine LeO.bind ?_ (fun _ => ?_)
theorem dir_below.mono : ∀ a0 a1 k, LeO (dir_below.f k a0 a1) (dir_below.f (k + 1) a0 a1) := by
 intro a0 a1 k; obtain ⟨ih0, ih1⟩ := dir_below.mono_l k
 unfold dir_below.f
 repeat' first
  | (with_reducible exact ih0 _ _ _)
  | (with_reducible exact ih1 _ _ _ _ _ _)
  | (with_reducible exact LeO.refl _)
  | (with_reducible exact LeO.none _)
  | (with_reducible refine LeO.ite ?_ ?_)
  | (with_reducible refine LeO.bind ?_ (fun _ => ?_))
  | exact ih0 _ _ _
  | exact ih1 _ _ _ _ _ _
  | exact LeO.none _
  | refine LeO.ite ?_ ?_
  | refine LeO.bind ?_ (fun _ => ?_)
set_option maxHeartbeats 8000000 in
set_option maxRecDepth 100000 in
theorem dir_below.calls (k : Nat) (A0_0 : Option Addr) (c0_0 : Nat) (l0_0 : List (S28)) (a1 : Int) (r : List Bool) (w : World) (hr0_0 : Kd.C k28 w A0_0 l0_0.length l0_0) (hc0_0 : l0_0.length ≤ c0_0) (h : dir_below.f k l0_0 a1 = some r) :
 Calls Try.prog 73 #[.agg #[.slice A0_0 l0_0.length c0_0], .int .i64 a1] w fun e w' => ∃ v0_ : Value, e = .returned (v0_) ∧ Kd.R Kd.bool 4 w' w.heap.size (fun _ => True) v0_ r ∧ Below w.heap.size w w' := by
 have hu24 := Try.underlying24; have hu78 := Try.underlying78; have HR0_0 := Aside0.mk hr0_0; have HC0_0 := Aside0.mk hc0_0; clear hr0_0 hc0_0; have HB := Aside0.mk (Below.refl w.heap.size w); have H : (if 0 ≤ (l0_0.length : Int) then (if ((l0_0.length : Int) : Int).toNat ≤ 281474976710656 then ((some (List.replicate ((l0_0.length : Int) : Int).toNat false : List Bool)).bind fun y154 => (if 0 ≤ a1 then (if a1 < (y154.length : Int) then (dir_below.l0 k (y154.set (a1 : Int).toNat true) (([a1] : List Int)) l0_0) else (none)) else (none))) else (none)) else (none)) = some r := h; clear h
 by_cases c3 : 0 ≤ (l0_0.length : Int)
 ·
  rw [if_pos c3] at H; have c3b0 := eq_true c3; have c3b1 : decide (0 ≤ (l0_0.length : Int)) = true := decide_eq_true c3; clear c3
  by_cases c4 : ((l0_0.length : Int) : Int).toNat ≤ 281474976710656
  ·
   rw [if_pos c4] at H; have c4b0 := eq_true c4; have c4b1 : decide (((l0_0.length : Int) : Int).toNat ≤ 281474976710656) = true := decide_eq_true c4; clear c4; obtain ⟨y154, hy154⟩ : ∃ y_ : List Bool, y_ = (List.replicate ((l0_0.length : Int) : Int).toNat false) := ⟨_, rfl⟩
   replace H : (if 0 ≤ a1 then (if a1 < (y154.length : Int) then (dir_below.l0 k (y154.set (a1 : Int).toNat true) (([a1] : List Int)) l0_0) else (none)) else (none)) = some r := by first | (rw [hy154]; with_reducible exact H) | (have H2_ := (Option.bind_some _ _).symm.trans H; rw [hy154]; with_reducible exact H2_) | (have H2_ := (Option.bind_some _ _).symm.trans H; with_reducible exact H2_) | with_reducible exact H | (rw [hy154]; exact H) | exact H
   have Ny154 := Aside0.mk hy154; clear hy154; obtain ⟨y157, hy157⟩ : ∃ y_ : List Int, y_ = (([a1] : List Int)) := ⟨_, rfl⟩
   replace H : (if 0 ≤ a1 then (if a1 < (y154.length : Int) then (dir_below.l0 k (y154.set (a1 : Int).toNat true) y157 l0_0) else (none)) else (none)) = some r := by first | (rw [hy157]; with_reducible exact H) | (have H2_ := (Option.bind_some _ _).symm.trans H; rw [hy157]; with_reducible exact H2_) | (have H2_ := (Option.bind_some _ _).symm.trans H; with_reducible exact H2_) | with_reducible exact H | (rw [hy157]; exact H) | exact H
   have Ny157 := Aside0.mk hy157; clear hy157
   by_cases c5 : 0 ≤ a1
   ·
    rw [if_pos c5] at H; have c5b0 : decide (0 ≤ a1) = true := decide_eq_true c5; clear c5
    by_cases c6 : a1 < (y154.length : Int)
    ·
     rw [if_pos c6] at H; have c6b0 : decide (a1 < (y154.length : Int)) = true := decide_eq_true c6; clear c6; obtain ⟨y160, hy160⟩ : ∃ y_ : List Bool, y_ = (y154.set (a1 : Int).toNat true) := ⟨_, rfl⟩
     replace H : (dir_below.l0 k y160 y157 l0_0) = some r := by first | (rw [hy160]; with_reducible exact H) | (have H2_ := (Option.bind_some _ _).symm.trans H; rw [hy160]; with_reducible exact H2_) | (have H2_ := (Option.bind_some _ _).symm.trans H; with_reducible exact H2_) | with_reducible exact H | (rw [hy160]; exact H) | exact H
     have Ny160 := Aside0.mk hy160; clear hy160; have H' := Aside0.mk H; clear H
     go_enter Try.func73, Try.ntmps73
     go_wp2_with (first | ((with_reducible refine gate_dst (N := 2) rfl ?_); refine box_event ?hg (N := 2) ?hd (cs := #[.slice A0_0 l0_0.length c0_0]) (t := 24) ?hr ?_; (case hd => rfl); (case hg => rfl); (case hr => first | (go_simp; done) | (go_simp; rfl)); intro gb153 hg w8 hbox hb; have n0_ := Aside0.mk (below_step (by repeat (first | (with_reducible first | exact HB.out | apply wA | apply wN | apply wD) | exact HB.out)) hb); have n1_ := Aside0.mk (hbox); have n2_ := Aside0.mk ((by rw [hg]; exact (below_size (by repeat (first | (with_reducible first | exact HB.out | apply wA | apply wN | apply wD) | exact HB.out))) : w.heap.size ≤ gb153)); have n3_ := Aside0.mk ((by rw [hg]; exact (below_size (by repeat (first | (with_reducible first | exact HB.out | apply wA | apply wN | apply wD) | exact HB.out))) : w.heap.size ≤ gb153)); clear HB; have HB := n0_; have BK153 := n1_; have GW153 := n2_; have GE153 := n3_; clear n0_ n1_ n2_ n3_; clear hb hbox hg; have hcz9_0 : w8.cell? ⟨gb153, 0, none⟩ = some (.slice A0_0 l0_0.length c0_0) := (bC BK153.out 0).trans rfl; have hfz9_0 := bZ BK153.out 0) | ((with_reducible refine gate_dst (N := 13) rfl ?_); refine Kd.R_make Kd.bool _ 4 rfl (N := 13) rfl 79 _ _ rfl (l0_0.length : Int) rfl rfl Try.underlying79 (.bool false) 1 info4 rfl (by decide) (by omega) false (ok := fun _ => True) (okp := fun _ => True) rfl (fun _ hk => hk) trivial (of_decide_eq_true (by first | (with_reducible assumption) | assumption)) (Nat.le_trans (Nat.mul_le_mul_right _ (of_decide_eq_true (by first | (with_reducible assumption) | assumption) : (l0_0.length : Int).toNat ≤ 281474976710656)) (by omega)) (Below.refl _ _) (Nat.le_refl _) ?_; intro v155 w10 ho11 hb hg_ hnew_; clear hg_ hnew_; (first | rw [← Ny154.out] at ho11 | (simp only [Int.reduceToNat] at ho11; rw [← Ny154.out] at ho11)); have n0_ := Aside0.mk (Kd.R_lower ho11 (below_size (by repeat (first | (with_reducible first | exact HB.out | apply wA | apply wN | apply wD | refine wS ?_ GE153.out) | exact HB.out)))); have n1_ := Aside0.mk (bB (g := gb153) (o := .cells #[.slice A0_0 l0_0.length c0_0] 24 (0, 0)) (by (with_reducible repeat (first | refine bN ?_ _ | refine bD ?_ | refine bA ?_ _)); exact BK153.out) hb); have n2_ := Aside0.mk (below_step (by repeat (first | (with_reducible first | exact HB.out | apply wA | apply wN | apply wD | refine wS ?_ GE153.out) | exact HB.out)) hb); clear BK153; clear HB; have HO156 := n0_; have BK153 := n1_; have HB := n2_; clear n0_ n1_ n2_; clear hb ho11) | ((with_reducible refine gate_dst (N := 15) rfl ?_); refine Kd.R_lit (Kd.int .i64) _ 3 ?hg (N := 15) ?hd (xs := ([a1] : List Int)) (inner := [.int .i64 a1]) (ok := fun _ => True) (okp := fun _ => True) ?hr ?hp (fun _ hk => hk) trivial (Below.refl _ _) (Nat.le_refl _) (by simp) ?_; (case hd => rfl); (case hg => rfl); (case hr => first | (go_simp; done) | (go_simp; rfl)); (case hp => exact (Reps.one (show Kd.M (Kd.int .i64) _ _ _ a1 [.int .i64 a1] from rfl) (Reps.none _ _))); intro v158 w12 ho13 hb hg_ hnew_; clear hg_ hnew_; (first | rw [← Ny157.out] at ho13 | (simp only [Int.reduceToNat] at ho13; rw [← Ny157.out] at ho13)); have n0_ := Aside0.mk (Kd.R_below (by (with_reducible repeat (first | apply Kd.R_alloc | apply Kd.R_drewN | apply Kd.R_drew)); exact HO156.out) hb); have n1_ := Aside0.mk (Kd.R_lower ho13 (below_size (by repeat (first | (with_reducible first | exact HB.out | apply wA | apply wN | apply wD | refine wS ?_ GE153.out) | exact HB.out)))); have n2_ := Aside0.mk (bB (g := gb153) (o := .cells #[.slice A0_0 l0_0.length c0_0] 24 (0, 0)) (by (with_reducible repeat (first | refine bN ?_ _ | refine bD ?_ | refine bA ?_ _)); exact BK153.out) hb); have n3_ := Aside0.mk (below_step (by repeat (first | (with_reducible first | exact HB.out | apply wA | apply wN | apply wD | refine wS ?_ GE153.out) | exact HB.out)) hb); clear HO156; clear BK153; clear HB; have HO156 := n0_; have HO159 := n1_; have BK153 := n2_; have HB := n3_; clear n0_ n1_ n2_ n3_; clear hb ho13; have p7 : 0 ≤ (a1 : Int) := of_decide_eq_true (by first | (with_reducible assumption) | assumption); have q7 : (a1 : Int) < ((y154.length : Int) : Int) := of_decide_eq_true (by first | (with_reducible assumption) | assumption); obtain ⟨go7, co7, eo7, gb7, gl7, cl7, HG7⟩ := Kd.R_form HO156.out (by omega); (first | cases eo7 | (injection eo7 with ea_ en_ ec_; (first | subst ea_ | (injection ea_ with ea_; subst ea_)); subst ec_; clear en_)); have GB7 := Aside0.mk gb7; have GG7 := Aside0.mk HG7; clear gb7 gl7 HG7; obtain ⟨hx7_0, hf7_0⟩ := Kd.R_celln false HO156.out (a1 : Int) p7 q7; replace p7 := eq_true p7; replace q7 := eq_true q7; obtain ⟨hy14_, hz14_⟩ := Kd.R_celln false HO156.out (a1 : Int) (of_decide_eq_true (by first | (with_reducible assumption) | assumption)) (of_decide_eq_true (by first | (with_reducible assumption) | assumption)); have HP14 := Kd.R_putg HO156.out (a1 : Int) true) | ((with_reducible refine gate_store (t := 4) (p := 18) rfl ?_); refine store_event (t := 4) (p := 18) (v := ?vo_w15) (w1 := (w12.setCell ⟨go7, (a1 : Int).toNat, none⟩ (.bool true))) ?hg ?ho ?hn ?hr ?_; (case ho => rfl); (case hg => rfl); (case hn => rfl); (case hr => first | (go_simp; done) | (go_simp; rfl)); intro w15 hw; have hg : w12.grownBy w15 (some go7) := (by rw [hw]; exact HP14.2); have hp_ : Kd.R Kd.bool 4 w15 w.heap.size (fun _ => True) (.slice (some ⟨go7, 0, none⟩) y154.length co7) y160 := (by rw [hw, Ny160.out]; exact HP14.1); clear HP14; have n0_ := Aside0.mk (blk_grown (g := gb153) (o := .cells #[.slice A0_0 l0_0.length c0_0] 24 (0, 0)) (by (with_reducible repeat (first | refine bN ?_ _ | refine bD ?_ | refine bA ?_ _)); exact BK153.out) hg (Kd.R_ne HO156.out BK153.out (by decide))); have n1_ := Aside0.mk (hp_); have n2_ := Aside0.mk (Kd.R_over' (v := (.slice (some ⟨go7, 0, none⟩) y154.length co7)) (by (with_reducible repeat (first | apply Kd.R_alloc | apply Kd.R_drewN | apply Kd.R_drew)); exact HO159.out) (Kd.R_typed HO156.out) (by decide) hg); have n3_ := Aside0.mk ((by rw [hw]; exact wS (HB.out) GB7.out : Below w.heap.size w w15)); clear BK153; clear HO156; clear HO159; clear HB; have BK153 := n0_; have HO156 := n1_; have HO159 := n2_; have HB := n3_; clear n0_ n1_ n2_ n3_; clear hg hw hp_))
     go_loopg [6] k (fun kq v6 w' => ∃ (x5_1 : List Bool) (x6_1 : List Int), Aside0 (dir_below.l0 kq x5_1 x6_1 l0_0 = some r) ∧ Aside0 (kq ≤ k) ∧ Aside0 (Kd.R Kd.bool 4 w' w.heap.size (fun _ => True) (.slice (some ⟨go7, 0, none⟩) y154.length co7) x5_1) ∧ Aside0 (Kd.R (Kd.int .i64) 3 w' w.heap.size (fun _ => True) v6 x6_1) ∧ Aside0 (w'.heap[gb153]? = some (.cells #[(.slice A0_0 l0_0.length c0_0)] 24 (0, 0))) ∧ Aside0 (Below w.heap.size w w'))
     case atStart => exact ⟨(y160), (y157), H', ⟨Nat.le_refl _⟩, ⟨by (with_reducible repeat (first | apply Kd.R_alloc | apply Kd.R_drewN | apply Kd.R_drew)); exact HO156.out⟩, ⟨by (with_reducible repeat (first | apply Kd.R_alloc | apply Kd.R_drewN | apply Kd.R_drew)); exact HO159.out⟩, ⟨by (with_reducible repeat (first | refine bN ?_ _ | refine bD ?_ | refine bA ?_ _)); exact BK153.out⟩, ⟨by repeat (first | (with_reducible first | exact HB.out | apply wA | apply wN | apply wD | refine wS ?_ GE153.out) | exact HB.out)⟩⟩
     case round =>
      clear H'
      try clear p2
      try clear c3
      try clear c3b0
      try clear c3b1
      try clear c4
      try clear c4b0
      try clear c4b1
      try clear c5
      try clear c5b0
      try clear c6
      try clear c6b0
      try clear c7
      try clear p7
      try clear q7
      try clear hx7
      try clear hf7
      try clear hcz9_0
      try clear hfz9_0
      try clear hx7_0
      try clear p7
      try clear q7
      obtain ⟨x5_1, x6_1, HA, HK1, HO_5, HO_6, BK153, HB⟩ := hrel; have hl5_1 := (Kd.R_reads' HO_5.out).1; rw [hl5_1] at HO_5
      (try simp only [hl5_1])
      (try simp only [hl5_1] at BK153)
      (try simp only [hl5_1] at HO_6)
      cases gk with
      | zero => exact absurd HA.out (by simp [dir_below.l0])
      | succ k1 =>
       have H := HA.out; clear HA; simp only [dir_below.l0] at H
       by_cases c16 : (x6_1.length : Int) > 0
       ·
        rw [if_pos c16] at H; have c16b0 : decide (0 < (x6_1.length : Int)) = true := decide_eq_true c16; have c16b1 : decide (0 < x6_1.length) = true := decide_eq_true (by omega); clear c16; obtain ⟨ji17, hji17⟩ : ∃ j_ : Int, (wrap64 ((x6_1.length : Int) - 1)) = j_ := ⟨_, rfl⟩
        replace H : (if 0 ≤ (ji17) then (if (ji17) < (x6_1.length : Int) then (if (ji17) ≤ (x6_1.length : Int) then (if 0 ≤ (rd x6_1 (ji17)) then (if (rd x6_1 (ji17)) < (l0_0.length : Int) then (dir_below.l1 k1 x5_1 (x6_1.take ((ji17) : Int).toNat) ((rd_T28 l0_0 (rd x6_1 (ji17))).f4) (((rd_T28 l0_0 (rd x6_1 (ji17))).f4).length : Int) 0 l0_0) else (none)) else (none)) else (none)) else (none)) else (none)) = some r := by first | (rw [hji17] at H; exact H) | (simp only [hji17] at H ⊢; exact H)
        have hji17w : (IntKind.i64.wrap ((x6_1.length : Int) - 1)) = ji17 := (i64_w _).trans hji17
        by_cases c18 : 0 ≤ (ji17)
        ·
         rw [if_pos c18] at H; have c18b0 : decide (0 ≤ (ji17)) = true := decide_eq_true c18; clear c18
         by_cases c19 : (ji17) < (x6_1.length : Int)
         ·
          rw [if_pos c19] at H; have c19b0 : decide ((ji17) < (x6_1.length : Int)) = true := decide_eq_true c19; clear c19
          by_cases c20 : (ji17) ≤ (x6_1.length : Int)
          ·
           rw [if_pos c20] at H; have c20b0 := eq_true c20; have c20b1 : decide ((ji17) ≤ (x6_1.length : Int)) = true := decide_eq_true c20; clear c20; obtain ⟨y162, hy162⟩ : ∃ y_ : List Int, y_ = (x6_1.take ((ji17) : Int).toNat) := ⟨_, rfl⟩
           replace H : (if 0 ≤ (rd x6_1 (ji17)) then (if (rd x6_1 (ji17)) < (l0_0.length : Int) then (dir_below.l1 k1 x5_1 y162 ((rd_T28 l0_0 (rd x6_1 (ji17))).f4) (((rd_T28 l0_0 (rd x6_1 (ji17))).f4).length : Int) 0 l0_0) else (none)) else (none)) = some r := by first | (rw [hy162]; with_reducible exact H) | (have H2_ := (Option.bind_some _ _).symm.trans H; rw [hy162]; with_reducible exact H2_) | (have H2_ := (Option.bind_some _ _).symm.trans H; with_reducible exact H2_) | with_reducible exact H | (rw [hy162]; exact H) | exact H
           have Ny162 := Aside0.mk hy162; clear hy162
           by_cases c21 : 0 ≤ (rd x6_1 (ji17))
           ·
            rw [if_pos c21] at H; have c21b0 : decide (0 ≤ (rd x6_1 (ji17))) = true := decide_eq_true c21; clear c21
            by_cases c22 : (rd x6_1 (ji17)) < (l0_0.length : Int)
            ·
             rw [if_pos c22] at H; have c22b0 : decide ((rd x6_1 (ji17)) < (l0_0.length : Int)) = true := decide_eq_true c22; clear c22; have H' := Aside0.mk H; clear H; obtain ⟨Ao23, co23, eo23⟩ := Kd.R_slice HO_6.out; subst eo23; have p161 : 0 ≤ ((ji17) : Int) := of_decide_eq_true (by first | (with_reducible assumption) | assumption); have q161 : (ji17) < (x6_1.length : Int) := of_decide_eq_true (by first | (with_reducible assumption) | assumption); obtain ⟨ad161, e161, hx161_0⟩ := Kd.at_int (Kd.R_reads' HO_6.out).2.2 (ji17) p161 q161
             cases e161
             replace p161 := eq_true p161; replace q161 := eq_true q161; have q24 : ((ji17) : Int) ≤ ((x6_1.length : Int) : Int) := of_decide_eq_true (by first | (with_reducible assumption) | assumption); obtain ⟨i024, hi024, _, hsz24, _⟩ := info_parts info3; have hcut24 := cut_to (P := Try.prog) 25 3 .i64 Try.underlying25 hi024 (some ad161) x6_1.length co23 (ji17) (of_decide_eq_true (by first | (with_reducible assumption) | assumption)) q24 (Kd.R_reads' HO_6.out).2.1; have hr24 := Kd.R_take (m := ((ji17) : Int).toNat) HO_6.out (by omega); have hy24 : y162.length = ((ji17) : Int).toNat := (by rw [Ny162.out, List.length_take]; omega)
             rw [← Ny162.out] at hr24; rw [← hy24] at hr24 hcut24; clear hy24 hi024 hsz24 HO_6; have HO164 := Aside0.mk hr24; clear hr24; replace q24 := eq_true q24; have hcz25_0 : wr.cell? ⟨gb153, 0, none⟩ = some (.slice A0_0 l0_0.length c0_0) := (bC BK153.out 0).trans rfl; have hfz25_0 := bZ BK153.out 0; have p165 : 0 ≤ ((rd x6_1 (ji17)) : Int) := of_decide_eq_true (by first | (with_reducible assumption) | assumption); have q165 : (rd x6_1 (ji17)) < (l0_0.length : Int) := of_decide_eq_true (by first | (with_reducible assumption) | assumption); obtain ⟨ad165, A165_3, c165_3, A165_4, c165_4, e165, hx165_0, hx165_1, hx165_2, hx165_3, hx165_4, hl165_3, hi165_3, hl165_4, hi165_4⟩ := at_T28 HR0_0.out (rd x6_1 (ji17)) p165 q165
             cases e165
             replace hx165_0 := (HB.out.cell (World.block_lt_of_cell? w _ hx165_0)).trans hx165_0; replace hx165_1 := (HB.out.cell (World.block_lt_of_cell? w _ hx165_1)).trans hx165_1; replace hx165_2 := (HB.out.cell (World.block_lt_of_cell? w _ hx165_2)).trans hx165_2; replace hx165_3 := (HB.out.cell (World.block_lt_of_cell? w _ hx165_3)).trans hx165_3; replace hx165_4 := (HB.out.cell (World.block_lt_of_cell? w _ hx165_4)).trans hx165_4; have HR165_3 := Aside0.mk hi165_3; have HC165_3 := Aside0.mk hl165_3; clear hi165_3 hl165_3; have HR165_4 := Aside0.mk hi165_4; have HC165_4 := Aside0.mk hl165_4; clear hi165_4 hl165_4; replace p165 := eq_true p165; replace q165 := eq_true q165
             go_wp2
             go_loopg [6, 40] k1 (fun kq v6 v40 w' => ∃ (x5_2 : List Bool) (x6_2 : List Int) (x40_2 : Int), v40 = .int .i64 x40_2 ∧ Aside0 (dir_below.l1 kq x5_2 x6_2 ((rd_T28 l0_0 (rd x6_1 (ji17))).f4) (((rd_T28 l0_0 (rd x6_1 (ji17))).f4).length : Int) x40_2 l0_0 = some r) ∧ Aside0 (kq ≤ k1) ∧ Aside0 (Kd.R Kd.bool 4 w' w.heap.size (fun _ => True) (.slice (some ⟨go7, 0, none⟩) x5_1.length co7) x5_2) ∧ Aside0 (Kd.R (Kd.int .i64) 3 w' w.heap.size (fun _ => True) v6 x6_2) ∧ Aside0 (w'.heap[gb153]? = some (.cells #[(.slice (some ad165) l0_0.length c0_0)] 24 (0, 0))) ∧ Aside0 (Below w.heap.size w w'))
             case atStart => exact ⟨(x5_1), (y162), (0), (by first | rfl | (simp; done) | (simp [*]; done)), H', ⟨Nat.le_refl _⟩, ⟨by (try simp only [hl5_1]); (with_reducible repeat (first | apply Kd.R_alloc | apply Kd.R_drewN | apply Kd.R_drew)); exact HO_5.out⟩, ⟨by (try simp only [hl5_1]); (with_reducible repeat (first | apply Kd.R_alloc | apply Kd.R_drewN | apply Kd.R_drew)); exact HO164.out⟩, ⟨by (try simp only [hl5_1]); (with_reducible repeat (first | refine bN ?_ _ | refine bD ?_ | refine bA ?_ _)); exact BK153.out⟩, ⟨by repeat (first | (with_reducible first | exact HB.out | apply wA | apply wN | apply wD | refine wS ?_ GE153.out) | exact HB.out)⟩⟩
             case round =>
              clear H'
              try clear c1
              try clear p1
              try clear q1
              try clear hx1
              try clear c2
              try clear p2
              try clear q2
              try clear c3
              try clear c3b0
              try clear c3b1
              try clear c4
              try clear c4b0
              try clear c4b1
              try clear c5
              try clear c5b0
              try clear c6
              try clear c6b0
              try clear p6
              try clear c7
              try clear p7
              try clear q7
              try clear hx7
              try clear hf7
              try clear c16
              try clear c16b0
              try clear c16b1
              try clear p16
              try clear q16
              try clear hx16
              try clear c18
              try clear c18b0
              try clear c19
              try clear c19b0
              try clear c20
              try clear c20b0
              try clear c20b1
              try clear c21
              try clear c21b0
              try clear c22
              try clear c22b0
              try clear q24
              try clear hcz25_0
              try clear hcz9_0
              try clear hfz25_0
              try clear hfz9_0
              try clear hx161_0
              try clear hx165_0
              try clear hx165_1
              try clear hx165_2
              try clear hx165_3
              try clear hx165_4
              try clear hx7_0
              try clear p161
              try clear p165
              try clear p2
              try clear p7
              try clear q161
              try clear q165
              try clear q24
              try clear q7
              obtain ⟨x5_2, x6_2, x40_2, rfl, HA, HK2, HO_5, HO_6, BK153, HB⟩ := hrel; have hl5_2 := (Kd.R_reads' HO_5.out).1; rw [hl5_2] at HO_5
              (try simp only [hl5_2])
              (try simp only [hl5_2] at BK153)
              (try simp only [hl5_2] at HO_6)
              cases gk with
              | zero => exact absurd HA.out (by simp [dir_below.l1])
              | succ k2 =>
               have H := HA.out; clear HA; simp only [dir_below.l1] at H
               by_cases c26 : x40_2 < (((rd_T28 l0_0 (rd x6_1 (ji17))).f4).length : Int)
               ·
                rw [if_pos c26] at H; have c26b0 : decide (x40_2 < (((rd_T28 l0_0 (rd x6_1 (ji17))).f4).length : Int)) = true := decide_eq_true c26; clear c26
                by_cases c27 : 0 ≤ x40_2
                ·
                 rw [if_pos c27] at H; have c27b0 : decide (0 ≤ x40_2) = true := decide_eq_true c27; clear c27
                 by_cases c28 : x40_2 < (((rd_T28 l0_0 (rd x6_1 (ji17))).f4).length : Int)
                 ·
                  rw [if_pos c28] at H; have c28b0 : decide (x40_2 < (((rd_T28 l0_0 (rd x6_1 (ji17))).f4).length : Int)) = true := decide_eq_true c28; clear c28
                  by_cases c29 : 0 ≤ ((rd_T78 ((rd_T28 l0_0 (rd x6_1 (ji17))).f4) x40_2).f1)
                  ·
                   rw [if_pos c29] at H; have c29b0 : decide (0 ≤ ((rd_T78 ((rd_T28 l0_0 (rd x6_1 (ji17))).f4) x40_2).f1)) = true := decide_eq_true c29; clear c29
                   by_cases c30 : ((rd_T78 ((rd_T28 l0_0 (rd x6_1 (ji17))).f4) x40_2).f1) < (x5_2.length : Int)
                   ·
                    rw [if_pos c30] at H; have c30b0 : decide (((rd_T78 ((rd_T28 l0_0 (rd x6_1 (ji17))).f4) x40_2).f1) < (x5_2.length : Int)) = true := decide_eq_true c30; clear c30; obtain ⟨bq31, hbq31⟩ : ∃ b_ : Bool, b_ = (rdOf false x5_2 ((rd_T78 ((rd_T28 l0_0 (rd x6_1 (ji17))).f4) x40_2).f1)) := ⟨_, rfl⟩
                    replace H : (if (bq31 = true) then (none) else (if x6_2.length < 17592186044416 then (dir_below.l1 k2 (x5_2.set (((rd_T78 ((rd_T28 l0_0 (rd x6_1 (ji17))).f4) x40_2).f1) : Int).toNat true) (x6_2 ++ [(rd_T78 ((rd_T28 l0_0 (rd x6_1 (ji17))).f4) x40_2).f1]) ((rd_T28 l0_0 (rd x6_1 (ji17))).f4) (((rd_T28 l0_0 (rd x6_1 (ji17))).f4).length : Int) (wrap64 (x40_2 + 1)) l0_0) else (none))) = some r := by rw [← hbq31] at H; exact H
                    have Nbq31 := Aside0.mk hbq31; clear hbq31
                    by_cases c32 : (bq31 = true)
                    ·
                     subst c32
                     have H1 : (none) = some r := by rw [if_pos rfl] at H; exact H
                     clear H; have H := H1; clear H1; exact absurd H (by simp)
                    ·
                     replace c32 := Bool.eq_false_iff.mpr c32; subst c32
                     have H1 : (if x6_2.length < 17592186044416 then (dir_below.l1 k2 (x5_2.set (((rd_T78 ((rd_T28 l0_0 (rd x6_1 (ji17))).f4) x40_2).f1) : Int).toNat true) (x6_2 ++ [(rd_T78 ((rd_T28 l0_0 (rd x6_1 (ji17))).f4) x40_2).f1]) ((rd_T28 l0_0 (rd x6_1 (ji17))).f4) (((rd_T28 l0_0 (rd x6_1 (ji17))).f4).length : Int) (wrap64 (x40_2 + 1)) l0_0) else (none)) = some r := by rw [if_neg (show ¬ (false = true) by decide)] at H; exact H
                     clear H; have H := H1; clear H1; obtain ⟨y169, hy169⟩ : ∃ y_ : List Bool, y_ = (x5_2.set (((rd_T78 ((rd_T28 l0_0 (rd x6_1 (ji17))).f4) x40_2).f1) : Int).toNat true) := ⟨_, rfl⟩
                     replace H : (if x6_2.length < 17592186044416 then (dir_below.l1 k2 y169 (x6_2 ++ [(rd_T78 ((rd_T28 l0_0 (rd x6_1 (ji17))).f4) x40_2).f1]) ((rd_T28 l0_0 (rd x6_1 (ji17))).f4) (((rd_T28 l0_0 (rd x6_1 (ji17))).f4).length : Int) (wrap64 (x40_2 + 1)) l0_0) else (none)) = some r := by first | (rw [hy169]; with_reducible exact H) | (have H2_ := (Option.bind_some _ _).symm.trans H; rw [hy169]; with_reducible exact H2_) | (have H2_ := (Option.bind_some _ _).symm.trans H; with_reducible exact H2_) | with_reducible exact H | (rw [hy169]; exact H) | exact H
                     have Ny169 := Aside0.mk hy169; clear hy169
                     by_cases c34 : x6_2.length < 17592186044416
                     ·
                      rw [if_pos c34] at H; have LMc34 := Aside0.mk c34; clear c34; obtain ⟨y170, hy170⟩ : ∃ y_ : List Int, y_ = (x6_2 ++ [(rd_T78 ((rd_T28 l0_0 (rd x6_1 (ji17))).f4) x40_2).f1]) := ⟨_, rfl⟩
                      replace H : (dir_below.l1 k2 y169 y170 ((rd_T28 l0_0 (rd x6_1 (ji17))).f4) (((rd_T28 l0_0 (rd x6_1 (ji17))).f4).length : Int) (wrap64 (x40_2 + 1)) l0_0) = some r := by first | (rw [hy170]; with_reducible exact H) | (have H2_ := (Option.bind_some _ _).symm.trans H; rw [hy170]; with_reducible exact H2_) | (have H2_ := (Option.bind_some _ _).symm.trans H; with_reducible exact H2_) | with_reducible exact H | (rw [hy170]; exact H) | exact H
                      have Ny170 := Aside0.mk hy170; clear hy170; have H' := Aside0.mk H; clear H; have p166 : 0 ≤ (x40_2 : Int) := of_decide_eq_true (by first | (with_reducible assumption) | assumption); have q166 : x40_2 < (((rd_T28 l0_0 (rd x6_1 (ji17))).f4).length : Int) := of_decide_eq_true (by first | (with_reducible assumption) | assumption); obtain ⟨ad166, e166, hx166_0, hx166_1⟩ := at_T78 HR165_4.out x40_2 p166 q166
                      cases e166
                      replace hx166_0 := (HB.out.cell (World.block_lt_of_cell? w _ hx166_0)).trans hx166_0; replace hx166_1 := (HB.out.cell (World.block_lt_of_cell? w _ hx166_1)).trans hx166_1; replace p166 := eq_true p166; replace q166 := eq_true q166
                      go_wp2_with (first | ((with_reducible refine gate_dst (N := 9) rfl ?_); refine box_event ?hg (N := 9) ?hd (cs := #[.string (⟨#[]⟩ : ByteArray), .int .i64 0]) (t := 78) ?hr ?_; (case hd => rfl); (case hg => rfl); (case hr => first | (go_simp; done) | (go_simp; rfl)); intro gb167 hg w35 hbox hb; have n0_ := Aside0.mk (Kd.R_below (by (with_reducible repeat (first | apply Kd.R_alloc | apply Kd.R_drewN | apply Kd.R_drew)); exact HO_5.out) hb); have n1_ := Aside0.mk (Kd.R_below (by (with_reducible repeat (first | apply Kd.R_alloc | apply Kd.R_drewN | apply Kd.R_drew)); exact HO_6.out) hb); have n2_ := Aside0.mk (bB (g := gb153) (o := .cells #[.slice (some ad165) l0_0.length c0_0] 24 (0, 0)) (by (with_reducible repeat (first | refine bN ?_ _ | refine bD ?_ | refine bA ?_ _)); exact BK153.out) hb); have n3_ := Aside0.mk (below_step (by repeat (first | (with_reducible first | exact HB.out | apply wA | apply wN | apply wD | refine wS ?_ GE153.out) | exact HB.out)) hb); have n4_ := Aside0.mk (hbox); have n5_ := Aside0.mk ((by rw [hg]; exact (below_size (by repeat (first | (with_reducible first | exact HB.out | apply wA | apply wN | apply wD | refine wS ?_ GE153.out) | exact HB.out))) : w.heap.size ≤ gb167)); have n6_ := Aside0.mk ((by rw [hg]; exact (below_size (by repeat (first | (with_reducible first | exact HB.out | apply wA | apply wN | apply wD | refine wS ?_ GE153.out) | exact HB.out))) : w.heap.size ≤ gb167)); have n7_ := Aside0.mk ((by rw [hg]; exact Nat.ne_of_lt (blk_lt (g := gb153) (o := .cells #[.slice (some ad165) l0_0.length c0_0] 24 (0, 0)) (by (with_reducible repeat (first | refine bN ?_ _ | refine bD ?_ | refine bA ?_ _)); exact BK153.out)) : gb153 ≠ gb167)); have n8_ := Aside0.mk ((by rw [hg]; exact Nat.ne_of_gt (blk_lt (g := gb153) (o := .cells #[.slice (some ad165) l0_0.length c0_0] 24 (0, 0)) (by (with_reducible repeat (first | refine bN ?_ _ | refine bD ?_ | refine bA ?_ _)); exact BK153.out)) : gb167 ≠ gb153)); clear HO_5; clear HO_6; clear BK153; clear HB; have HO_5 := n0_; have HO_6 := n1_; have BK153 := n2_; have HB := n3_; have BK167 := n4_; have GW167 := n5_; have GE167 := n6_; have NB153_167 := n7_; have NB167_153 := n8_; clear n0_ n1_ n2_ n3_ n4_ n5_ n6_ n7_ n8_; clear hb hbox hg; have hnb36 := NB167_153.out; have hnc36 := NB153_167.out; have hcz37_0 : w35.cell? ⟨gb167, 0, none⟩ = some (.string (⟨#[]⟩ : ByteArray)) := (bC BK167.out 0).trans rfl; have hcz37_1 : w35.cell? ⟨gb167, 1, none⟩ = some (.int .i64 0) := (bC BK167.out 1).trans rfl; have hfz37_0 := bZ BK167.out 0; have hfz37_1 := bZ BK167.out 1) | ((with_reducible refine gate_store (t := 78) (p := 9) rfl ?_); refine store_event (t := 78) (p := 9) (v := ?vo_w38) (w1 := ((w35.setCell ⟨gb167, 0, none⟩ (.string ((rd_T78 ((rd_T28 l0_0 (rd x6_1 (ji17))).f4) x40_2).f0))).setCell ⟨gb167, 1, none⟩ (.int .i64 ((rd_T78 ((rd_T28 l0_0 (rd x6_1 (ji17))).f4) x40_2).f1)))) ?hg ?ho ?hn ?hr ?_; (case ho => rfl); (case hg => rfl); (case hn => rfl); (case hr => first | (go_simp; done) | (go_simp; rfl)); intro w38 hw; have n0_ : Aside0 (Kd.R Kd.bool 4 w38 w.heap.size (fun _ => True) (.slice (some ⟨go7, 0, none⟩) x5_2.length co7) x5_2) := ⟨(by rw [hw]; exact (by (with_reducible repeat (first | apply Kd.R_alloc | apply Kd.R_drewN | apply Kd.R_drew)); exact Kd.R_mono (Kd.R_far (p := ⟨gb167, 1, none⟩) (Kd.R_far (p := ⟨gb167, 0, none⟩) (Kd.R_types HO_5.out BK167.out (by decide)) (fun _ hk => hk.2) (.string ((rd_T78 ((rd_T28 l0_0 (rd x6_1 (ji17))).f4) x40_2).f0))) (fun _ hk => hk.2) (.int .i64 ((rd_T78 ((rd_T28 l0_0 (rd x6_1 (ji17))).f4) x40_2).f1))) (fun _ hk => trivial)))⟩; have n1_ : Aside0 (Kd.R (Kd.int .i64) 3 w38 w.heap.size (fun _ => True) u6 x6_2) := ⟨(by rw [hw]; exact (by (with_reducible repeat (first | apply Kd.R_alloc | apply Kd.R_drewN | apply Kd.R_drew)); exact Kd.R_mono (Kd.R_far (p := ⟨gb167, 1, none⟩) (Kd.R_far (p := ⟨gb167, 0, none⟩) (Kd.R_types HO_6.out BK167.out (by decide)) (fun _ hk => hk.2) (.string ((rd_T78 ((rd_T28 l0_0 (rd x6_1 (ji17))).f4) x40_2).f0))) (fun _ hk => hk.2) (.int .i64 ((rd_T78 ((rd_T28 l0_0 (rd x6_1 (ji17))).f4) x40_2).f1))) (fun _ hk => trivial)))⟩; have n2_ : Aside0 (w38.heap[gb153]? = some (.cells #[.slice (some ad165) l0_0.length c0_0] 24 (0, 0))) := ⟨(by rw [hw]; exact (by (with_reducible repeat (first | refine bN ?_ _ | refine bD ?_ | refine bA ?_ _)); refine bF ?_ NB153_167.out _; (with_reducible repeat (first | refine bN ?_ _ | refine bD ?_ | refine bA ?_ _)); refine bF ?_ NB153_167.out _; (with_reducible repeat (first | refine bN ?_ _ | refine bD ?_ | refine bA ?_ _)); exact BK153.out))⟩; have n3_ : Aside0 (w38.heap[gb167]? = some (.cells #[.string ((rd_T78 ((rd_T28 l0_0 (rd x6_1 (ji17))).f4) x40_2).f0), .int .i64 ((rd_T78 ((rd_T28 l0_0 (rd x6_1 (ji17))).f4) x40_2).f1)] 78 (0, 0))) := ⟨(by rw [hw]; exact (by (with_reducible repeat (first | refine bN ?_ _ | refine bD ?_ | refine bA ?_ _)); refine blk_put (cs := #[.string ((rd_T78 ((rd_T28 l0_0 (rd x6_1 (ji17))).f4) x40_2).f0), .int .i64 0]) ?_ 1 _ rfl; (with_reducible repeat (first | refine bN ?_ _ | refine bD ?_ | refine bA ?_ _)); refine blk_put (cs := #[.string (⟨#[]⟩ : ByteArray), .int .i64 0]) ?_ 0 _ rfl; (with_reducible repeat (first | refine bN ?_ _ | refine bD ?_ | refine bA ?_ _)); exact BK167.out))⟩; have n4_ : Aside0 (Below w.heap.size w w38) := ⟨(by rw [hw]; exact (by repeat (first | (with_reducible first | exact HB.out | apply wA | apply wN | apply wD | refine wS ?_ GE153.out | refine wS ?_ GE167.out) | exact HB.out)))⟩; clear hw; clear HO_5; clear HO_6; clear BK153; clear BK167; clear HB; have HO_5 := n0_; have HO_6 := n1_; have BK153 := n2_; have BK167 := n3_; have HB := n4_; clear n0_ n1_ n2_ n3_ n4_; have hcz39_0 : w38.cell? ⟨gb167, 0, none⟩ = some (.string ((rd_T78 ((rd_T28 l0_0 (rd x6_1 (ji17))).f4) x40_2).f0)) := (bC BK167.out 0).trans rfl; have hcz39_1 : w38.cell? ⟨gb167, 1, none⟩ = some (.int .i64 ((rd_T78 ((rd_T28 l0_0 (rd x6_1 (ji17))).f4) x40_2).f1)) := (bC BK167.out 1).trans rfl; have hfz39_0 := bZ BK167.out 0; have hfz39_1 := bZ BK167.out 1; have p168 : 0 ≤ (((rd_T78 ((rd_T28 l0_0 (rd x6_1 (ji17))).f4) x40_2).f1) : Int) := of_decide_eq_true (by first | (with_reducible assumption) | assumption); have q168 : ((rd_T78 ((rd_T28 l0_0 (rd x6_1 (ji17))).f4) x40_2).f1) < (x5_2.length : Int) := of_decide_eq_true (by first | (with_reducible assumption) | assumption); obtain ⟨ad168, e168, hx168_0⟩ := Kd.at_bool (Kd.R_reads' HO_5.out).2.2 ((rd_T78 ((rd_T28 l0_0 (rd x6_1 (ji17))).f4) x40_2).f1) p168 q168; (try rw [← Nbq31.out] at hx168_0); obtain rfl : (⟨go7, 0, none⟩ : Addr) = ad168 := (by injection e168); (first | simp only [add_plain] at hx168_0 | simp only [add_at] at hx168_0 | simp only [Addr.add, Nat.zero_add] at hx168_0 | skip); replace p168 := eq_true p168; replace q168 := eq_true q168; have p33 : 0 ≤ (((rd_T78 ((rd_T28 l0_0 (rd x6_1 (ji17))).f4) x40_2).f1) : Int) := of_decide_eq_true (by first | (with_reducible assumption) | assumption); have q33 : (((rd_T78 ((rd_T28 l0_0 (rd x6_1 (ji17))).f4) x40_2).f1) : Int) < ((x5_2.length : Int) : Int) := of_decide_eq_true (by first | (with_reducible assumption) | assumption); obtain ⟨hx33_0, hf33_0⟩ := Kd.R_celln false HO_5.out (((rd_T78 ((rd_T28 l0_0 (rd x6_1 (ji17))).f4) x40_2).f1) : Int) p33 q33; replace p33 := eq_true p33; replace q33 := eq_true q33; obtain ⟨hy40_, hz40_⟩ := Kd.R_celln false HO_5.out (((rd_T78 ((rd_T28 l0_0 (rd x6_1 (ji17))).f4) x40_2).f1) : Int) (of_decide_eq_true (by first | (with_reducible assumption) | assumption)) (of_decide_eq_true (by first | (with_reducible assumption) | assumption)); have HP40 := Kd.R_putg HO_5.out (((rd_T78 ((rd_T28 l0_0 (rd x6_1 (ji17))).f4) x40_2).f1) : Int) true) | ((with_reducible refine gate_store (t := 4) (p := 53) rfl ?_); refine store_event (t := 4) (p := 53) (v := ?vo_w41) (w1 := (w38.setCell ⟨go7, (((rd_T78 ((rd_T28 l0_0 (rd x6_1 (ji17))).f4) x40_2).f1) : Int).toNat, none⟩ (.bool true))) ?hg ?ho ?hn ?hr ?_; (case ho => rfl); (case hg => rfl); (case hn => rfl); (case hr => first | (go_simp; done) | (go_simp; rfl)); intro w41 hw; have hg : w38.grownBy w41 (some go7) := (by rw [hw]; exact HP40.2); have hp_ : Kd.R Kd.bool 4 w41 w.heap.size (fun _ => True) (.slice (some ⟨go7, 0, none⟩) x5_2.length co7) y169 := (by rw [hw, Ny169.out]; exact HP40.1); clear HP40; have n0_ := Aside0.mk (hp_); have n1_ := Aside0.mk (Kd.R_over' (v := (.slice (some ⟨go7, 0, none⟩) x5_2.length co7)) (by (with_reducible repeat (first | apply Kd.R_alloc | apply Kd.R_drewN | apply Kd.R_drew)); exact HO_6.out) (Kd.R_typed HO_5.out) (by decide) hg); have n2_ := Aside0.mk (blk_grown (g := gb153) (o := .cells #[.slice (some ad165) l0_0.length c0_0] 24 (0, 0)) (by (with_reducible repeat (first | refine bN ?_ _ | refine bD ?_ | refine bA ?_ _)); exact BK153.out) hg (Kd.R_ne HO_5.out BK153.out (by decide))); have n3_ := Aside0.mk (blk_grown (g := gb167) (o := .cells #[.string ((rd_T78 ((rd_T28 l0_0 (rd x6_1 (ji17))).f4) x40_2).f0), .int .i64 ((rd_T78 ((rd_T28 l0_0 (rd x6_1 (ji17))).f4) x40_2).f1)] 78 (0, 0)) (by (with_reducible repeat (first | refine bN ?_ _ | refine bD ?_ | refine bA ?_ _)); exact BK167.out) hg (Kd.R_ne HO_5.out BK167.out (by decide))); have n4_ := Aside0.mk ((by rw [hw]; exact wS (HB.out) GB7.out : Below w.heap.size w w41)); clear HO_5; clear HO_6; clear BK153; clear BK167; clear HB; have HO_5 := n0_; have HO_6 := n1_; have BK153 := n2_; have BK167 := n3_; have HB := n4_; clear n0_ n1_ n2_ n3_ n4_; clear hg hw hp_; have hcz42_0 : w41.cell? ⟨gb167, 0, none⟩ = some (.string ((rd_T78 ((rd_T28 l0_0 (rd x6_1 (ji17))).f4) x40_2).f0)) := (bC BK167.out 0).trans rfl; have hcz42_1 : w41.cell? ⟨gb167, 1, none⟩ = some (.int .i64 ((rd_T78 ((rd_T28 l0_0 (rd x6_1 (ji17))).f4) x40_2).f1)) := (bC BK167.out 1).trans rfl; have hfz42_0 := bZ BK167.out 0; have hfz42_1 := bZ BK167.out 1) | ((with_reducible refine gate_builtin (b := .append) (xs := #[.tmp 54, .tmp 57]) rfl ?_); at_builtin; refine Kd.R_append (Kd.int .i64) (w0 := w) w.heap.size rfl (.tmp 54) (.tmp 57) 25 3 (.int .i64 0) 8 rfl Try.underlying25 info3 rfl (by decide) (by omega) u6 x6_2 ((rd_T78 ((rd_T28 l0_0 (rd x6_1 (ji17))).f4) x40_2).f1) [.int .i64 ((rd_T78 ((rd_T28 l0_0 (rd x6_1 (ji17))).f4) x40_2).f1)] (fun _ => True) (fun _ => False) rfl rfl ?aP (fun _ hk => hk.elim) ?aF ?aO ?aB ?aS ?aL ?_; (case aP => exact rfl); (case aB => exact (by repeat (first | (with_reducible first | exact HB.out | apply wA | apply wN | apply wD | refine wS ?_ GE153.out | refine wS ?_ GE167.out) | exact HB.out))); (case aF => exact (fun _ _ => trivial)); (case aO => exact (by (with_reducible repeat (first | apply Kd.R_alloc | apply Kd.R_drewN | apply Kd.R_drew)); exact HO_6.out)); (case aS => exact (below_size (by repeat (first | (with_reducible first | exact HB.out | apply wA | apply wN | apply wD | refine wS ?_ GE153.out | refine wS ?_ GE167.out) | exact HB.out)))); (case aL => have := LMc34.out; omega); intro v171 w43 ho hb hg hat; rw [← Ny170.out] at ho; have n0_ := Aside0.mk (Kd.R_over' (by (with_reducible repeat (first | apply Kd.R_alloc | apply Kd.R_drewN | apply Kd.R_drew)); exact HO_5.out) (Kd.R_typed (by (with_reducible repeat (first | apply Kd.R_alloc | apply Kd.R_drewN | apply Kd.R_drew)); exact HO_6.out)) (by decide) hg); have n1_ := Aside0.mk (blk_grown (g := gb153) (o := .cells #[.slice (some ad165) l0_0.length c0_0] 24 (0, 0)) (by (with_reducible repeat (first | refine bN ?_ _ | refine bD ?_ | refine bA ?_ _)); exact BK153.out) hg (Kd.R_ne HO_6.out BK153.out (by decide))); have n2_ := Aside0.mk (blk_grown (g := gb167) (o := .cells #[.string ((rd_T78 ((rd_T28 l0_0 (rd x6_1 (ji17))).f4) x40_2).f0), .int .i64 ((rd_T78 ((rd_T28 l0_0 (rd x6_1 (ji17))).f4) x40_2).f1)] 78 (0, 0)) (by (with_reducible repeat (first | refine bN ?_ _ | refine bD ?_ | refine bA ?_ _)); exact BK167.out) hg (Kd.R_ne HO_6.out BK167.out (by decide))); have n3_ := Aside0.mk (hb); have n4_ := Aside0.mk (ho); clear HO_5; clear BK153; clear BK167; clear HB; clear HO_6; have HO_5 := n0_; have BK153 := n1_; have BK167 := n2_; have HB := n3_; have HO172 := n4_; clear n0_ n1_ n2_ n3_ n4_; clear ho hb hg hat))
                      (try simp only [← hl5_2])
                      go_roundg k2
                      case measure => have := HK1.out; have := HK2.out; omega
                      case rel => exact ⟨(y169), (y170), (wrap64 (x40_2 + 1)), (by first | rfl | (simp; done) | (simp [*]; done)), H', ⟨by have := HK1.out; have := HK2.out; omega⟩, ⟨by (try simp only [hl5_1]); (try simp only [hl5_2]); (with_reducible repeat (first | apply Kd.R_alloc | apply Kd.R_drewN | apply Kd.R_drew)); exact HO_5.out⟩, ⟨by (try simp only [hl5_1]); (try simp only [hl5_2]); (with_reducible repeat (first | apply Kd.R_alloc | apply Kd.R_drewN | apply Kd.R_drew)); exact HO172.out⟩, ⟨by (try simp only [hl5_1]); (try simp only [hl5_2]); (with_reducible repeat (first | refine bN ?_ _ | refine bD ?_ | refine bA ?_ _)); exact BK153.out⟩, ⟨by repeat (first | (with_reducible first | exact HB.out | apply wA | apply wN | apply wD | refine wS ?_ GE153.out | refine wS ?_ GE167.out) | exact HB.out)⟩⟩
                     ·
                      rw [if_neg c34] at H; exact absurd H (by simp)
                   ·
                    rw [if_neg c30] at H; exact absurd H (by simp)
                  ·
                   rw [if_neg c29] at H; exact absurd H (by simp)
                 ·
                  rw [if_neg c28] at H; exact absurd H (by simp)
                ·
                 rw [if_neg c27] at H; exact absurd H (by simp)
               ·
                rw [if_neg c26] at H; have c26b0 : decide (x40_2 < (((rd_T28 l0_0 (rd x6_1 (ji17))).f4).length : Int)) = false := decide_eq_false c26; clear c26; have H' := Aside0.mk H; clear H
                go_wp2
                (try simp only [← hl5_1, ← hl5_2])
                go_roundg k2
                case measure => have := HK1.out; have := HK2.out; omega
                case rel => exact ⟨(x5_2), (x6_2), H', ⟨by have := HK1.out; have := HK2.out; omega⟩, ⟨by (try simp only [hl5_1]); (try simp only [hl5_2]); (with_reducible repeat (first | apply Kd.R_alloc | apply Kd.R_drewN | apply Kd.R_drew)); exact HO_5.out⟩, ⟨by (try simp only [hl5_1]); (try simp only [hl5_2]); (with_reducible repeat (first | apply Kd.R_alloc | apply Kd.R_drewN | apply Kd.R_drew)); exact HO_6.out⟩, ⟨by (try simp only [hl5_1]); (try simp only [hl5_2]); (with_reducible repeat (first | refine bN ?_ _ | refine bD ?_ | refine bA ?_ _)); exact BK153.out⟩, ⟨by repeat (first | (with_reducible first | exact HB.out | apply wA | apply wN | apply wD | refine wS ?_ GE153.out) | exact HB.out)⟩⟩
            ·
             rw [if_neg c22] at H; exact absurd H (by simp)
           ·
            rw [if_neg c21] at H; exact absurd H (by simp)
          ·
           rw [if_neg c20] at H; exact absurd H (by simp)
         ·
          rw [if_neg c19] at H; exact absurd H (by simp)
        ·
         rw [if_neg c18] at H; exact absurd H (by simp)
       ·
        rw [if_neg c16] at H; have c16b0 : decide (0 < (x6_1.length : Int)) = false := decide_eq_false c16; have c16b1 : decide (0 < x6_1.length) = false := decide_eq_false (by omega); clear c16; obtain rfl := Option.some.inj H; obtain ⟨Ao44, co44, eo44⟩ := Kd.R_slice HO_6.out; subst eo44
        go_wp2
        go_ret
        exact ⟨_, by first | rfl | exact congrArg (fun b_ => Ending.returned (Value.bool b_)) HRET.out | (rw [HRET.out]) | (simp [errW_none, errW_some] <;> rfl) | (simp [*, errW_none, errW_some] <;> rfl), by (with_reducible repeat (first | apply Kd.R_alloc | apply Kd.R_drewN | apply Kd.R_drew)); exact HO_5.out, by repeat (first | (with_reducible first | exact HB.out | apply wA | apply wN | apply wD | refine wS ?_ GE153.out) | exact HB.out)⟩
    ·
     rw [if_neg c6] at H; exact absurd H (by simp)
   ·
    rw [if_neg c5] at H; exact absurd H (by simp)
  ·
   rw [if_neg c4] at H; exact absurd H (by simp)
 ·
  rw [if_neg c3] at H; exact absurd H (by simp)
def dir_hangs.f (a0_0 : Int) (a0_1 : Int) (a0_2 : Int) (l0_3 : List Int) (l0_4 : List (S78)) (a1 : Int) (a2 : Int) (a3 : Bool) : Option (Bool) := if a0_0 = 2 then (if a3 = true then (if a1 = 0 then (some true) else (none)) else (none)) else (if a0_0 = 1 then (some (a0_1 == a2)) else (some (a2 == 0)))
set_option maxHeartbeats 8000000 in
set_option maxRecDepth 100000 in
theorem dir_hangs.calls (a0_0 : Int) (a0_1 : Int) (a0_2 : Int) (A0_3 : Option Addr) (c0_3 : Nat) (l0_3 : List Int) (A0_4 : Option Addr) (c0_4 : Nat) (l0_4 : List (S78)) (a1 : Int) (a2 : Int) (a3 : Bool) (r : Bool) (w : World) (hr0_3 : Kd.C (Kd.int .i64) w A0_3 l0_3.length l0_3) (hc0_3 : l0_3.length ≤ c0_3) (hr0_4 : Kd.C k78 w A0_4 l0_4.length l0_4) (hc0_4 : l0_4.length ≤ c0_4) (h : dir_hangs.f a0_0 a0_1 a0_2 l0_3 l0_4 a1 a2 a3 = some r) :
 Calls Try.prog 74 #[.agg #[.int .i64 a0_0, .int .i64 a0_1, .int .i64 a0_2, .slice A0_3 l0_3.length c0_3, .slice A0_4 l0_4.length c0_4], .int .i64 a1, .int .i64 a2, .bool a3] w fun e w' => e = .returned (.bool r) ∧ Below w.heap.size w w' := by
 have hu28 := Try.underlying28; have HR0_3 := Aside0.mk hr0_3; have HC0_3 := Aside0.mk hc0_3; clear hr0_3 hc0_3; have HR0_4 := Aside0.mk hr0_4; have HC0_4 := Aside0.mk hc0_4; clear hr0_4 hc0_4; have HB := Aside0.mk (Below.refl w.heap.size w); have H : (if a0_0 = 2 then (if a3 = true then (if a1 = 0 then (some true) else (none)) else (none)) else (if a0_0 = 1 then (some (a0_1 == a2)) else (some (a2 == 0)))) = some r := h; clear h
 by_cases c5 : a0_0 = 2
 ·
  rw [if_pos c5] at H; have c5b0 : (a0_0 == 2) = true := beq_iff_eq.mpr c5; have c5b1 : (a0_0 != 2) = false := bne_eq_false_iff_eq.mpr c5; clear c5
  by_cases c6 : a3 = true
  ·
   subst c6
   have H1 : (if a1 = 0 then (some true) else (none)) = some r := by rw [if_pos rfl] at H; exact H
   clear H; have H := H1; clear H1
   by_cases c7 : a1 = 0
   ·
    rw [if_pos c7] at H; have c7b0 : (a1 == 0) = true := beq_iff_eq.mpr c7; have c7b1 : (a1 != 0) = false := bne_eq_false_iff_eq.mpr c7; clear c7; obtain rfl := Option.some.inj H
    go_enter Try.func74, Try.ntmps74
    go_wp2_with (first | ((with_reducible refine gate_dst (N := 4) rfl ?_); refine box_event ?hg (N := 4) ?hd (cs := #[.int .i64 a0_0, .int .i64 a0_1, .int .i64 a0_2, .slice A0_3 l0_3.length c0_3, .slice A0_4 l0_4.length c0_4]) (t := 28) ?hr ?_; (case hd => rfl); (case hg => rfl); (case hr => first | (go_simp; done) | (go_simp; rfl)); intro gb173 hg w8 hbox hb; have n0_ := Aside0.mk (below_step (by repeat (first | (with_reducible first | exact HB.out | apply wA | apply wN | apply wD) | exact HB.out)) hb); have n1_ := Aside0.mk (hbox); have n2_ := Aside0.mk ((by rw [hg]; exact (below_size (by repeat (first | (with_reducible first | exact HB.out | apply wA | apply wN | apply wD) | exact HB.out))) : w.heap.size ≤ gb173)); have n3_ := Aside0.mk ((by rw [hg]; exact (below_size (by repeat (first | (with_reducible first | exact HB.out | apply wA | apply wN | apply wD) | exact HB.out))) : w.heap.size ≤ gb173)); clear HB; have HB := n0_; have BK173 := n1_; have GW173 := n2_; have GE173 := n3_; clear n0_ n1_ n2_ n3_; clear hb hbox hg; have hcz9_0 : w8.cell? ⟨gb173, 0, none⟩ = some (.int .i64 a0_0) := (bC BK173.out 0).trans rfl; have hcz9_1 : w8.cell? ⟨gb173, 1, none⟩ = some (.int .i64 a0_1) := (bC BK173.out 1).trans rfl; have hcz9_2 : w8.cell? ⟨gb173, 2, none⟩ = some (.int .i64 a0_2) := (bC BK173.out 2).trans rfl; have hcz9_3 : w8.cell? ⟨gb173, 3, none⟩ = some (.slice A0_3 l0_3.length c0_3) := (bC BK173.out 3).trans rfl; have hcz9_4 : w8.cell? ⟨gb173, 4, none⟩ = some (.slice A0_4 l0_4.length c0_4) := (bC BK173.out 4).trans rfl; have hfz9_0 := bZ BK173.out 0; have hfz9_1 := bZ BK173.out 1; have hfz9_2 := bZ BK173.out 2; have hfz9_3 := bZ BK173.out 3; have hfz9_4 := bZ BK173.out 4))
    go_ret
    exact ⟨by first | rfl | exact congrArg (fun b_ => Ending.returned (Value.bool b_)) HRET.out | (rw [HRET.out]) | (simp [errW_none, errW_some] <;> rfl) | (simp [*, errW_none, errW_some] <;> rfl), by repeat (first | (with_reducible first | exact HB.out | apply wA | apply wN | apply wD | refine wS ?_ GE173.out) | exact HB.out)⟩
   ·
    rw [if_neg c7] at H; exact absurd H (by simp)
  ·
   replace c6 := Bool.eq_false_iff.mpr c6; subst c6
   have H1 : (none) = some r := by rw [if_neg (show ¬ (false = true) by decide)] at H; exact H
   clear H; have H := H1; clear H1; exact absurd H (by simp)
 ·
  rw [if_neg c5] at H; have c5b0 : (a0_0 == 2) = false := beq_eq_false_iff_ne.mpr c5; have c5b1 : (a0_0 != 2) = true := bne_iff_ne.mpr c5
  by_cases c10 : a0_0 = 1
  ·
   rw [if_pos c10] at H; have c10b0 : (a0_0 == 1) = true := beq_iff_eq.mpr c10; have c10b1 : (a0_0 != 1) = false := bne_eq_false_iff_eq.mpr c10; clear c10; obtain rfl := Option.some.inj H
   go_enter Try.func74, Try.ntmps74
   go_wp2_with (first | ((with_reducible refine gate_dst (N := 4) rfl ?_); refine box_event ?hg (N := 4) ?hd (cs := #[.int .i64 a0_0, .int .i64 a0_1, .int .i64 a0_2, .slice A0_3 l0_3.length c0_3, .slice A0_4 l0_4.length c0_4]) (t := 28) ?hr ?_; (case hd => rfl); (case hg => rfl); (case hr => first | (go_simp; done) | (go_simp; rfl)); intro gb173 hg w11 hbox hb; have n0_ := Aside0.mk (below_step (by repeat (first | (with_reducible first | exact HB.out | apply wA | apply wN | apply wD) | exact HB.out)) hb); have n1_ := Aside0.mk (hbox); have n2_ := Aside0.mk ((by rw [hg]; exact (below_size (by repeat (first | (with_reducible first | exact HB.out | apply wA | apply wN | apply wD) | exact HB.out))) : w.heap.size ≤ gb173)); have n3_ := Aside0.mk ((by rw [hg]; exact (below_size (by repeat (first | (with_reducible first | exact HB.out | apply wA | apply wN | apply wD) | exact HB.out))) : w.heap.size ≤ gb173)); clear HB; have HB := n0_; have BK173 := n1_; have GW173 := n2_; have GE173 := n3_; clear n0_ n1_ n2_ n3_; clear hb hbox hg; have hcz12_0 : w11.cell? ⟨gb173, 0, none⟩ = some (.int .i64 a0_0) := (bC BK173.out 0).trans rfl; have hcz12_1 : w11.cell? ⟨gb173, 1, none⟩ = some (.int .i64 a0_1) := (bC BK173.out 1).trans rfl; have hcz12_2 : w11.cell? ⟨gb173, 2, none⟩ = some (.int .i64 a0_2) := (bC BK173.out 2).trans rfl; have hcz12_3 : w11.cell? ⟨gb173, 3, none⟩ = some (.slice A0_3 l0_3.length c0_3) := (bC BK173.out 3).trans rfl; have hcz12_4 : w11.cell? ⟨gb173, 4, none⟩ = some (.slice A0_4 l0_4.length c0_4) := (bC BK173.out 4).trans rfl; have hfz12_0 := bZ BK173.out 0; have hfz12_1 := bZ BK173.out 1; have hfz12_2 := bZ BK173.out 2; have hfz12_3 := bZ BK173.out 3; have hfz12_4 := bZ BK173.out 4))
   go_ret
   exact ⟨by first | rfl | exact congrArg (fun b_ => Ending.returned (Value.bool b_)) HRET.out | (rw [HRET.out]) | (simp [errW_none, errW_some] <;> rfl) | (simp [*, errW_none, errW_some] <;> rfl), by repeat (first | (with_reducible first | exact HB.out | apply wA | apply wN | apply wD | refine wS ?_ GE173.out) | exact HB.out)⟩
  ·
   rw [if_neg c10] at H; have c10b0 : (a0_0 == 1) = false := beq_eq_false_iff_ne.mpr c10; have c10b1 : (a0_0 != 1) = true := bne_iff_ne.mpr c10; obtain rfl := Option.some.inj H
   go_enter Try.func74, Try.ntmps74
   go_wp2_with (first | ((with_reducible refine gate_dst (N := 4) rfl ?_); refine box_event ?hg (N := 4) ?hd (cs := #[.int .i64 a0_0, .int .i64 a0_1, .int .i64 a0_2, .slice A0_3 l0_3.length c0_3, .slice A0_4 l0_4.length c0_4]) (t := 28) ?hr ?_; (case hd => rfl); (case hg => rfl); (case hr => first | (go_simp; done) | (go_simp; rfl)); intro gb173 hg w13 hbox hb; have n0_ := Aside0.mk (below_step (by repeat (first | (with_reducible first | exact HB.out | apply wA | apply wN | apply wD) | exact HB.out)) hb); have n1_ := Aside0.mk (hbox); have n2_ := Aside0.mk ((by rw [hg]; exact (below_size (by repeat (first | (with_reducible first | exact HB.out | apply wA | apply wN | apply wD) | exact HB.out))) : w.heap.size ≤ gb173)); have n3_ := Aside0.mk ((by rw [hg]; exact (below_size (by repeat (first | (with_reducible first | exact HB.out | apply wA | apply wN | apply wD) | exact HB.out))) : w.heap.size ≤ gb173)); clear HB; have HB := n0_; have BK173 := n1_; have GW173 := n2_; have GE173 := n3_; clear n0_ n1_ n2_ n3_; clear hb hbox hg; have hcz14_0 : w13.cell? ⟨gb173, 0, none⟩ = some (.int .i64 a0_0) := (bC BK173.out 0).trans rfl; have hcz14_1 : w13.cell? ⟨gb173, 1, none⟩ = some (.int .i64 a0_1) := (bC BK173.out 1).trans rfl; have hcz14_2 : w13.cell? ⟨gb173, 2, none⟩ = some (.int .i64 a0_2) := (bC BK173.out 2).trans rfl; have hcz14_3 : w13.cell? ⟨gb173, 3, none⟩ = some (.slice A0_3 l0_3.length c0_3) := (bC BK173.out 3).trans rfl; have hcz14_4 : w13.cell? ⟨gb173, 4, none⟩ = some (.slice A0_4 l0_4.length c0_4) := (bC BK173.out 4).trans rfl; have hfz14_0 := bZ BK173.out 0; have hfz14_1 := bZ BK173.out 1; have hfz14_2 := bZ BK173.out 2; have hfz14_3 := bZ BK173.out 3; have hfz14_4 := bZ BK173.out 4))
   go_ret
   exact ⟨by first | rfl | exact congrArg (fun b_ => Ending.returned (Value.bool b_)) HRET.out | (rw [HRET.out]) | (simp [errW_none, errW_some] <;> rfl) | (simp [*, errW_none, errW_some] <;> rfl), by repeat (first | (with_reducible first | exact HB.out | apply wA | apply wN | apply wD | refine wS ?_ GE173.out) | exact HB.out)⟩
end Go.Proofs.Ytkigiehkckjlhaa.PMakes
