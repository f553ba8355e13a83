/- The Go functions that these laws reach, each as a Lean function with the same answers (a law itself where it answers true), and the proof that the code comes to them; conditions: those of each theorem. Laid by a program of this session over the print. -/
import Derived.Test.YtkigiehkckjlhaaZMakesPMakesx0
namespace Go.Proofs.Ytkigiehkckjlhaa.PMakes
open Go.RowKit Go.Proofs.YtkigiehkckjlhaaW.PrintWords Go.Proofs.YtkigiehkckjlhaaW.PrintLast Go.Proofs.YtkigiehkckjlhaaW.PrintMore
attribute [local go_sem] max2_int min2_int max_two min_two max_three min_three max_four min_four   -- for this text's walks alone
set_option linter.unusedVariables false
set_option linter.unusedSimpArgs false
open Go.Proofs.YtkigiehkckjlhaaW.PrintWords renaming blk_drewN → bN, blk_drew → bD, blk_alloc → bA, below_set → wS, below_alloc → wA, pw_below_drewN → wN, below_drew1 → wD, blk_below → bB, blk_far → bF, blk_cell → bC, blk_frozen → bZ
open List renaming setIfInBounds_toArray → lT, set_cons_zero → l0_, set_cons_succ → lS
mutual
def potsherdref12_reached.l0 : Nat → List Bool → Int → Int → List (S28) → Option (List Bool)
 | 0, _, _, _, _ => none
 | k + 1, x5, x36, x37, x182000 => if x37 < x36 then (potsherdref12_reached.l1 k x5 x36 x37 x182000 (x182000.length : Int) 0 x182000) else (some x5)
def potsherdref12_reached.l1 : Nat → List Bool → Int → Int → List (S28) → Int → Int → List (S28) → Option (List Bool)
 | 0, _, _, _, _, _, _, _ => none
 | k + 1, x5, x36, x37, x40, x41, x42, x182000 => if x42 < x41 then (if 0 ≤ x42 then (if x42 < (x40.length : Int) then (if x42 < (x5.length : Int) then (if rdOf false x5 x42 = true then (potsherdref12_reached.l2 k x5 x36 x37 x40 x41 x42 (((rd_T28 x40 x42).f4).length : Int) 0 x182000) else (potsherdref12_reached.l1 k x5 x36 x37 x40 x41 (wrap64 (x42 + 1)) x182000)) else (none)) else (none)) else (none)) else (potsherdref12_reached.l0 k x5 x36 (wrap64 (x37 + 1)) x182000)
def potsherdref12_reached.l2 : Nat → List Bool → Int → Int → List (S28) → Int → Int → Int → Int → List (S28) → Option (List Bool)
 | 0, _, _, _, _, _, _, _, _, _ => none
 | k + 1, x5, x36, x37, x40, x41, x42, x54, x55, x182000 => if x55 < x54 then (none) else (potsherdref12_reached.l1 k x5 x36 x37 x40 x41 (wrap64 (x42 + 1)) x182000)
end
def potsherdref12_reached.f (k : Nat) (l0_0 : List (S28)) (a1 : Int) : Option (List Bool) := if 0 ≤ (l0_0.length : Int) then (if ((l0_0.length : Int) : Int).toNat ≤ 281474976710656 then ((some (List.replicate ((l0_0.length : Int) : Int).toNat false : List Bool)).bind fun y182 => (if a1 < 0 then (none) else (if a1 ≥ (y182.length : Int) then (none) else (if 0 ≤ a1 then (if a1 < (l0_0.length : Int) then (if ((rd_T28 l0_0 a1).f0) = 2 then (if a1 < (y182.length : Int) then (potsherdref12_reached.l0 k (y182.set (a1 : Int).toNat true) (y182.length : Int) 0 l0_0) else (none)) else (none)) else (none)) else (none))))) else (none)) else (none)
theorem potsherdref12_reached.mono_l : ∀ k, (∀ y0 y1 y2 y3, LeO (potsherdref12_reached.l0 k y0 y1 y2 y3) (potsherdref12_reached.l0 (k + 1) y0 y1 y2 y3)) ∧ (∀ y0 y1 y2 y3 y4 y5 y6, LeO (potsherdref12_reached.l1 k y0 y1 y2 y3 y4 y5 y6) (potsherdref12_reached.l1 (k + 1) y0 y1 y2 y3 y4 y5 y6)) ∧ (∀ y0 y1 y2 y3 y4 y5 y6 y7 y8, LeO (potsherdref12_reached.l2 k y0 y1 y2 y3 y4 y5 y6 y7 y8) (potsherdref12_reached.l2 (k + 1) y0 y1 y2 y3 y4 y5 y6 y7 y8))
 | 0 => ⟨fun _ _ _ _ r h => by simp [potsherdref12_reached.l0] at h, fun _ _ _ _ _ _ _ r h => by simp [potsherdref12_reached.l1] at h, fun _ _ _ _ _ _ _ _ _ r h => by simp [potsherdref12_reached.l2] at h⟩
 | k + 1 => by
  obtain ⟨ih0, ih1, ih2⟩ := potsherdref12_reached.mono_l k; refine ⟨?_, ?_, ?_⟩
  ·
   intro y0 y1 y2 y3
   unfold potsherdref12_reached.l0
   repeat' first
   | (with_reducible exact ih0 _ _ _ _)
   | (with_reducible exact ih1 _ _ _ _ _ _ _)
   | (with_reducible exact ih2 _ _ _ _ _ _ _ _ _)
   | (with_reducible exact LeO.refl _)
   | (with_reducible exact LeO.none _)
   | (with_reducible refine LeO.ite ?_ ?_)
   | (with_reducible refine LeO.bind ?_ (fun _ => ?_))
   | exact ih0 _ _ _ _
   | exact ih1 _ _ _ _ _ _ _
   | exact ih2 _ _ _ _ _ _ _ _ _
   | exact LeO.none _
   | refine LeO.ite ?_ ?_
   | refine LeO.bind ?_ (fun _ => ?_)
  ·
   intro y0 y1 y2 y3 y4 y5 y6
   unfold potsherdref12_reached.l1
   repeat' first
   | (with_reducible exact ih0 _ _ _ _)
   | (with_reducible exact ih1 _ _ _ _ _ _ _)
   | (with_reducible exact ih2 _ _ _ _ _ _ _ _ _)
   | (with_reducible exact LeO.refl _)
   | (with_reducible exact LeO.none _)
   | (with_reducible refine LeO.ite ?_ ?_)
   | (with_reducible refine LeO.bind ?_ (fun _ => ?_))
   | exact ih0 _ _ _ _
   | exact ih1 _ _ _ _ _ _ _
   | exact ih2 _ _ _ _ _ _ _ _ _
   | exact LeO.none _
   | refine LeO.ite ?_ ?_
   | refine LeO.bind ?_ (fun _ => ?_)
  ·
   intro y0 y1 y2 y3 y4 y5 y6 y7 y8
   unfold potsherdref12_reached.l2
   repeat' first
   | (with_reducible exact ih0 _ _ _ _)
   | (with_reducible exact ih1 _ _ _ _ _ _ _)
   | (with_reducible exact ih2 _ _ _ _ _ _ _ _ _)
   | (with_reducible exact LeO.refl _)
   | (with_reducible exact LeO.none _)
   | (with_reducible refine LeO.ite ?_ ?_)
   | (with_reducible refine LeO.bind ?_ (fun _ => ?_))
   | exact ih0 _ _ _ _
   | exact ih1 _ _ _ _ _ _ _
   | exact ih2 _ _ _ _ _ _ _ _ _
   | exact LeO.none _
   | refine LeO.ite ?_ ?_
   | refine LeO.bind ?_ (fun _ => ?_)
theorem potsherdref12_reached.mono : ∀ a0 a1 k, LeO (potsherdref12_reached.f k a0 a1) (potsherdref12_reached.f (k + 1) a0 a1) := by
 intro a0 a1 k; obtain ⟨ih0, ih1, ih2⟩ := potsherdref12_reached.mono_l k
 unfold potsherdref12_reached.f
 repeat' first
  | (with_reducible exact ih0 _ _ _ _)
  | (with_reducible exact ih1 _ _ _ _ _ _ _)
  | (with_reducible exact ih2 _ _ _ _ _ _ _ _ _)
  | (with_reducible exact LeO.refl _)
  | (with_reducible exact LeO.none _)
  | (with_reducible refine LeO.ite ?_ ?_)
  | (with_reducible refine LeO.bind ?_ (fun _ => ?_))
  | exact ih0 _ _ _ _
  | exact ih1 _ _ _ _ _ _ _
  | exact ih2 _ _ _ _ _ _ _ _ _
  | exact LeO.none _
  | refine LeO.ite ?_ ?_
  | refine LeO.bind ?_ (fun _ => ?_)
set_option maxHeartbeats 8000000 in
set_option maxRecDepth 100000 in
theorem potsherdref12_reached.calls (k : Nat) (A0_0 : Option Addr) (c0_0 : Nat) (l0_0 : List (S28)) (a1 : Int) (r : List Bool) (w : World) (hr0_0 : Kd.C k28 w A0_0 l0_0.length l0_0) (hc0_0 : l0_0.length ≤ c0_0) (h : potsherdref12_reached.f k l0_0 a1 = some r) :
 Calls Try.prog 51 #[.agg #[.slice A0_0 l0_0.length c0_0], .int .i64 a1] w fun e w' => ∃ v0_ : Value, e = .returned (v0_) ∧ Kd.R Kd.bool 4 w' w.heap.size (fun _ => True) v0_ r ∧ Below w.heap.size w w' := by
 have hu24 := Try.underlying24; have hu28 := Try.underlying28; have hu78 := Try.underlying78; have HR0_0 := Aside0.mk hr0_0; have HC0_0 := Aside0.mk hc0_0; clear hr0_0 hc0_0; have HB := Aside0.mk (Below.refl w.heap.size w); have H : (if 0 ≤ (l0_0.length : Int) then (if ((l0_0.length : Int) : Int).toNat ≤ 281474976710656 then ((some (List.replicate ((l0_0.length : Int) : Int).toNat false : List Bool)).bind fun y182 => (if a1 < 0 then (none) else (if a1 ≥ (y182.length : Int) then (none) else (if 0 ≤ a1 then (if a1 < (l0_0.length : Int) then (if ((rd_T28 l0_0 a1).f0) = 2 then (if a1 < (y182.length : Int) then (potsherdref12_reached.l0 k (y182.set (a1 : Int).toNat true) (y182.length : Int) 0 l0_0) else (none)) else (none)) else (none)) else (none))))) else (none)) else (none)) = some r := h; clear h
 by_cases c3 : 0 ≤ (l0_0.length : Int)
 ·
  rw [if_pos c3] at H; have c3b0 := eq_true c3; have c3b1 : decide (0 ≤ (l0_0.length : Int)) = true := decide_eq_true c3; clear c3
  by_cases c4 : ((l0_0.length : Int) : Int).toNat ≤ 281474976710656
  ·
   rw [if_pos c4] at H; have c4b0 := eq_true c4; have c4b1 : decide (((l0_0.length : Int) : Int).toNat ≤ 281474976710656) = true := decide_eq_true c4; clear c4; obtain ⟨y182, hy182⟩ : ∃ y_ : List Bool, y_ = (List.replicate ((l0_0.length : Int) : Int).toNat false) := ⟨_, rfl⟩
   replace H : (if a1 < 0 then (none) else (if a1 ≥ (y182.length : Int) then (none) else (if 0 ≤ a1 then (if a1 < (l0_0.length : Int) then (if ((rd_T28 l0_0 a1).f0) = 2 then (if a1 < (y182.length : Int) then (potsherdref12_reached.l0 k (y182.set (a1 : Int).toNat true) (y182.length : Int) 0 l0_0) else (none)) else (none)) else (none)) else (none)))) = some r := by first | (rw [hy182]; with_reducible exact H) | (have H2_ := (Option.bind_some _ _).symm.trans H; rw [hy182]; with_reducible exact H2_) | (have H2_ := (Option.bind_some _ _).symm.trans H; with_reducible exact H2_) | with_reducible exact H | (rw [hy182]; exact H) | exact H
   have Ny182 := Aside0.mk hy182; clear hy182
   by_cases c5 : a1 < 0
   ·
    rw [if_pos c5] at H; exact absurd H (by simp)
   ·
    rw [if_neg c5] at H; have c5b0 : decide (a1 < 0) = false := decide_eq_false c5; clear c5
    by_cases c6 : a1 ≥ (y182.length : Int)
    ·
     rw [if_pos c6] at H; exact absurd H (by simp)
    ·
     rw [if_neg c6] at H; have c6b0 : decide ((y182.length : Int) ≤ a1) = false := decide_eq_false c6; clear c6
     by_cases c7 : 0 ≤ a1
     ·
      rw [if_pos c7] at H; have c7b0 : decide (0 ≤ a1) = true := decide_eq_true c7; clear c7
      by_cases c8 : a1 < (l0_0.length : Int)
      ·
       rw [if_pos c8] at H; have c8b0 : decide (a1 < (l0_0.length : Int)) = true := decide_eq_true c8; clear c8
       by_cases c9 : ((rd_T28 l0_0 a1).f0) = 2
       ·
        rw [if_pos c9] at H; have c9b0 : (((rd_T28 l0_0 a1).f0) == 2) = true := beq_iff_eq.mpr c9; have c9b1 : (((rd_T28 l0_0 a1).f0) != 2) = false := bne_eq_false_iff_eq.mpr c9; clear c9
        by_cases c10 : a1 < (y182.length : Int)
        ·
         rw [if_pos c10] at H; have c10b0 : decide (a1 < (y182.length : Int)) = true := decide_eq_true c10; clear c10; obtain ⟨y186, hy186⟩ : ∃ y_ : List Bool, y_ = (y182.set (a1 : Int).toNat true) := ⟨_, rfl⟩
         replace H : (potsherdref12_reached.l0 k y186 (y182.length : Int) 0 l0_0) = some r := by first | (rw [hy186]; with_reducible exact H) | (have H2_ := (Option.bind_some _ _).symm.trans H; rw [hy186]; with_reducible exact H2_) | (have H2_ := (Option.bind_some _ _).symm.trans H; with_reducible exact H2_) | with_reducible exact H | (rw [hy186]; exact H) | exact H
         have Ny186 := Aside0.mk hy186; clear hy186; have H' := Aside0.mk H; clear H
         go_enter Try.func51, Try.ntmps51
         go_wp2_with (first | ((with_reducible refine gate_dst (N := 2) rfl ?_); (try (refine gate_guard (by rfl) ?_; dsimp only)); refine box_event ?hg (N := 2) ?hd (cs := #[.slice A0_0 l0_0.length c0_0]) (t := 24) ?hr ?_; (case hd => rfl); (case hg => rfl); (case hr => first | (go_simp; done) | (go_simp; rfl)); intro gb181 hg w12 hbox hb; have n0_ := Aside0.mk (below_step (by repeat (first | (with_reducible first | exact HB.out | apply wA | apply wN | apply wD) | exact HB.out)) hb); have n1_ := Aside0.mk (hbox); have n2_ := Aside0.mk ((by rw [hg]; exact (below_size (by repeat (first | (with_reducible first | exact HB.out | apply wA | apply wN | apply wD) | exact HB.out))) : w.heap.size ≤ gb181)); have n3_ := Aside0.mk ((by rw [hg]; exact (below_size (by repeat (first | (with_reducible first | exact HB.out | apply wA | apply wN | apply wD) | exact HB.out))) : w.heap.size ≤ gb181)); clear HB; have HB := n0_; have BK181 := n1_; have GW181 := n2_; have GE181 := n3_; clear n0_ n1_ n2_ n3_; clear hb hbox hg; have hcz13_0 : w12.cell? ⟨gb181, 0, none⟩ = some (.slice A0_0 l0_0.length c0_0) := (bC BK181.out 0).trans rfl; have hfz13_0 := bZ BK181.out 0) | ((with_reducible refine gate_dst (N := 13) rfl ?_); (try (refine gate_guard (by rfl) ?_; dsimp only)); refine Kd.R_make Kd.bool _ 4 rfl (N := 13) rfl 79 _ _ rfl (l0_0.length : Int) rfl rfl Try.underlying79 (.bool false) 1 info4 rfl (by decide) (by omega) false (ok := fun _ => True) (okp := fun _ => True) rfl (fun _ hk => hk) trivial (of_decide_eq_true (by first | (with_reducible assumption) | assumption)) (Nat.le_trans (Nat.mul_le_mul_right _ (of_decide_eq_true (by first | (with_reducible assumption) | assumption) : (l0_0.length : Int).toNat ≤ 281474976710656)) (by omega)) (Below.refl _ _) (Nat.le_refl _) ?_; intro v183 w14 ho15 hb hg_ hnew_; clear hg_ hnew_; (first | rw [← Ny182.out] at ho15 | (simp only [Int.reduceToNat] at ho15; rw [← Ny182.out] at ho15)); have n0_ := Aside0.mk (Kd.R_lower ho15 (below_size (by repeat (first | (with_reducible first | exact HB.out | apply wA | apply wN | apply wD | refine wS ?_ GE181.out) | exact HB.out)))); have n1_ := Aside0.mk (bB (g := gb181) (o := .cells #[.slice A0_0 l0_0.length c0_0] 24 (0, 0)) (by (with_reducible repeat (first | refine bN ?_ _ | refine bD ?_ | refine bA ?_ _)); exact BK181.out) hb); have n2_ := Aside0.mk (below_step (by repeat (first | (with_reducible first | exact HB.out | apply wA | apply wN | apply wD | refine wS ?_ GE181.out) | exact HB.out)) hb); clear BK181; clear HB; have HO184 := n0_; have BK181 := n1_; have HB := n2_; clear n0_ n1_ n2_; clear hb ho15; obtain ⟨Ao16, co16, eo16⟩ := Kd.R_slice HO184.out; subst eo16; have hcz17_0 : w14.cell? ⟨gb181, 0, none⟩ = some (.slice A0_0 l0_0.length c0_0) := (bC BK181.out 0).trans rfl; have hfz17_0 := bZ BK181.out 0; have p185 : 0 ≤ (a1 : Int) := of_decide_eq_true (by first | (with_reducible assumption) | assumption); have q185 : a1 < (l0_0.length : Int) := of_decide_eq_true (by first | (with_reducible assumption) | assumption); obtain ⟨ad185, A185_3, c185_3, A185_4, c185_4, e185, hx185_0, hx185_1, hx185_2, hx185_3, hx185_4, hl185_3, hi185_3, hl185_4, hi185_4⟩ := at_T28 HR0_0.out a1 p185 q185; cases e185; replace hx185_0 := (HB.out.cell (World.block_lt_of_cell? w _ hx185_0)).trans hx185_0; replace hx185_1 := (HB.out.cell (World.block_lt_of_cell? w _ hx185_1)).trans hx185_1; replace hx185_2 := (HB.out.cell (World.block_lt_of_cell? w _ hx185_2)).trans hx185_2; replace hx185_3 := (HB.out.cell (World.block_lt_of_cell? w _ hx185_3)).trans hx185_3; replace hx185_4 := (HB.out.cell (World.block_lt_of_cell? w _ hx185_4)).trans hx185_4; have HR185_3 := Aside0.mk hi185_3; have HC185_3 := Aside0.mk hl185_3; clear hi185_3 hl185_3; have HR185_4 := Aside0.mk hi185_4; have HC185_4 := Aside0.mk hl185_4; clear hi185_4 hl185_4; replace p185 := eq_true p185; replace q185 := eq_true q185; have p11 : 0 ≤ (a1 : Int) := of_decide_eq_true (by first | (with_reducible assumption) | assumption); have q11 : (a1 : Int) < ((y182.length : Int) : Int) := of_decide_eq_true (by first | (with_reducible assumption) | assumption); obtain ⟨go11, co11, eo11, gb11, gl11, cl11, HG11⟩ := Kd.R_form HO184.out (by omega); (first | cases eo11 | (injection eo11 with ea_ en_ ec_; (first | subst ea_ | (injection ea_ with ea_; subst ea_)); subst ec_; clear en_)); have GB11 := Aside0.mk gb11; have GG11 := Aside0.mk HG11; clear gb11 gl11 HG11; obtain ⟨hx11_0, hf11_0⟩ := Kd.R_celln false HO184.out (a1 : Int) p11 q11; replace p11 := eq_true p11; replace q11 := eq_true q11; obtain ⟨hy18_, hz18_⟩ := Kd.R_celln false HO184.out (a1 : Int) (of_decide_eq_true (by first | (with_reducible assumption) | assumption)) (of_decide_eq_true (by first | (with_reducible assumption) | assumption)); have HP18 := Kd.R_putg HO184.out (a1 : Int) true) | ((with_reducible refine gate_store (t := 4) (p := 34) rfl ?_); refine store_event (t := 4) (p := 34) (v := ?vo_w19) (w1 := (w14.setCell ⟨go11, (a1 : Int).toNat, none⟩ (.bool true))) ?hg ?ho ?hn ?hr ?_; (case ho => rfl); (case hg => rfl); (case hn => rfl); (case hr => first | (go_simp; done) | (go_simp; rfl)); intro w19 hw; have hg : w14.grownBy w19 (some go11) := (by rw [hw]; exact HP18.2); have hp_ : Kd.R Kd.bool 4 w19 w.heap.size (fun _ => True) (.slice (some ⟨go11, 0, none⟩) y182.length co16) y186 := (by rw [hw, Ny186.out]; exact HP18.1); clear HP18; have n0_ := Aside0.mk (blk_grown (g := gb181) (o := .cells #[.slice (some ad185) l0_0.length c0_0] 24 (0, 0)) (by (with_reducible repeat (first | refine bN ?_ _ | refine bD ?_ | refine bA ?_ _)); exact BK181.out) hg (Kd.R_ne HO184.out BK181.out (by decide))); have n1_ := Aside0.mk (hp_); have n2_ := Aside0.mk ((by rw [hw]; exact wS (HB.out) GB11.out : Below w.heap.size w w19)); clear BK181; clear HO184; clear HB; have BK181 := n0_; have HO184 := n1_; have HB := n2_; clear n0_ n1_ n2_; clear hg hw hp_))
         go_loopg [37] k (fun kq v37 w' => ∃ (x5_1 : List Bool) (x37_1 : Int), v37 = .int .i64 x37_1 ∧ Aside0 (potsherdref12_reached.l0 kq x5_1 (y182.length : Int) x37_1 l0_0 = some r) ∧ Aside0 (kq ≤ k) ∧ Aside0 (Kd.R Kd.bool 4 w' w.heap.size (fun _ => True) (.slice (some ⟨go11, 0, none⟩) y182.length co16) x5_1) ∧ Aside0 (w'.heap[gb181]? = some (.cells #[(.slice (some ad185) l0_0.length c0_0)] 24 (0, 0))) ∧ Aside0 (Below w.heap.size w w'))
         case atStart => exact ⟨(y186), (0), (by first | rfl | (simp; done) | (simp [*]; done)), H', ⟨Nat.le_refl _⟩, ⟨by (with_reducible repeat (first | apply Kd.R_alloc | apply Kd.R_drewN | apply Kd.R_drew)); exact HO184.out⟩, ⟨by (with_reducible repeat (first | refine bN ?_ _ | refine bD ?_ | refine bA ?_ _)); exact BK181.out⟩, ⟨by repeat (first | (with_reducible first | exact HB.out | apply wA | apply wN | apply wD | refine wS ?_ GE181.out) | exact HB.out)⟩⟩
         case round =>
          clear H'
          try clear c1
          try clear p1
          try clear q1
          try clear hx1
          try clear p2
          try clear c3
          try clear c3b0
          try clear c3b1
          try clear c4
          try clear c4b0
          try clear c4b1
          try clear c5
          try clear c5b0
          try clear c6
          try clear c6b0
          try clear c7
          try clear c7b0
          try clear c8
          try clear c8b0
          try clear c9
          try clear c9b0
          try clear c9b1
          try clear c10
          try clear c10b0
          try clear p11
          try clear q11
          try clear hx11
          try clear hf11
          try clear c18
          try clear p18
          try clear q18
          try clear hx18
          try clear hcz13_0
          try clear hcz17_0
          try clear hfz13_0
          try clear hfz17_0
          try clear hx11_0
          try clear hx185_0
          try clear hx185_1
          try clear hx185_2
          try clear hx185_3
          try clear hx185_4
          try clear p11
          try clear p185
          try clear q11
          try clear q185
          obtain ⟨x5_1, x37_1, rfl, HA, HK1, HO_5, BK181, HB⟩ := hrel; have hl5_1 := (Kd.R_reads' HO_5.out).1; rw [hl5_1] at HO_5
          (try simp only [hl5_1])
          (try simp only [hl5_1] at BK181)
          cases gk with
          | zero => exact absurd HA.out (by simp [potsherdref12_reached.l0])
          | succ k1 =>
           have H := HA.out; clear HA; simp only [potsherdref12_reached.l0] at H
           by_cases c20 : x37_1 < (y182.length : Int)
           ·
            rw [if_pos c20] at H; have c20b0 : decide (x37_1 < (y182.length : Int)) = true := decide_eq_true c20; clear c20; (first | simp only [hl5_1] at c20b0 | skip); have H' := Aside0.mk H; clear H; have hcz21_0 : wr.cell? ⟨gb181, 0, none⟩ = some (.slice (some ad185) l0_0.length c0_0) := (bC BK181.out 0).trans rfl; have hfz21_0 := bZ BK181.out 0
            go_wp2
            go_loopg [42] k1 (fun kq v42 w' => ∃ (x5_2 : List Bool) (x42_2 : Int), v42 = .int .i64 x42_2 ∧ Aside0 (potsherdref12_reached.l1 kq x5_2 (y182.length : Int) x37_1 l0_0 (l0_0.length : Int) x42_2 l0_0 = some r) ∧ Aside0 (kq ≤ k1) ∧ Aside0 (Kd.R Kd.bool 4 w' w.heap.size (fun _ => True) (.slice (some ⟨go11, 0, none⟩) x5_1.length co16) x5_2) ∧ Aside0 (w'.heap[gb181]? = some (.cells #[(.slice (some ad185) l0_0.length c0_0)] 24 (0, 0))) ∧ Aside0 (Below w.heap.size w w'))
            case atStart => exact ⟨(x5_1), (0), (by first | rfl | (simp; done) | (simp [*]; done)), H', ⟨Nat.le_refl _⟩, ⟨by (try simp only [hl5_1]); (with_reducible repeat (first | apply Kd.R_alloc | apply Kd.R_drewN | apply Kd.R_drew)); exact HO_5.out⟩, ⟨by (try simp only [hl5_1]); (with_reducible repeat (first | refine bN ?_ _ | refine bD ?_ | refine bA ?_ _)); exact BK181.out⟩, ⟨by repeat (first | (with_reducible first | exact HB.out | apply wA | apply wN | apply wD | refine wS ?_ GE181.out) | exact HB.out)⟩⟩
            case round =>
             clear H'
             try clear c1
             try clear p1
             try clear q1
             try clear hx1
             try clear c2
             try clear p2
             try clear c3
             try clear c3b0
             try clear c3b1
             try clear c4
             try clear c4b0
             try clear c4b1
             try clear c5
             try clear c5b0
             try clear c6
             try clear c6b0
             try clear c7
             try clear c7b0
             try clear c8
             try clear c8b0
             try clear c9
             try clear c9b0
             try clear c9b1
             try clear c10
             try clear c10b0
             try clear p11
             try clear q11
             try clear hx11
             try clear hf11
             try clear c18
             try clear p18
             try clear q18
             try clear hx18
             try clear c20
             try clear c20b0
             try clear hcz13_0
             try clear hcz17_0
             try clear hcz21_0
             try clear hfz13_0
             try clear hfz17_0
             try clear hfz21_0
             try clear hx11_0
             try clear hx185_0
             try clear hx185_1
             try clear hx185_2
             try clear hx185_3
             try clear hx185_4
             try clear p1
             try clear p11
             try clear p18
             try clear p185
             try clear p2
             try clear q1
             try clear q11
             try clear q18
             try clear q185
             obtain ⟨x5_2, x42_2, rfl, HA, HK2, HO_5, BK181, HB⟩ := hrel; have hl5_2 := (Kd.R_reads' HO_5.out).1; rw [hl5_2] at HO_5
             (try simp only [hl5_2])
             (try simp only [hl5_2] at BK181)
             cases gk with
             | zero => exact absurd HA.out (by simp [potsherdref12_reached.l1])
             | succ k2 =>
              have H := HA.out; clear HA; simp only [potsherdref12_reached.l1] at H
              by_cases c22 : x42_2 < (l0_0.length : Int)
              ·
               rw [if_pos c22] at H; have c22b0 : decide (x42_2 < (l0_0.length : Int)) = true := decide_eq_true c22; clear c22
               by_cases c23 : 0 ≤ x42_2
               ·
                rw [if_pos c23] at H; have c23b0 : decide (0 ≤ x42_2) = true := decide_eq_true c23; clear c23
                by_cases c24 : x42_2 < (l0_0.length : Int)
                ·
                 rw [if_pos c24] at H; have c24b0 : decide (x42_2 < (l0_0.length : Int)) = true := decide_eq_true c24; clear c24
                 by_cases c25 : x42_2 < (x5_2.length : Int)
                 ·
                  rw [if_pos c25] at H; have c25b0 : decide (x42_2 < (x5_2.length : Int)) = true := decide_eq_true c25; clear c25; obtain ⟨bq26, hbq26⟩ : ∃ b_ : Bool, b_ = (rdOf false x5_2 x42_2) := ⟨_, rfl⟩
                  replace H : (if bq26 = true then (potsherdref12_reached.l2 k2 x5_2 (y182.length : Int) x37_1 l0_0 (l0_0.length : Int) x42_2 (((rd_T28 l0_0 x42_2).f4).length : Int) 0 l0_0) else (potsherdref12_reached.l1 k2 x5_2 (y182.length : Int) x37_1 l0_0 (l0_0.length : Int) (wrap64 (x42_2 + 1)) l0_0)) = some r := by rw [← hbq26] at H; exact H
                  have Nbq26 := Aside0.mk hbq26; clear hbq26
                  by_cases c27 : bq26 = true
                  ·
                   subst c27
                   have H1 : (potsherdref12_reached.l2 k2 x5_2 (y182.length : Int) x37_1 l0_0 (l0_0.length : Int) x42_2 (((rd_T28 l0_0 x42_2).f4).length : Int) 0 l0_0) = some r := by rw [if_pos rfl] at H; exact H
                   clear H; have H := H1; clear H1; have H' := Aside0.mk H; clear H; have p187 : 0 ≤ (x42_2 : Int) := of_decide_eq_true (by first | (with_reducible assumption) | assumption); have q187 : x42_2 < (l0_0.length : Int) := of_decide_eq_true (by first | (with_reducible assumption) | assumption); obtain ⟨ad187, A187_3, c187_3, A187_4, c187_4, e187, hx187_0, hx187_1, hx187_2, hx187_3, hx187_4, hl187_3, hi187_3, hl187_4, hi187_4⟩ := at_T28 HR0_0.out x42_2 p187 q187; obtain rfl : ad185 = ad187 := (by injection e187); replace hx187_0 := (HB.out.cell (World.block_lt_of_cell? w _ hx187_0)).trans hx187_0; replace hx187_1 := (HB.out.cell (World.block_lt_of_cell? w _ hx187_1)).trans hx187_1; replace hx187_2 := (HB.out.cell (World.block_lt_of_cell? w _ hx187_2)).trans hx187_2; replace hx187_3 := (HB.out.cell (World.block_lt_of_cell? w _ hx187_3)).trans hx187_3; replace hx187_4 := (HB.out.cell (World.block_lt_of_cell? w _ hx187_4)).trans hx187_4; have HR187_3 := Aside0.mk hi187_3; have HC187_3 := Aside0.mk hl187_3; clear hi187_3 hl187_3; have HR187_4 := Aside0.mk hi187_4; have HC187_4 := Aside0.mk hl187_4; clear hi187_4 hl187_4; replace p187 := eq_true p187; replace q187 := eq_true q187
                   go_wp2_with (first | ((with_reducible refine gate_dst (N := 7) rfl ?_); (try (refine gate_guard (by rfl) ?_; dsimp only)); refine box_event ?hg (N := 7) ?hd (cs := #[.int .i64 0, .int .i64 0, .int .i64 0, .slice none 0 0, .slice none 0 0]) (t := 28) ?hr ?_; (case hd => rfl); (case hg => rfl); (case hr => first | (go_simp; done) | (go_simp; rfl)); intro gb188 hg w28 hbox hb; have n0_ := Aside0.mk (Kd.R_below (by (with_reducible repeat (first | apply Kd.R_alloc | apply Kd.R_drewN | apply Kd.R_drew)); exact HO_5.out) hb); have n1_ := Aside0.mk (bB (g := gb181) (o := .cells #[.slice (some ad185) l0_0.length c0_0] 24 (0, 0)) (by (with_reducible repeat (first | refine bN ?_ _ | refine bD ?_ | refine bA ?_ _)); exact BK181.out) hb); have n2_ := Aside0.mk (below_step (by repeat (first | (with_reducible first | exact HB.out | apply wA | apply wN | apply wD | refine wS ?_ GE181.out) | exact HB.out)) hb); have n3_ := Aside0.mk (hbox); have n4_ := Aside0.mk ((by rw [hg]; exact (below_size (by repeat (first | (with_reducible first | exact HB.out | apply wA | apply wN | apply wD | refine wS ?_ GE181.out) | exact HB.out))) : w.heap.size ≤ gb188)); have n5_ := Aside0.mk ((by rw [hg]; exact (below_size (by repeat (first | (with_reducible first | exact HB.out | apply wA | apply wN | apply wD | refine wS ?_ GE181.out) | exact HB.out))) : w.heap.size ≤ gb188)); have n6_ := Aside0.mk ((by rw [hg]; exact Nat.ne_of_lt (blk_lt (g := gb181) (o := .cells #[.slice (some ad185) l0_0.length c0_0] 24 (0, 0)) (by (with_reducible repeat (first | refine bN ?_ _ | refine bD ?_ | refine bA ?_ _)); exact BK181.out)) : gb181 ≠ gb188)); have n7_ := Aside0.mk ((by rw [hg]; exact Nat.ne_of_gt (blk_lt (g := gb181) (o := .cells #[.slice (some ad185) l0_0.length c0_0] 24 (0, 0)) (by (with_reducible repeat (first | refine bN ?_ _ | refine bD ?_ | refine bA ?_ _)); exact BK181.out)) : gb188 ≠ gb181)); clear HO_5; clear BK181; clear HB; have HO_5 := n0_; have BK181 := n1_; have HB := n2_; have BK188 := n3_; have GW188 := n4_; have GE188 := n5_; have NB181_188 := n6_; have NB188_181 := n7_; clear n0_ n1_ n2_ n3_ n4_ n5_ n6_ n7_; clear hb hbox hg; have hnb29 := NB188_181.out; have hnc29 := NB181_188.out; have hcz30_0 : w28.cell? ⟨gb188, 0, none⟩ = some (.int .i64 0) := (bC BK188.out 0).trans rfl; have hcz30_1 : w28.cell? ⟨gb188, 1, none⟩ = some (.int .i64 0) := (bC BK188.out 1).trans rfl; have hcz30_2 : w28.cell? ⟨gb188, 2, none⟩ = some (.int .i64 0) := (bC BK188.out 2).trans rfl; have hcz30_3 : w28.cell? ⟨gb188, 3, none⟩ = some (.slice none 0 0) := (bC BK188.out 3).trans rfl; have hcz30_4 : w28.cell? ⟨gb188, 4, none⟩ = some (.slice none 0 0) := (bC BK188.out 4).trans rfl; have hfz30_0 := bZ BK188.out 0; have hfz30_1 := bZ BK188.out 1; have hfz30_2 := bZ BK188.out 2; have hfz30_3 := bZ BK188.out 3; have hfz30_4 := bZ BK188.out 4; have p189 : 0 ≤ (x42_2 : Int) := of_decide_eq_true (by first | (with_reducible assumption) | assumption); have q189 : x42_2 < (x5_2.length : Int) := of_decide_eq_true (by first | (with_reducible assumption) | assumption); obtain ⟨ad189, e189, hx189_0⟩ := Kd.at_bool (Kd.R_reads' HO_5.out).2.2 x42_2 p189 q189; (try rw [← Nbq26.out] at hx189_0); obtain rfl : (⟨go11, 0, none⟩ : Addr) = ad189 := (by injection e189); (first | simp only [add_plain] at hx189_0 | simp only [add_at] at hx189_0 | simp only [Addr.add, Nat.zero_add] at hx189_0 | skip); have hn189_0 : (⟨go11, 0, none⟩ : Addr).block ≠ gb188 := Kd.own_blk (Kd.R_ne HO_5.out BK188.out (by decide)); have hn189_1 : (⟨go11, 0, none⟩ : Addr).block ≠ gb188 := Kd.own_blk (Kd.R_ne HO_5.out BK188.out (by decide)); have hn189_2 : (⟨go11, 0, none⟩ : Addr).block ≠ gb188 := Kd.own_blk (Kd.R_ne HO_5.out BK188.out (by decide)); have hn189_3 : (⟨go11, 0, none⟩ : Addr).block ≠ gb188 := Kd.own_blk (Kd.R_ne HO_5.out BK188.out (by decide)); have hn189_4 : (⟨go11, 0, none⟩ : Addr).block ≠ gb188 := Kd.own_blk (Kd.R_ne HO_5.out BK188.out (by decide)); replace hx189_0 := (cell_far (p := ⟨gb188, 0, none⟩) (by first | (rw [add_block]; exact hn189_0) | (show (Addr.add _ _).block ≠ _; rw [add_block]; exact hn189_0) | exact hn189_0) (.int .i64 ((rd_T28 l0_0 x42_2).f0))).trans hx189_0; replace hx189_0 := (cell_far (p := ⟨gb188, 1, none⟩) (by first | (rw [add_block]; exact hn189_1) | (show (Addr.add _ _).block ≠ _; rw [add_block]; exact hn189_1) | exact hn189_1) (.int .i64 ((rd_T28 l0_0 x42_2).f1))).trans hx189_0; replace hx189_0 := (cell_far (p := ⟨gb188, 2, none⟩) (by first | (rw [add_block]; exact hn189_2) | (show (Addr.add _ _).block ≠ _; rw [add_block]; exact hn189_2) | exact hn189_2) (.int .i64 ((rd_T28 l0_0 x42_2).f2))).trans hx189_0; replace hx189_0 := (cell_far (p := ⟨gb188, 3, none⟩) (by first | (rw [add_block]; exact hn189_3) | (show (Addr.add _ _).block ≠ _; rw [add_block]; exact hn189_3) | exact hn189_3) (.slice A187_3 ((rd_T28 l0_0 x42_2).f3).length c187_3)).trans hx189_0; replace hx189_0 := (cell_far (p := ⟨gb188, 4, none⟩) (by first | (rw [add_block]; exact hn189_4) | (show (Addr.add _ _).block ≠ _; rw [add_block]; exact hn189_4) | exact hn189_4) (.slice A187_4 ((rd_T28 l0_0 x42_2).f4).length c187_4)).trans hx189_0; clear hn189_0; clear hn189_1; clear hn189_2; clear hn189_3; clear hn189_4; replace p189 := eq_true p189; replace q189 := eq_true q189))
                   go_loopg [55] k2 (fun kq v55 w' => ∃ (x5_3 : List Bool) (x55_3 : Int), v55 = .int .i64 x55_3 ∧ Aside0 (potsherdref12_reached.l2 kq x5_3 (y182.length : Int) x37_1 l0_0 (l0_0.length : Int) x42_2 (((rd_T28 l0_0 x42_2).f4).length : Int) x55_3 l0_0 = some r) ∧ Aside0 (kq ≤ k2) ∧ Aside0 (Kd.R Kd.bool 4 w' w.heap.size (fun _ => True) (.slice (some ⟨go11, 0, none⟩) x5_2.length co16) x5_3) ∧ Aside0 (w'.heap[gb181]? = some (.cells #[(.slice (some ad185) l0_0.length c0_0)] 24 (0, 0))) ∧ Aside0 (w'.heap[gb188]? = some (.cells #[.int .i64 ((rd_T28 l0_0 x42_2).f0), .int .i64 ((rd_T28 l0_0 x42_2).f1), .int .i64 ((rd_T28 l0_0 x42_2).f2), (.slice A187_3 ((rd_T28 l0_0 x42_2).f3).length c187_3), (.slice A187_4 ((rd_T28 l0_0 x42_2).f4).length c187_4)] 28 (0, 0))) ∧ Aside0 (Below w.heap.size w w'))
                   case atStart => exact ⟨(x5_2), (0), (by first | rfl | (simp; done) | (simp [*]; done)), H', ⟨Nat.le_refl _⟩, ⟨by (try simp only [hl5_1]); (try simp only [hl5_2]); (with_reducible repeat (first | apply Kd.R_alloc | apply Kd.R_drewN | apply Kd.R_drew)); exact Kd.R_mono (Kd.R_far (p := ⟨gb188, 4, none⟩) (Kd.R_far (p := ⟨gb188, 3, none⟩) (Kd.R_far (p := ⟨gb188, 2, none⟩) (Kd.R_far (p := ⟨gb188, 1, none⟩) (Kd.R_far (p := ⟨gb188, 0, none⟩) (Kd.R_types HO_5.out BK188.out (by decide)) (fun _ hk => hk.2) (.int .i64 ((rd_T28 l0_0 x42_2).f0))) (fun _ hk => hk.2) (.int .i64 ((rd_T28 l0_0 x42_2).f1))) (fun _ hk => hk.2) (.int .i64 ((rd_T28 l0_0 x42_2).f2))) (fun _ hk => hk.2) (.slice A187_3 ((rd_T28 l0_0 x42_2).f3).length c187_3)) (fun _ hk => hk.2) (.slice A187_4 ((rd_T28 l0_0 x42_2).f4).length c187_4)) (fun _ hk => trivial)⟩, ⟨by (try simp only [hl5_1]); (try simp only [hl5_2]); (with_reducible repeat (first | refine bN ?_ _ | refine bD ?_ | refine bA ?_ _)); refine bF ?_ NB181_188.out _; (with_reducible repeat (first | refine bN ?_ _ | refine bD ?_ | refine bA ?_ _)); refine bF ?_ NB181_188.out _; (with_reducible repeat (first | refine bN ?_ _ | refine bD ?_ | refine bA ?_ _)); refine bF ?_ NB181_188.out _; (with_reducible repeat (first | refine bN ?_ _ | refine bD ?_ | refine bA ?_ _)); refine bF ?_ NB181_188.out _; (with_reducible repeat (first | refine bN ?_ _ | refine bD ?_ | refine bA ?_ _)); refine bF ?_ NB181_188.out _; (with_reducible repeat (first | refine bN ?_ _ | refine bD ?_ | refine bA ?_ _)); exact BK181.out⟩, ⟨by (try simp only [hl5_1]); (try simp only [hl5_2]); (with_reducible repeat (first | refine bN ?_ _ | refine bD ?_ | refine bA ?_ _)); refine blk_put (cs := #[.int .i64 ((rd_T28 l0_0 x42_2).f0), .int .i64 ((rd_T28 l0_0 x42_2).f1), .int .i64 ((rd_T28 l0_0 x42_2).f2), .slice A187_3 ((rd_T28 l0_0 x42_2).f3).length c187_3, .slice none 0 0]) ?_ 4 _ rfl; (with_reducible repeat (first | refine bN ?_ _ | refine bD ?_ | refine bA ?_ _)); refine blk_put (cs := #[.int .i64 ((rd_T28 l0_0 x42_2).f0), .int .i64 ((rd_T28 l0_0 x42_2).f1), .int .i64 ((rd_T28 l0_0 x42_2).f2), .slice none 0 0, .slice none 0 0]) ?_ 3 _ rfl; (with_reducible repeat (first | refine bN ?_ _ | refine bD ?_ | refine bA ?_ _)); refine blk_put (cs := #[.int .i64 ((rd_T28 l0_0 x42_2).f0), .int .i64 ((rd_T28 l0_0 x42_2).f1), .int .i64 0, .slice none 0 0, .slice none 0 0]) ?_ 2 _ rfl; (with_reducible repeat (first | refine bN ?_ _ | refine bD ?_ | refine bA ?_ _)); refine blk_put (cs := #[.int .i64 ((rd_T28 l0_0 x42_2).f0), .int .i64 0, .int .i64 0, .slice none 0 0, .slice none 0 0]) ?_ 1 _ rfl; (with_reducible repeat (first | refine bN ?_ _ | refine bD ?_ | refine bA ?_ _)); refine blk_put (cs := #[.int .i64 0, .int .i64 0, .int .i64 0, .slice none 0 0, .slice none 0 0]) ?_ 0 _ rfl; (with_reducible repeat (first | refine bN ?_ _ | refine bD ?_ | refine bA ?_ _)); exact BK188.out⟩, ⟨by repeat (first | (with_reducible first | exact HB.out | apply wA | apply wN | apply wD | refine wS ?_ GE181.out | refine wS ?_ GE188.out) | exact HB.out)⟩⟩
                   case round =>
                    clear H'
                    try clear c1
                    try clear p1
                    try clear q1
                    try clear hx1
                    try clear c2
                    try clear p2
                    try clear q2
                    try clear c3
                    try clear c3b0
                    try clear c3b1
                    try clear c4
                    try clear c4b0
                    try clear c4b1
                    try clear c5
                    try clear c5b0
                    try clear c6
                    try clear c6b0
                    try clear p6
                    try clear c7
                    try clear c7b0
                    try clear c8
                    try clear c8b0
                    try clear c9
                    try clear c9b0
                    try clear c9b1
                    try clear c10
                    try clear c10b0
                    try clear p11
                    try clear q11
                    try clear hx11
                    try clear hf11
                    try clear c18
                    try clear p18
                    try clear q18
                    try clear hx18
                    try clear c20
                    try clear c20b0
                    try clear c22
                    try clear c22b0
                    try clear c23
                    try clear c23b0
                    try clear c24
                    try clear c24b0
                    try clear c25
                    try clear c25b0
                    try clear q26
                    try clear c27
                    try clear c29
                    try clear hcz13_0
                    try clear hcz17_0
                    try clear hcz21_0
                    try clear hcz30_0
                    try clear hcz30_1
                    try clear hcz30_2
                    try clear hcz30_3
                    try clear hcz30_4
                    try clear hfz13_0
                    try clear hfz17_0
                    try clear hfz21_0
                    try clear hfz30_0
                    try clear hfz30_1
                    try clear hfz30_2
                    try clear hfz30_3
                    try clear hfz30_4
                    try clear hx11_0
                    try clear hx185_0
                    try clear hx185_1
                    try clear hx185_2
                    try clear hx185_3
                    try clear hx185_4
                    try clear hx187_0
                    try clear hx187_1
                    try clear hx187_2
                    try clear hx187_3
                    try clear hx187_4
                    try clear hx189_0
                    try clear p1
                    try clear p11
                    try clear p18
                    try clear p185
                    try clear p187
                    try clear p189
                    try clear p2
                    try clear q1
                    try clear q11
                    try clear q18
                    try clear q185
                    try clear q187
                    try clear q189
                    obtain ⟨x5_3, x55_3, rfl, HA, HK3, HO_5, BK181, BK188, HB⟩ := hrel; have hl5_3 := (Kd.R_reads' HO_5.out).1; rw [hl5_3] at HO_5
                    (try simp only [hl5_3])
                    (try simp only [hl5_3] at BK181)
                    (try simp only [hl5_3] at BK188)
                    cases gk with
                    | zero => exact absurd HA.out (by simp [potsherdref12_reached.l2])
                    | succ k3 =>
                     have H := HA.out; clear HA; simp only [potsherdref12_reached.l2] at H
                     by_cases c31 : x55_3 < (((rd_T28 l0_0 x42_2).f4).length : Int)
                     ·
                      rw [if_pos c31] at H; exact absurd H (by simp)
                     ·
                      rw [if_neg c31] at H; have c31b0 : decide (x55_3 < (((rd_T28 l0_0 x42_2).f4).length : Int)) = false := decide_eq_false c31; clear c31; have H' := Aside0.mk H; clear H
                      go_wp2
                      (try simp only [← hl5_2, ← hl5_3])
                      go_roundg k3
                      case measure => have := HK1.out; have := HK2.out; have := HK3.out; omega
                      case rel => exact ⟨(x5_3), (wrap64 (x42_2 + 1)), (by first | rfl | (simp; done) | (simp [*]; done)), H', ⟨by have := HK1.out; have := HK2.out; have := HK3.out; omega⟩, ⟨by (try simp only [hl5_1]); (try simp only [hl5_2]); (try simp only [hl5_3]); (with_reducible repeat (first | apply Kd.R_alloc | apply Kd.R_drewN | apply Kd.R_drew)); exact HO_5.out⟩, ⟨by (try simp only [hl5_1]); (try simp only [hl5_2]); (try simp only [hl5_3]); (with_reducible repeat (first | refine bN ?_ _ | refine bD ?_ | refine bA ?_ _)); exact BK181.out⟩, ⟨by repeat (first | (with_reducible first | exact HB.out | apply wA | apply wN | apply wD | refine wS ?_ GE181.out | refine wS ?_ GE188.out) | exact HB.out)⟩⟩
                  ·
                   replace c27 := Bool.eq_false_iff.mpr c27; subst c27
                   have H1 : (potsherdref12_reached.l1 k2 x5_2 (y182.length : Int) x37_1 l0_0 (l0_0.length : Int) (wrap64 (x42_2 + 1)) l0_0) = some r := by rw [if_neg (show ¬ (false = true) by decide)] at H; exact H
                   clear H; have H := H1; clear H1; have H' := Aside0.mk H; clear H; have p187 : 0 ≤ (x42_2 : Int) := of_decide_eq_true (by first | (with_reducible assumption) | assumption); have q187 : x42_2 < (l0_0.length : Int) := of_decide_eq_true (by first | (with_reducible assumption) | assumption); obtain ⟨ad187, A187_3, c187_3, A187_4, c187_4, e187, hx187_0, hx187_1, hx187_2, hx187_3, hx187_4, hl187_3, hi187_3, hl187_4, hi187_4⟩ := at_T28 HR0_0.out x42_2 p187 q187; obtain rfl : ad185 = ad187 := (by injection e187); replace hx187_0 := (HB.out.cell (World.block_lt_of_cell? w _ hx187_0)).trans hx187_0; replace hx187_1 := (HB.out.cell (World.block_lt_of_cell? w _ hx187_1)).trans hx187_1; replace hx187_2 := (HB.out.cell (World.block_lt_of_cell? w _ hx187_2)).trans hx187_2; replace hx187_3 := (HB.out.cell (World.block_lt_of_cell? w _ hx187_3)).trans hx187_3; replace hx187_4 := (HB.out.cell (World.block_lt_of_cell? w _ hx187_4)).trans hx187_4; have HR187_3 := Aside0.mk hi187_3; have HC187_3 := Aside0.mk hl187_3; clear hi187_3 hl187_3; have HR187_4 := Aside0.mk hi187_4; have HC187_4 := Aside0.mk hl187_4; clear hi187_4 hl187_4; replace p187 := eq_true p187; replace q187 := eq_true q187
                   go_wp2_with (first | ((with_reducible refine gate_dst (N := 7) rfl ?_); (try (refine gate_guard (by rfl) ?_; dsimp only)); refine box_event ?hg (N := 7) ?hd (cs := #[.int .i64 0, .int .i64 0, .int .i64 0, .slice none 0 0, .slice none 0 0]) (t := 28) ?hr ?_; (case hd => rfl); (case hg => rfl); (case hr => first | (go_simp; done) | (go_simp; rfl)); intro gb188 hg w32 hbox hb; have n0_ := Aside0.mk (Kd.R_below (by (with_reducible repeat (first | apply Kd.R_alloc | apply Kd.R_drewN | apply Kd.R_drew)); exact HO_5.out) hb); have n1_ := Aside0.mk (bB (g := gb181) (o := .cells #[.slice (some ad185) l0_0.length c0_0] 24 (0, 0)) (by (with_reducible repeat (first | refine bN ?_ _ | refine bD ?_ | refine bA ?_ _)); exact BK181.out) hb); have n2_ := Aside0.mk (below_step (by repeat (first | (with_reducible first | exact HB.out | apply wA | apply wN | apply wD | refine wS ?_ GE181.out) | exact HB.out)) hb); have n3_ := Aside0.mk (hbox); have n4_ := Aside0.mk ((by rw [hg]; exact (below_size (by repeat (first | (with_reducible first | exact HB.out | apply wA | apply wN | apply wD | refine wS ?_ GE181.out) | exact HB.out))) : w.heap.size ≤ gb188)); have n5_ := Aside0.mk ((by rw [hg]; exact (below_size (by repeat (first | (with_reducible first | exact HB.out | apply wA | apply wN | apply wD | refine wS ?_ GE181.out) | exact HB.out))) : w.heap.size ≤ gb188)); have n6_ := Aside0.mk ((by rw [hg]; exact Nat.ne_of_lt (blk_lt (g := gb181) (o := .cells #[.slice (some ad185) l0_0.length c0_0] 24 (0, 0)) (by (with_reducible repeat (first | refine bN ?_ _ | refine bD ?_ | refine bA ?_ _)); exact BK181.out)) : gb181 ≠ gb188)); have n7_ := Aside0.mk ((by rw [hg]; exact Nat.ne_of_gt (blk_lt (g := gb181) (o := .cells #[.slice (some ad185) l0_0.length c0_0] 24 (0, 0)) (by (with_reducible repeat (first | refine bN ?_ _ | refine bD ?_ | refine bA ?_ _)); exact BK181.out)) : gb188 ≠ gb181)); clear HO_5; clear BK181; clear HB; have HO_5 := n0_; have BK181 := n1_; have HB := n2_; have BK188 := n3_; have GW188 := n4_; have GE188 := n5_; have NB181_188 := n6_; have NB188_181 := n7_; clear n0_ n1_ n2_ n3_ n4_ n5_ n6_ n7_; clear hb hbox hg; have hnb33 := NB188_181.out; have hnc33 := NB181_188.out; have hcz34_0 : w32.cell? ⟨gb188, 0, none⟩ = some (.int .i64 0) := (bC BK188.out 0).trans rfl; have hcz34_1 : w32.cell? ⟨gb188, 1, none⟩ = some (.int .i64 0) := (bC BK188.out 1).trans rfl; have hcz34_2 : w32.cell? ⟨gb188, 2, none⟩ = some (.int .i64 0) := (bC BK188.out 2).trans rfl; have hcz34_3 : w32.cell? ⟨gb188, 3, none⟩ = some (.slice none 0 0) := (bC BK188.out 3).trans rfl; have hcz34_4 : w32.cell? ⟨gb188, 4, none⟩ = some (.slice none 0 0) := (bC BK188.out 4).trans rfl; have hfz34_0 := bZ BK188.out 0; have hfz34_1 := bZ BK188.out 1; have hfz34_2 := bZ BK188.out 2; have hfz34_3 := bZ BK188.out 3; have hfz34_4 := bZ BK188.out 4; have p189 : 0 ≤ (x42_2 : Int) := of_decide_eq_true (by first | (with_reducible assumption) | assumption); have q189 : x42_2 < (x5_2.length : Int) := of_decide_eq_true (by first | (with_reducible assumption) | assumption); obtain ⟨ad189, e189, hx189_0⟩ := Kd.at_bool (Kd.R_reads' HO_5.out).2.2 x42_2 p189 q189; (try rw [← Nbq26.out] at hx189_0); obtain rfl : (⟨go11, 0, none⟩ : Addr) = ad189 := (by injection e189); (first | simp only [add_plain] at hx189_0 | simp only [add_at] at hx189_0 | simp only [Addr.add, Nat.zero_add] at hx189_0 | skip); have hn189_0 : (⟨go11, 0, none⟩ : Addr).block ≠ gb188 := Kd.own_blk (Kd.R_ne HO_5.out BK188.out (by decide)); have hn189_1 : (⟨go11, 0, none⟩ : Addr).block ≠ gb188 := Kd.own_blk (Kd.R_ne HO_5.out BK188.out (by decide)); have hn189_2 : (⟨go11, 0, none⟩ : Addr).block ≠ gb188 := Kd.own_blk (Kd.R_ne HO_5.out BK188.out (by decide)); have hn189_3 : (⟨go11, 0, none⟩ : Addr).block ≠ gb188 := Kd.own_blk (Kd.R_ne HO_5.out BK188.out (by decide)); have hn189_4 : (⟨go11, 0, none⟩ : Addr).block ≠ gb188 := Kd.own_blk (Kd.R_ne HO_5.out BK188.out (by decide)); replace hx189_0 := (cell_far (p := ⟨gb188, 0, none⟩) (by first | (rw [add_block]; exact hn189_0) | (show (Addr.add _ _).block ≠ _; rw [add_block]; exact hn189_0) | exact hn189_0) (.int .i64 ((rd_T28 l0_0 x42_2).f0))).trans hx189_0; replace hx189_0 := (cell_far (p := ⟨gb188, 1, none⟩) (by first | (rw [add_block]; exact hn189_1) | (show (Addr.add _ _).block ≠ _; rw [add_block]; exact hn189_1) | exact hn189_1) (.int .i64 ((rd_T28 l0_0 x42_2).f1))).trans hx189_0; replace hx189_0 := (cell_far (p := ⟨gb188, 2, none⟩) (by first | (rw [add_block]; exact hn189_2) | (show (Addr.add _ _).block ≠ _; rw [add_block]; exact hn189_2) | exact hn189_2) (.int .i64 ((rd_T28 l0_0 x42_2).f2))).trans hx189_0; replace hx189_0 := (cell_far (p := ⟨gb188, 3, none⟩) (by first | (rw [add_block]; exact hn189_3) | (show (Addr.add _ _).block ≠ _; rw [add_block]; exact hn189_3) | exact hn189_3) (.slice A187_3 ((rd_T28 l0_0 x42_2).f3).length c187_3)).trans hx189_0; replace hx189_0 := (cell_far (p := ⟨gb188, 4, none⟩) (by first | (rw [add_block]; exact hn189_4) | (show (Addr.add _ _).block ≠ _; rw [add_block]; exact hn189_4) | exact hn189_4) (.slice A187_4 ((rd_T28 l0_0 x42_2).f4).length c187_4)).trans hx189_0; clear hn189_0; clear hn189_1; clear hn189_2; clear hn189_3; clear hn189_4; replace p189 := eq_true p189; replace q189 := eq_true q189))
                   (try simp only [← hl5_2])
                   go_roundg k2
                   case measure => have := HK1.out; have := HK2.out; omega
                   case rel => exact ⟨(x5_2), (wrap64 (x42_2 + 1)), (by first | rfl | (simp; done) | (simp [*]; done)), H', ⟨by have := HK1.out; have := HK2.out; omega⟩, ⟨by (try simp only [hl5_1]); (try simp only [hl5_2]); (with_reducible repeat (first | apply Kd.R_alloc | apply Kd.R_drewN | apply Kd.R_drew)); exact Kd.R_mono (Kd.R_far (p := ⟨gb188, 4, none⟩) (Kd.R_far (p := ⟨gb188, 3, none⟩) (Kd.R_far (p := ⟨gb188, 2, none⟩) (Kd.R_far (p := ⟨gb188, 1, none⟩) (Kd.R_far (p := ⟨gb188, 0, none⟩) (Kd.R_types HO_5.out BK188.out (by decide)) (fun _ hk => hk.2) (.int .i64 ((rd_T28 l0_0 x42_2).f0))) (fun _ hk => hk.2) (.int .i64 ((rd_T28 l0_0 x42_2).f1))) (fun _ hk => hk.2) (.int .i64 ((rd_T28 l0_0 x42_2).f2))) (fun _ hk => hk.2) (.slice A187_3 ((rd_T28 l0_0 x42_2).f3).length c187_3)) (fun _ hk => hk.2) (.slice A187_4 ((rd_T28 l0_0 x42_2).f4).length c187_4)) (fun _ hk => trivial)⟩, ⟨by (try simp only [hl5_1]); (try simp only [hl5_2]); (with_reducible repeat (first | refine bN ?_ _ | refine bD ?_ | refine bA ?_ _)); refine bF ?_ NB181_188.out _; (with_reducible repeat (first | refine bN ?_ _ | refine bD ?_ | refine bA ?_ _)); refine bF ?_ NB181_188.out _; (with_reducible repeat (first | refine bN ?_ _ | refine bD ?_ | refine bA ?_ _)); refine bF ?_ NB181_188.out _; (with_reducible repeat (first | refine bN ?_ _ | refine bD ?_ | refine bA ?_ _)); refine bF ?_ NB181_188.out _; (with_reducible repeat (first | refine bN ?_ _ | refine bD ?_ | refine bA ?_ _)); refine bF ?_ NB181_188.out _; (with_reducible repeat (first | refine bN ?_ _ | refine bD ?_ | refine bA ?_ _)); exact BK181.out⟩, ⟨by repeat (first | (with_reducible first | exact HB.out | apply wA | apply wN | apply wD | refine wS ?_ GE181.out | refine wS ?_ GE188.out) | exact HB.out)⟩⟩
                 ·
                  rw [if_neg c25] at H; exact absurd H (by simp)
                ·
                 rw [if_neg c24] at H; exact absurd H (by simp)
               ·
                rw [if_neg c23] at H; exact absurd H (by simp)
              ·
               rw [if_neg c22] at H; have c22b0 : decide (x42_2 < (l0_0.length : Int)) = false := decide_eq_false c22; clear c22; have H' := Aside0.mk H; clear H
               go_wp2
               (try simp only [← hl5_1, ← hl5_2])
               go_roundg k2
               case measure => have := HK1.out; have := HK2.out; omega
               case rel => exact ⟨(x5_2), (wrap64 (x37_1 + 1)), (by first | rfl | (simp; done) | (simp [*]; done)), H', ⟨by have := HK1.out; have := HK2.out; omega⟩, ⟨by (try simp only [hl5_1]); (try simp only [hl5_2]); (with_reducible repeat (first | apply Kd.R_alloc | apply Kd.R_drewN | apply Kd.R_drew)); exact HO_5.out⟩, ⟨by (try simp only [hl5_1]); (try simp only [hl5_2]); (with_reducible repeat (first | refine bN ?_ _ | refine bD ?_ | refine bA ?_ _)); exact BK181.out⟩, ⟨by repeat (first | (with_reducible first | exact HB.out | apply wA | apply wN | apply wD | refine wS ?_ GE181.out) | exact HB.out)⟩⟩
           ·
            rw [if_neg c20] at H; have c20b0 : decide (x37_1 < (y182.length : Int)) = false := decide_eq_false c20; clear c20; (first | simp only [hl5_3] at c20b0 | simp only [hl5_2] at c20b0 | simp only [hl5_1] at c20b0 | skip); obtain rfl := Option.some.inj H
            go_wp2
            go_ret
            exact ⟨_, by first | rfl | exact congrArg (fun b_ => Ending.returned (Value.bool b_)) HRET.out | (rw [HRET.out]) | (simp [errW_none, errW_some] <;> rfl) | (simp [*, errW_none, errW_some] <;> rfl), by (with_reducible repeat (first | apply Kd.R_alloc | apply Kd.R_drewN | apply Kd.R_drew)); exact HO_5.out, by repeat (first | (with_reducible first | exact HB.out | apply wA | apply wN | apply wD | refine wS ?_ GE181.out) | exact HB.out)⟩
        ·
         rw [if_neg c10] at H; exact absurd H (by simp)
       ·
        rw [if_neg c9] at H; exact absurd H (by simp)
      ·
       rw [if_neg c8] at H; exact absurd H (by simp)
     ·
      rw [if_neg c7] at H; exact absurd H (by simp)
  ·
   rw [if_neg c4] at H; exact absurd H (by simp)
 ·
  rw [if_neg c3] at H; exact absurd H (by simp)
end Go.Proofs.Ytkigiehkckjlhaa.PMakes
