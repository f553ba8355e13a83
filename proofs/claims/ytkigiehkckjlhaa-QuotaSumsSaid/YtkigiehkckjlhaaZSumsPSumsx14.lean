/- The Go functions that these laws reach, each as a Lean function with the same answers (a law itself where it answers true), and the proof that the code comes to them; conditions: those of each theorem. Laid by a program of this session over the print. -/
import Derived.Test.YtkigiehkckjlhaaZSumsPSumsx0
import Derived.Test.YtkigiehkckjlhaaZSumsPSumsx13
namespace Go.Proofs.Ytkigiehkckjlhaa.PSums
open Go.RowKit Go.Proofs.YtkigiehkckjlhaaW.PrintWords Go.Proofs.YtkigiehkckjlhaaW.PrintLast Go.Proofs.YtkigiehkckjlhaaW.PrintMore
attribute [local go_sem] max2_int min2_int max_two min_two max_three min_three max_four min_four   -- for this text's walks alone
set_option linter.unusedVariables false
set_option linter.unusedSimpArgs false
open Go.Proofs.YtkigiehkckjlhaaW.PrintWords renaming blk_drewN → bN, blk_drew → bD, blk_alloc → bA, below_set → wS, below_alloc → wA, pw_below_drewN → wN, below_drew1 → wD, blk_below → bB, blk_far → bF, blk_cell → bC, blk_frozen → bZ
open List renaming setIfInBounds_toArray → lT, set_cons_zero → l0_, set_cons_succ → lS
mutual
def potsherdref12_Pages.j0 : Nat → Int → Bool → Int → Int → Int → List Int → List (S78) → Option (Int)
 | 0, _, _, _, _, _, _, _ => none
 | k + 1, x3, x13, x202000, x202001, x202002, x202003, x202004 => if x13 = true then (some 0) else (potsherdref12_Pages.l0 k x3 x202003 (x202003.length : Int) 0)
def potsherdref12_Pages.l0 : Nat → Int → List Int → Int → Int → Option (Int)
 | 0, _, _, _, _ => none
 | k + 1, x3, x15, x16, x17 => if x17 < x16 then (if 0 ≤ x17 then (if x17 < (x15.length : Int) then (if (rd x15 x17) = 0 then (potsherdref12_Pages.l0 k x3 x15 x16 (wrap64 (x17 + 1))) else (potsherdref12_Pages.l0 k (wrap64 (x3 + 1)) x15 x16 (wrap64 (x17 + 1)))) else (none)) else (none)) else (some x3)
end
def potsherdref12_Pages.f (k : Nat) (a0_0 : Int) (a0_1 : Int) (a0_2 : Int) (l0_3 : List Int) (l0_4 : List (S78)) : Option (Int) := if a0_0 = 1 then ((potsherdref12_MayNode.f k a0_0 a0_1 a0_2 l0_3 l0_4).bind fun t202 => (potsherdref12_Pages.j0 k 0 (!t202) a0_0 a0_1 a0_2 l0_3 l0_4)) else (potsherdref12_Pages.j0 k 0 true a0_0 a0_1 a0_2 l0_3 l0_4)
theorem potsherdref12_Pages.mono_l : ∀ k, (∀ y0 y1 y2 y3 y4 y5 y6, LeO (potsherdref12_Pages.j0 k y0 y1 y2 y3 y4 y5 y6) (potsherdref12_Pages.j0 (k + 1) y0 y1 y2 y3 y4 y5 y6)) ∧ (∀ y0 y1 y2 y3, LeO (potsherdref12_Pages.l0 k y0 y1 y2 y3) (potsherdref12_Pages.l0 (k + 1) y0 y1 y2 y3))
 | 0 => ⟨fun _ _ _ _ _ _ _ r h => by simp [potsherdref12_Pages.j0] at h, fun _ _ _ _ r h => by simp [potsherdref12_Pages.l0] at h⟩
 | k + 1 => by
  obtain ⟨ih0, ih1⟩ := potsherdref12_Pages.mono_l k; refine ⟨?_, ?_⟩
  ·
   intro y0 y1 y2 y3 y4 y5 y6
   unfold potsherdref12_Pages.j0
   repeat' first
   | (with_reducible exact ih0 _ _ _ _ _ _ _)
   | (with_reducible exact ih1 _ _ _ _)
   | (with_reducible exact potsherdref12_MayNode.mono _ _ _ _ _ _)
   | (with_reducible exact LeO.refl _)
   | (with_reducible exact LeO.none _)
   | (with_reducible refine LeO.ite ?_ ?_)
   | (with_reducible refine LeO.bind ?_ (fun _ => ?_))
   | exact ih0 _ _ _ _ _ _ _
   | exact ih1 _ _ _ _
   | exact potsherdref12_MayNode.mono _ _ _ _ _ _
   | exact LeO.none _
   | refine LeO.ite ?_ ?_
   | refine LeO.bind ?_ (fun _ => ?_)
  ·
   intro y0 y1 y2 y3
   unfold potsherdref12_Pages.l0
   repeat' first
   | (with_reducible exact ih0 _ _ _ _ _ _ _)
   | (with_reducible exact ih1 _ _ _ _)
   | (with_reducible exact potsherdref12_MayNode.mono _ _ _ _ _ _)
   | (with_reducible exact LeO.refl _)
   | (with_reducible exact LeO.none _)
   | (with_reducible refine LeO.ite ?_ ?_)
   | (with_reducible refine LeO.bind ?_ (fun _ => ?_))
   | exact ih0 _ _ _ _ _ _ _
   | exact ih1 _ _ _ _
   | exact potsherdref12_MayNode.mono _ _ _ _ _ _
   | exact LeO.none _
   | refine LeO.ite ?_ ?_
   | refine LeO.bind ?_ (fun _ => ?_)
theorem potsherdref12_Pages.mono : ∀ a0 a1 a2 a3 a4 k, LeO (potsherdref12_Pages.f k a0 a1 a2 a3 a4) (potsherdref12_Pages.f (k + 1) a0 a1 a2 a3 a4) := by
 intro a0 a1 a2 a3 a4 k; obtain ⟨ih0, ih1⟩ := potsherdref12_Pages.mono_l k
 unfold potsherdref12_Pages.f
 repeat' first
  | (with_reducible exact ih0 _ _ _ _ _ _ _)
  | (with_reducible exact ih1 _ _ _ _)
  | (with_reducible exact potsherdref12_MayNode.mono _ _ _ _ _ _)
  | (with_reducible exact LeO.refl _)
  | (with_reducible exact LeO.none _)
  | (with_reducible refine LeO.ite ?_ ?_)
  | (with_reducible refine LeO.bind ?_ (fun _ => ?_))
  | exact ih0 _ _ _ _ _ _ _
  | exact ih1 _ _ _ _
  | exact potsherdref12_MayNode.mono _ _ _ _ _ _
  | exact LeO.none _
  | refine LeO.ite ?_ ?_
  | refine LeO.bind ?_ (fun _ => ?_)
set_option maxHeartbeats 8000000 in
set_option maxRecDepth 100000 in
theorem potsherdref12_Pages.calls (k : Nat) (a0_0 : Int) (a0_1 : Int) (a0_2 : Int) (A0_3 : Option Addr) (c0_3 : Nat) (l0_3 : List Int) (A0_4 : Option Addr) (c0_4 : Nat) (l0_4 : List (S78)) (r : Int) (w : World) (hr0_3 : Kd.C (Kd.int .i64) w A0_3 l0_3.length l0_3) (hc0_3 : l0_3.length ≤ c0_3) (hr0_4 : Kd.C k78 w A0_4 l0_4.length l0_4) (hc0_4 : l0_4.length ≤ c0_4) (h : potsherdref12_Pages.f k a0_0 a0_1 a0_2 l0_3 l0_4 = some r) :
 Calls Try.prog 28 #[.agg #[.int .i64 a0_0, .int .i64 a0_1, .int .i64 a0_2, .slice A0_3 l0_3.length c0_3, .slice A0_4 l0_4.length c0_4]] w fun e w' => e = .returned (.int .i64 r) ∧ Below w.heap.size w w' := by
 have hu28 := Try.underlying28; have HR0_3 := Aside0.mk hr0_3; have HC0_3 := Aside0.mk hc0_3; clear hr0_3 hc0_3; have HR0_4 := Aside0.mk hr0_4; have HC0_4 := Aside0.mk hc0_4; clear hr0_4 hc0_4; have HB := Aside0.mk (Below.refl w.heap.size w); have H : (if a0_0 = 1 then ((potsherdref12_MayNode.f k a0_0 a0_1 a0_2 l0_3 l0_4).bind fun t202 => (potsherdref12_Pages.j0 k 0 (!t202) a0_0 a0_1 a0_2 l0_3 l0_4)) else (potsherdref12_Pages.j0 k 0 true a0_0 a0_1 a0_2 l0_3 l0_4)) = some r := h; clear h; have HC2 := Aside0.mk H; clear H
 go_enter Try.func28, Try.ntmps28
 go_upto_region 2 with (first | ((with_reducible refine gate_dst (N := 1) rfl ?_); refine box_event ?hg (N := 1) ?hd (cs := #[.int .i64 a0_0, .int .i64 a0_1, .int .i64 a0_2, .slice A0_3 l0_3.length c0_3, .slice A0_4 l0_4.length c0_4]) (t := 28) ?hr ?_; (case hd => rfl); (case hg => rfl); (case hr => first | (go_simp; done) | (go_simp; rfl)); intro gb201 hg w3 hbox hb; have n0_ := Aside0.mk (below_step (by repeat (first | (with_reducible first | exact HB.out | apply wA | apply wN | apply wD) | exact HB.out)) hb); have n1_ := Aside0.mk (hbox); have n2_ := Aside0.mk ((by rw [hg]; exact (below_size (by repeat (first | (with_reducible first | exact HB.out | apply wA | apply wN | apply wD) | exact HB.out))) : w.heap.size ≤ gb201)); have n3_ := Aside0.mk ((by rw [hg]; exact (below_size (by repeat (first | (with_reducible first | exact HB.out | apply wA | apply wN | apply wD) | exact HB.out))) : w.heap.size ≤ gb201)); clear HB; have HB := n0_; have BK201 := n1_; have GW201 := n2_; have GE201 := n3_; clear n0_ n1_ n2_ n3_; clear hb hbox hg))
 (try simp only [Act.put, lT, l0_, lS])
 go_cut [13] (fun v13 wc => ∃ (kq : Nat) (x13_1 : Bool), v13 = .bool x13_1 ∧ Aside0 (potsherdref12_Pages.j0 kq 0 x13_1 a0_0 a0_1 a0_2 l0_3 l0_4 = some r) ∧ Aside0 (kq ≤ k) ∧ Aside0 (wc.heap[gb201]? = some (.cells #[.int .i64 a0_0, .int .i64 a0_1, .int .i64 a0_2, (.slice A0_3 l0_3.length c0_3), (.slice A0_4 l0_4.length c0_4)] 28 (0, 0))) ∧ Aside0 (Below w.heap.size w wc))
 case first =>
  have H := HC2.out; clear HC2
  by_cases c4 : a0_0 = 1
  ·
   rw [if_pos c4] at H; have c4b0 : (a0_0 == 1) = true := beq_iff_eq.mpr c4; have c4b1 : (a0_0 != 1) = false := bne_eq_false_iff_eq.mpr c4; clear c4
   (first | rw [c4b0] | (simp only [i64_w, i32_w]; rw [c4b0]) | skip)
   replace H := Option.bind_eq_some_iff.mp H; obtain ⟨t202, A50, H⟩ := H; replace H : (potsherdref12_Pages.j0 k 0 (!t202) a0_0 a0_1 a0_2 l0_3 l0_4) = some r := H; have A5 := Aside0.mk A50; clear A50; have H' := Aside0.mk H; clear H; have hcz6_0 : w3.cell? ⟨gb201, 0, none⟩ = some (.int .i64 a0_0) := (bC BK201.out 0).trans rfl; have hcz6_1 : w3.cell? ⟨gb201, 1, none⟩ = some (.int .i64 a0_1) := (bC BK201.out 1).trans rfl; have hcz6_2 : w3.cell? ⟨gb201, 2, none⟩ = some (.int .i64 a0_2) := (bC BK201.out 2).trans rfl; have hcz6_3 : w3.cell? ⟨gb201, 3, none⟩ = some (.slice A0_3 l0_3.length c0_3) := (bC BK201.out 3).trans rfl; have hcz6_4 : w3.cell? ⟨gb201, 4, none⟩ = some (.slice A0_4 l0_4.length c0_4) := (bC BK201.out 4).trans rfl; have hfz6_0 := bZ BK201.out 0; have hfz6_1 := bZ BK201.out 1; have hfz6_2 := bZ BK201.out 2; have hfz6_3 := bZ BK201.out 3; have hfz6_4 := bZ BK201.out 4
   go_wp2_with (first | (go_at_call 24; (with_reducible refine (potsherdref12_MayNode.calls k a0_0 a0_1 a0_2 _ _ l0_3 _ _ l0_4 t202 _ ?side1 ?side2 ?side3 ?side4 A5.out).mono ?_); (case side1 => repeat (first | exact (Kd.C_below HR0_3.out HB.out) | (with_reducible refine Kd.C_alloc ?_ _) | (with_reducible refine Kd.C_drewN ?_ _) | (with_reducible refine Kd.C_drew ?_))); (case side2 => exact HC0_3.out); (case side3 => repeat (first | exact (Kd.C_below HR0_4.out HB.out) | (with_reducible refine Kd.C_alloc ?_ _) | (with_reducible refine Kd.C_drewN ?_ _) | (with_reducible refine Kd.C_drew ?_))); (case side4 => exact HC0_4.out); rintro e w7 ⟨rfl, hb⟩; have n0_ := Aside0.mk (bB (g := gb201) (o := .cells #[.int .i64 a0_0, .int .i64 a0_1, .int .i64 a0_2, .slice A0_3 l0_3.length c0_3, .slice A0_4 l0_4.length c0_4] 28 (0, 0)) (by (with_reducible repeat (first | refine bN ?_ _ | refine bD ?_ | refine bA ?_ _)); exact BK201.out) hb); have n1_ := Aside0.mk (below_step (by repeat (first | (with_reducible first | exact HB.out | apply wA | apply wN | apply wD | refine wS ?_ GE201.out) | exact HB.out)) hb); clear BK201; clear HB; have BK201 := n0_; have HB := n1_; clear n0_ n1_; (try clear hb); (try clear hb2); (try clear hk); (try clear hi)))
   go_meet
   case rel => exact ⟨_, (!t202), (by first | rfl | (simp; done) | (simp [*]; done)), H', ⟨by first | omega | exact Nat.le_refl _⟩, ⟨by (with_reducible repeat (first | refine bN ?_ _ | refine bD ?_ | refine bA ?_ _)); exact BK201.out⟩, ⟨by repeat (first | (with_reducible first | exact HB.out | apply wA | apply wN | apply wD | refine wS ?_ GE201.out) | exact HB.out)⟩⟩
  ·
   rw [if_neg c4] at H; have c4b0 : (a0_0 == 1) = false := beq_eq_false_iff_ne.mpr c4; have c4b1 : (a0_0 != 1) = true := bne_iff_ne.mpr c4
   (first | rw [c4b0] | (simp only [i64_w, i32_w]; rw [c4b0]) | skip)
   have H' := Aside0.mk H; clear H; have hcz8_0 : w3.cell? ⟨gb201, 0, none⟩ = some (.int .i64 a0_0) := (bC BK201.out 0).trans rfl; have hcz8_1 : w3.cell? ⟨gb201, 1, none⟩ = some (.int .i64 a0_1) := (bC BK201.out 1).trans rfl; have hcz8_2 : w3.cell? ⟨gb201, 2, none⟩ = some (.int .i64 a0_2) := (bC BK201.out 2).trans rfl; have hcz8_3 : w3.cell? ⟨gb201, 3, none⟩ = some (.slice A0_3 l0_3.length c0_3) := (bC BK201.out 3).trans rfl; have hcz8_4 : w3.cell? ⟨gb201, 4, none⟩ = some (.slice A0_4 l0_4.length c0_4) := (bC BK201.out 4).trans rfl; have hfz8_0 := bZ BK201.out 0; have hfz8_1 := bZ BK201.out 1; have hfz8_2 := bZ BK201.out 2; have hfz8_3 := bZ BK201.out 3; have hfz8_4 := bZ BK201.out 4
   go_wp2
   go_meet
   case rel => exact ⟨_, (true), (by first | rfl | (simp; done) | (simp [*]; done)), H', ⟨by first | omega | exact Nat.le_refl _⟩, ⟨by (with_reducible repeat (first | refine bN ?_ _ | refine bD ?_ | refine bA ?_ _)); exact BK201.out⟩, ⟨by repeat (first | (with_reducible first | exact HB.out | apply wA | apply wN | apply wD | refine wS ?_ GE201.out) | exact HB.out)⟩⟩
 case rest =>
  clear HC2
  try clear c2
  try clear p2
  try clear c4
  try clear c4b0
  try clear c4b1
  try clear hcz6_0
  try clear hcz6_1
  try clear hcz6_2
  try clear hcz6_3
  try clear hcz6_4
  try clear hcz8_0
  try clear hcz8_1
  try clear hcz8_2
  try clear hcz8_3
  try clear hcz8_4
  try clear hfz6_0
  try clear hfz6_1
  try clear hfz6_2
  try clear hfz6_3
  try clear hfz6_4
  try clear hfz8_0
  try clear hfz8_1
  try clear hfz8_2
  try clear hfz8_3
  try clear hfz8_4
  obtain ⟨kq, x13_1, rfl, HA, HJ1, BK201, HB⟩ := hcut
  cases kq with
  | zero => exact absurd HA.out (by simp [potsherdref12_Pages.j0])
  | succ kj1 =>
   have H := HA.out; clear HA; simp only [potsherdref12_Pages.j0] at H
   by_cases c9 : x13_1 = true
   ·
    subst c9
    have H1 : (some 0) = some r := by rw [if_pos rfl] at H; exact H
    clear H; have H := H1; clear H1; obtain rfl := Option.some.inj H
    go_wp2
    go_ret
    exact ⟨by first | rfl | exact congrArg (fun b_ => Ending.returned (Value.bool b_)) HRET.out | (rw [HRET.out]) | (simp [errW_none, errW_some] <;> rfl) | (simp [*, errW_none, errW_some] <;> rfl), by repeat (first | (with_reducible first | exact HB.out | apply wA | apply wN | apply wD | refine wS ?_ GE201.out) | exact HB.out)⟩
   ·
    replace c9 := Bool.eq_false_iff.mpr c9; subst c9
    have H1 : (potsherdref12_Pages.l0 kj1 0 l0_3 (l0_3.length : Int) 0) = some r := by rw [if_neg (show ¬ (false = true) by decide)] at H; exact H
    clear H; have H := H1; clear H1; have H' := Aside0.mk H; clear H; have hcz10_0 : wc.cell? ⟨gb201, 0, none⟩ = some (.int .i64 a0_0) := (bC BK201.out 0).trans rfl; have hcz10_1 : wc.cell? ⟨gb201, 1, none⟩ = some (.int .i64 a0_1) := (bC BK201.out 1).trans rfl; have hcz10_2 : wc.cell? ⟨gb201, 2, none⟩ = some (.int .i64 a0_2) := (bC BK201.out 2).trans rfl; have hcz10_3 : wc.cell? ⟨gb201, 3, none⟩ = some (.slice A0_3 l0_3.length c0_3) := (bC BK201.out 3).trans rfl; have hcz10_4 : wc.cell? ⟨gb201, 4, none⟩ = some (.slice A0_4 l0_4.length c0_4) := (bC BK201.out 4).trans rfl; have hfz10_0 := bZ BK201.out 0; have hfz10_1 := bZ BK201.out 1; have hfz10_2 := bZ BK201.out 2; have hfz10_3 := bZ BK201.out 3; have hfz10_4 := bZ BK201.out 4
    go_wp2
    go_loopg [3, 17] kj1 (fun kq v3 v17 w' => ∃ (x3_2 : Int) (x17_2 : Int), v3 = .int .i64 x3_2 ∧ v17 = .int .i64 x17_2 ∧ Aside0 (potsherdref12_Pages.l0 kq x3_2 l0_3 (l0_3.length : Int) x17_2 = some r) ∧ Aside0 (kq ≤ kj1) ∧ Aside0 (w'.heap[gb201]? = some (.cells #[.int .i64 a0_0, .int .i64 a0_1, .int .i64 a0_2, (.slice A0_3 l0_3.length c0_3), (.slice A0_4 l0_4.length c0_4)] 28 (0, 0))) ∧ Aside0 (Below w.heap.size w w'))
    case atStart => exact ⟨(0), (0), (by first | rfl | (simp; done) | (simp [*]; done)), (by first | rfl | (simp; done) | (simp [*]; done)), H', ⟨Nat.le_refl _⟩, ⟨by (with_reducible repeat (first | refine bN ?_ _ | refine bD ?_ | refine bA ?_ _)); exact BK201.out⟩, ⟨by repeat (first | (with_reducible first | exact HB.out | apply wA | apply wN | apply wD | refine wS ?_ GE201.out) | exact HB.out)⟩⟩
    case round =>
     clear H'
     try clear c2
     try clear p2
     try clear c4
     try clear c4b0
     try clear c4b1
     try clear c9
     try clear hcz10_0
     try clear hcz10_1
     try clear hcz10_2
     try clear hcz10_3
     try clear hcz10_4
     try clear hcz6_0
     try clear hcz6_1
     try clear hcz6_2
     try clear hcz6_3
     try clear hcz6_4
     try clear hcz8_0
     try clear hcz8_1
     try clear hcz8_2
     try clear hcz8_3
     try clear hcz8_4
     try clear hfz10_0
     try clear hfz10_1
     try clear hfz10_2
     try clear hfz10_3
     try clear hfz10_4
     try clear hfz6_0
     try clear hfz6_1
     try clear hfz6_2
     try clear hfz6_3
     try clear hfz6_4
     try clear hfz8_0
     try clear hfz8_1
     try clear hfz8_2
     try clear hfz8_3
     try clear hfz8_4
     try clear p2
     obtain ⟨x3_2, x17_2, rfl, rfl, HA, HK2, BK201, HB⟩ := hrel
     cases gk with
     | zero => exact absurd HA.out (by simp [potsherdref12_Pages.l0])
     | succ k2 =>
      have H := HA.out; clear HA; simp only [potsherdref12_Pages.l0] at H
      by_cases c11 : x17_2 < (l0_3.length : Int)
      ·
       rw [if_pos c11] at H; have c11b0 : decide (x17_2 < (l0_3.length : Int)) = true := decide_eq_true c11; clear c11
       by_cases c12 : 0 ≤ x17_2
       ·
        rw [if_pos c12] at H; have c12b0 : decide (0 ≤ x17_2) = true := decide_eq_true c12; clear c12
        by_cases c13 : x17_2 < (l0_3.length : Int)
        ·
         rw [if_pos c13] at H; have c13b0 : decide (x17_2 < (l0_3.length : Int)) = true := decide_eq_true c13; clear c13
         by_cases c14 : (rd l0_3 x17_2) = 0
         ·
          rw [if_pos c14] at H; have c14b0 : ((rd l0_3 x17_2) == 0) = true := beq_iff_eq.mpr c14; have c14b1 : ((rd l0_3 x17_2) != 0) = false := bne_eq_false_iff_eq.mpr c14; clear c14; have H' := Aside0.mk H; clear H; have p203 : 0 ≤ (x17_2 : Int) := of_decide_eq_true (by first | (with_reducible assumption) | assumption); have q203 : x17_2 < (l0_3.length : Int) := of_decide_eq_true (by first | (with_reducible assumption) | assumption); obtain ⟨ad203, e203, hx203_0⟩ := Kd.at_int HR0_3.out x17_2 p203 q203
          cases e203
          replace hx203_0 := (HB.out.cell (World.block_lt_of_cell? w _ hx203_0)).trans hx203_0; replace p203 := eq_true p203; replace q203 := eq_true q203
          go_wp2
          go_roundg k2
          case measure => have := HJ1.out; have := HK2.out; omega
          case rel => exact ⟨(x3_2), (wrap64 (x17_2 + 1)), (by first | rfl | (simp; done) | (simp [*]; done)), (by first | rfl | (simp; done) | (simp [*]; done)), H', ⟨by have := HJ1.out; have := HK2.out; omega⟩, ⟨by (with_reducible repeat (first | refine bN ?_ _ | refine bD ?_ | refine bA ?_ _)); exact BK201.out⟩, ⟨by repeat (first | (with_reducible first | exact HB.out | apply wA | apply wN | apply wD | refine wS ?_ GE201.out) | exact HB.out)⟩⟩
         ·
          rw [if_neg c14] at H; have c14b0 : ((rd l0_3 x17_2) == 0) = false := beq_eq_false_iff_ne.mpr c14; have c14b1 : ((rd l0_3 x17_2) != 0) = true := bne_iff_ne.mpr c14; have H' := Aside0.mk H; clear H; have p203 : 0 ≤ (x17_2 : Int) := of_decide_eq_true (by first | (with_reducible assumption) | assumption); have q203 : x17_2 < (l0_3.length : Int) := of_decide_eq_true (by first | (with_reducible assumption) | assumption); obtain ⟨ad203, e203, hx203_0⟩ := Kd.at_int HR0_3.out x17_2 p203 q203
          cases e203
          replace hx203_0 := (HB.out.cell (World.block_lt_of_cell? w _ hx203_0)).trans hx203_0; replace p203 := eq_true p203; replace q203 := eq_true q203
          go_wp2
          go_roundg k2
          case measure => have := HJ1.out; have := HK2.out; omega
          case rel => exact ⟨(wrap64 (x3_2 + 1)), (wrap64 (x17_2 + 1)), (by first | rfl | (simp; done) | (simp [*]; done)), (by first | rfl | (simp; done) | (simp [*]; done)), H', ⟨by have := HJ1.out; have := HK2.out; omega⟩, ⟨by (with_reducible repeat (first | refine bN ?_ _ | refine bD ?_ | refine bA ?_ _)); exact BK201.out⟩, ⟨by repeat (first | (with_reducible first | exact HB.out | apply wA | apply wN | apply wD | refine wS ?_ GE201.out) | exact HB.out)⟩⟩
        ·
         rw [if_neg c13] at H; exact absurd H (by simp)
       ·
        rw [if_neg c12] at H; exact absurd H (by simp)
      ·
       rw [if_neg c11] at H; have c11b0 : decide (x17_2 < (l0_3.length : Int)) = false := decide_eq_false c11; clear c11; obtain rfl := Option.some.inj H
       go_wp2
       go_ret
       exact ⟨by first | rfl | exact congrArg (fun b_ => Ending.returned (Value.bool b_)) HRET.out | (rw [HRET.out]) | (simp [errW_none, errW_some] <;> rfl) | (simp [*, errW_none, errW_some] <;> rfl), by repeat (first | (with_reducible first | exact HB.out | apply wA | apply wN | apply wD | refine wS ?_ GE201.out) | exact HB.out)⟩
end Go.Proofs.Ytkigiehkckjlhaa.PSums
