/- The Go functions that these laws reach, each as a Lean function with the same answers (a law itself where it answers true), and the proof that the code comes to them; conditions: those of each theorem. Laid by a program of this session over the print. -/
import Derived.Test.YtkigiehkckjlhaaZSumsPSumsx0
import Derived.Test.YtkigiehkckjlhaaZSumsPSumsx1
import Derived.Test.YtkigiehkckjlhaaZSumsPSumsx6
namespace Go.Proofs.Ytkigiehkckjlhaa.PSums
open Go.RowKit Go.Proofs.YtkigiehkckjlhaaW.PrintWords Go.Proofs.YtkigiehkckjlhaaW.PrintLast Go.Proofs.YtkigiehkckjlhaaW.PrintMore
attribute [local go_sem] max2_int min2_int max_two min_two max_three min_three max_four min_four   -- for this text's walks alone
set_option linter.unusedVariables false
set_option linter.unusedSimpArgs false
open Go.Proofs.YtkigiehkckjlhaaW.PrintWords renaming blk_drewN → bN, blk_drew → bD, blk_alloc → bA, below_set → wS, below_alloc → wA, pw_below_drewN → wN, below_drew1 → wD, blk_below → bB, blk_far → bF, blk_cell → bC, blk_frozen → bZ
open List renaming setIfInBounds_toArray → lT, set_cons_zero → l0_, set_cons_succ → lS
mutual
def node_Refs.j0 : Nat → Int → Bool → Int → Int → Int → List Int → List (S78) → Option ((List (S102)))
 | 0, _, _, _, _, _, _, _ => none
 | k + 1, x0, x20, x124000, x124001, x124002, x124003, x124004 => if x20 = true then (some ([] : List (S102))) else (node_Refs.l0 k x0 ([] : List (S102)) x124003 (x124003.length : Int) 0)
def node_Refs.l0 : Nat → Int → List (S102) → List Int → Int → Int → Option ((List (S102)))
 | 0, _, _, _, _, _ => none
 | k + 1, x0, x5, x22, x23, x24 => if x24 < x23 then (if 0 ≤ x24 then (if x24 < (x22.length : Int) then (if (rd x22 x24) = 0 then (node_Refs.l0 k x0 x5 x22 x23 (wrap64 (x24 + 1))) else (if x5.length < 8796093022208 then (node_Refs.l0 k x0 (x5 ++ [(⟨wrap64 ((wrap64 (1 + (wrap64 (x0 * 5)))) + x24), rd x22 x24⟩ : S102)]) x22 x23 (wrap64 (x24 + 1))) else (none))) else (none)) else (none)) else (some x5)
end
def node_Refs.f (k : Nat) (a0 : Int) (a1_0 : Int) (a1_1 : Int) (a1_2 : Int) (l1_3 : List Int) (l1_4 : List (S78)) : Option ((List (S102))) := if a1_0 = 1 then ((node_May.f k a1_0 a1_1 a1_2 l1_3 l1_4).bind fun t124 => (if t124 = true then ((node_within.f a0 11).bind fun t125 => (node_Refs.j0 k a0 (!t125) a1_0 a1_1 a1_2 l1_3 l1_4)) else (node_Refs.j0 k a0 true a1_0 a1_1 a1_2 l1_3 l1_4))) else (node_Refs.j0 k a0 true a1_0 a1_1 a1_2 l1_3 l1_4)
theorem node_Refs.mono_l : ∀ k, (∀ y0 y1 y2 y3 y4 y5 y6, LeO (node_Refs.j0 k y0 y1 y2 y3 y4 y5 y6) (node_Refs.j0 (k + 1) y0 y1 y2 y3 y4 y5 y6)) ∧ (∀ y0 y1 y2 y3 y4, LeO (node_Refs.l0 k y0 y1 y2 y3 y4) (node_Refs.l0 (k + 1) y0 y1 y2 y3 y4))
 | 0 => ⟨fun _ _ _ _ _ _ _ r h => by simp [node_Refs.j0] at h, fun _ _ _ _ _ r h => by simp [node_Refs.l0] at h⟩
 | k + 1 => by
  obtain ⟨ih0, ih1⟩ := node_Refs.mono_l k; refine ⟨?_, ?_⟩
  ·
   intro y0 y1 y2 y3 y4 y5 y6
   unfold node_Refs.j0
   repeat' first
   | (with_reducible exact ih0 _ _ _ _ _ _ _)
   | (with_reducible exact ih1 _ _ _ _ _)
   | (with_reducible exact node_May.mono _ _ _ _ _ _)
   | (with_reducible exact LeO.refl _)
   | (with_reducible exact LeO.none _)
   | (with_reducible refine LeO.ite ?_ ?_)
   | (with_reducible refine LeO.bind ?_ (fun _ => ?_))
   | exact ih0 _ _ _ _ _ _ _
   | exact ih1 _ _ _ _ _
   | exact node_May.mono _ _ _ _ _ _
   | exact LeO.none _
   | refine LeO.ite ?_ ?_
   | refine LeO.bind ?_ (fun _ => ?_)
  ·
   intro y0 y1 y2 y3 y4
   unfold node_Refs.l0
   repeat' first
   | (with_reducible exact ih0 _ _ _ _ _ _ _)
   | (with_reducible exact ih1 _ _ _ _ _)
   | (with_reducible exact node_May.mono _ _ _ _ _ _)
   | (with_reducible exact LeO.refl _)
   | (with_reducible exact LeO.none _)
   | (with_reducible refine LeO.ite ?_ ?_)
   | (with_reducible refine LeO.bind ?_ (fun _ => ?_))
   | exact ih0 _ _ _ _ _ _ _
   | exact ih1 _ _ _ _ _
   | exact node_May.mono _ _ _ _ _ _
   | exact LeO.none _
   | refine LeO.ite ?_ ?_
   | refine LeO.bind ?_ (fun _ => ?_)
theorem node_Refs.mono : ∀ a0 a1 a2 a3 a4 a5 k, LeO (node_Refs.f k a0 a1 a2 a3 a4 a5) (node_Refs.f (k + 1) a0 a1 a2 a3 a4 a5) := by
 intro a0 a1 a2 a3 a4 a5 k; obtain ⟨ih0, ih1⟩ := node_Refs.mono_l k
 unfold node_Refs.f
 repeat' first
  | (with_reducible exact ih0 _ _ _ _ _ _ _)
  | (with_reducible exact ih1 _ _ _ _ _)
  | (with_reducible exact node_May.mono _ _ _ _ _ _)
  | (with_reducible exact LeO.refl _)
  | (with_reducible exact LeO.none _)
  | (with_reducible refine LeO.ite ?_ ?_)
  | (with_reducible refine LeO.bind ?_ (fun _ => ?_))
  | exact ih0 _ _ _ _ _ _ _
  | exact ih1 _ _ _ _ _
  | exact node_May.mono _ _ _ _ _ _
  | exact LeO.none _
  | refine LeO.ite ?_ ?_
  | refine LeO.bind ?_ (fun _ => ?_)
set_option maxHeartbeats 8000000 in
set_option maxRecDepth 100000 in
theorem node_Refs.calls (k : Nat) (a0 : Int) (a1_0 : Int) (a1_1 : Int) (a1_2 : Int) (A1_3 : Option Addr) (c1_3 : Nat) (l1_3 : List Int) (A1_4 : Option Addr) (c1_4 : Nat) (l1_4 : List (S78)) (r : List (S102)) (w : World) (hr1_3 : Kd.C (Kd.int .i64) w A1_3 l1_3.length l1_3) (hc1_3 : l1_3.length ≤ c1_3) (hr1_4 : Kd.C k78 w A1_4 l1_4.length l1_4) (hc1_4 : l1_4.length ≤ c1_4) (h : node_Refs.f k a0 a1_0 a1_1 a1_2 l1_3 l1_4 = some r) :
 Calls Try.prog 66 #[.int .i64 a0, .agg #[.int .i64 a1_0, .int .i64 a1_1, .int .i64 a1_2, .slice A1_3 l1_3.length c1_3, .slice A1_4 l1_4.length c1_4]] w fun e w' => ∃ v0_ : Value, e = .returned (v0_) ∧ Kd.R k102 102 w' w.heap.size (fun _ => True) v0_ r ∧ Below w.heap.size w w' := by
 have hu28 := Try.underlying28; have hu102 := Try.underlying102; have HR1_3 := Aside0.mk hr1_3; have HC1_3 := Aside0.mk hc1_3; clear hr1_3 hc1_3; have HR1_4 := Aside0.mk hr1_4; have HC1_4 := Aside0.mk hc1_4; clear hr1_4 hc1_4; have HB := Aside0.mk (Below.refl w.heap.size w); have H : (if a1_0 = 1 then ((node_May.f k a1_0 a1_1 a1_2 l1_3 l1_4).bind fun t124 => (if t124 = true then ((node_within.f a0 11).bind fun t125 => (node_Refs.j0 k a0 (!t125) a1_0 a1_1 a1_2 l1_3 l1_4)) else (node_Refs.j0 k a0 true a1_0 a1_1 a1_2 l1_3 l1_4))) else (node_Refs.j0 k a0 true a1_0 a1_1 a1_2 l1_3 l1_4)) = some r := h; clear h; have HC3 := Aside0.mk H; clear H
 go_enter Try.func66, Try.ntmps66
 go_upto_region 1 with (first | ((with_reducible refine gate_dst (N := 3) rfl ?_); refine box_event ?hg (N := 3) ?hd (cs := #[.int .i64 a1_0, .int .i64 a1_1, .int .i64 a1_2, .slice A1_3 l1_3.length c1_3, .slice A1_4 l1_4.length c1_4]) (t := 28) ?hr ?_; (case hd => rfl); (case hg => rfl); (case hr => first | (go_simp; done) | (go_simp; rfl)); intro gb123 hg w4 hbox hb; have n0_ := Aside0.mk (below_step (by repeat (first | (with_reducible first | exact HB.out | apply wA | apply wN | apply wD) | exact HB.out)) hb); have n1_ := Aside0.mk (hbox); have n2_ := Aside0.mk ((by rw [hg]; exact (below_size (by repeat (first | (with_reducible first | exact HB.out | apply wA | apply wN | apply wD) | exact HB.out))) : w.heap.size ≤ gb123)); have n3_ := Aside0.mk ((by rw [hg]; exact (below_size (by repeat (first | (with_reducible first | exact HB.out | apply wA | apply wN | apply wD) | exact HB.out))) : w.heap.size ≤ gb123)); clear HB; have HB := n0_; have BK123 := n1_; have GW123 := n2_; have GE123 := n3_; clear n0_ n1_ n2_ n3_; clear hb hbox hg))
 (try simp only [Act.put, lT, l0_, lS])
 go_cut [20] (fun v20 wc => ∃ (kq : Nat) (x20_2 : Bool), v20 = .bool x20_2 ∧ Aside0 (node_Refs.j0 kq a0 x20_2 a1_0 a1_1 a1_2 l1_3 l1_4 = some r) ∧ Aside0 (kq ≤ k) ∧ Aside0 (wc.heap[gb123]? = some (.cells #[.int .i64 a1_0, .int .i64 a1_1, .int .i64 a1_2, (.slice A1_3 l1_3.length c1_3), (.slice A1_4 l1_4.length c1_4)] 28 (0, 0))) ∧ Aside0 (Below w.heap.size w wc))
 case first =>
  have H := HC3.out; clear HC3
  by_cases c5 : a1_0 = 1
  ·
   rw [if_pos c5] at H; have c5b0 : (a1_0 == 1) = true := beq_iff_eq.mpr c5; have c5b1 : (a1_0 != 1) = false := bne_eq_false_iff_eq.mpr c5; clear c5
   (first | rw [c5b0] | (simp only [i64_w, i32_w]; rw [c5b0]) | skip)
   replace H := Option.bind_eq_some_iff.mp H; obtain ⟨t124, A60, H⟩ := H; replace H : (if t124 = true then ((node_within.f a0 11).bind fun t125 => (node_Refs.j0 k a0 (!t125) a1_0 a1_1 a1_2 l1_3 l1_4)) else (node_Refs.j0 k a0 true a1_0 a1_1 a1_2 l1_3 l1_4)) = some r := H; have A6 := Aside0.mk A60; clear A60
   by_cases c7 : t124 = true
   ·
    subst c7
    have H1 : ((node_within.f a0 11).bind fun t125 => (node_Refs.j0 k a0 (!t125) a1_0 a1_1 a1_2 l1_3 l1_4)) = some r := by rw [if_pos rfl] at H; exact H
    clear H; have H := H1; clear H1; replace H := Option.bind_eq_some_iff.mp H; obtain ⟨t125, A80, H⟩ := H; replace H : (node_Refs.j0 k a0 (!t125) a1_0 a1_1 a1_2 l1_3 l1_4) = some r := H; have A8 := Aside0.mk A80; clear A80; have H' := Aside0.mk H; clear H; have hcz9_0 : w4.cell? ⟨gb123, 0, none⟩ = some (.int .i64 a1_0) := (bC BK123.out 0).trans rfl; have hcz9_1 : w4.cell? ⟨gb123, 1, none⟩ = some (.int .i64 a1_1) := (bC BK123.out 1).trans rfl; have hcz9_2 : w4.cell? ⟨gb123, 2, none⟩ = some (.int .i64 a1_2) := (bC BK123.out 2).trans rfl; have hcz9_3 : w4.cell? ⟨gb123, 3, none⟩ = some (.slice A1_3 l1_3.length c1_3) := (bC BK123.out 3).trans rfl; have hcz9_4 : w4.cell? ⟨gb123, 4, none⟩ = some (.slice A1_4 l1_4.length c1_4) := (bC BK123.out 4).trans rfl; have hfz9_0 := bZ BK123.out 0; have hfz9_1 := bZ BK123.out 1; have hfz9_2 := bZ BK123.out 2; have hfz9_3 := bZ BK123.out 3; have hfz9_4 := bZ BK123.out 4
    go_wp2_with (first | (go_at_call 48; (with_reducible refine (node_May.calls k a1_0 a1_1 a1_2 _ _ l1_3 _ _ l1_4 true _ ?side1 ?side2 ?side3 ?side4 A6.out).mono ?_); (case side1 => repeat (first | exact (Kd.C_below HR1_3.out HB.out) | (with_reducible refine Kd.C_alloc ?_ _) | (with_reducible refine Kd.C_drewN ?_ _) | (with_reducible refine Kd.C_drew ?_))); (case side2 => exact HC1_3.out); (case side3 => repeat (first | exact (Kd.C_below HR1_4.out HB.out) | (with_reducible refine Kd.C_alloc ?_ _) | (with_reducible refine Kd.C_drewN ?_ _) | (with_reducible refine Kd.C_drew ?_))); (case side4 => exact HC1_4.out); rintro e w10 ⟨rfl, hb⟩; have n0_ := Aside0.mk (bB (g := gb123) (o := .cells #[.int .i64 a1_0, .int .i64 a1_1, .int .i64 a1_2, .slice A1_3 l1_3.length c1_3, .slice A1_4 l1_4.length c1_4] 28 (0, 0)) (by (with_reducible repeat (first | refine bN ?_ _ | refine bD ?_ | refine bA ?_ _)); exact BK123.out) hb); have n1_ := Aside0.mk (below_step (by repeat (first | (with_reducible first | exact HB.out | apply wA | apply wN | apply wD | refine wS ?_ GE123.out) | exact HB.out)) hb); clear BK123; clear HB; have BK123 := n0_; have HB := n1_; clear n0_ n1_; (try clear hb); (try clear hb2); (try clear hk); (try clear hi)) | (go_at_call 81; (with_reducible refine (node_within.calls a0 11 t125 _ A8.out).mono ?_); rintro e w' ⟨rfl, ⟨nd, rfl⟩⟩))
    go_meet
    case rel => exact ⟨_, (!t125), (by first | rfl | (simp; done) | (simp [*]; done)), H', ⟨by first | omega | exact Nat.le_refl _⟩, ⟨by (with_reducible repeat (first | refine bN ?_ _ | refine bD ?_ | refine bA ?_ _)); exact BK123.out⟩, ⟨by repeat (first | (with_reducible first | exact HB.out | apply wA | apply wN | apply wD | refine wS ?_ GE123.out) | exact HB.out)⟩⟩
   ·
    replace c7 := Bool.eq_false_iff.mpr c7; subst c7
    have H1 : (node_Refs.j0 k a0 true a1_0 a1_1 a1_2 l1_3 l1_4) = some r := by rw [if_neg (show ¬ (false = true) by decide)] at H; exact H
    clear H; have H := H1; clear H1; have H' := Aside0.mk H; clear H; have hcz11_0 : w4.cell? ⟨gb123, 0, none⟩ = some (.int .i64 a1_0) := (bC BK123.out 0).trans rfl; have hcz11_1 : w4.cell? ⟨gb123, 1, none⟩ = some (.int .i64 a1_1) := (bC BK123.out 1).trans rfl; have hcz11_2 : w4.cell? ⟨gb123, 2, none⟩ = some (.int .i64 a1_2) := (bC BK123.out 2).trans rfl; have hcz11_3 : w4.cell? ⟨gb123, 3, none⟩ = some (.slice A1_3 l1_3.length c1_3) := (bC BK123.out 3).trans rfl; have hcz11_4 : w4.cell? ⟨gb123, 4, none⟩ = some (.slice A1_4 l1_4.length c1_4) := (bC BK123.out 4).trans rfl; have hfz11_0 := bZ BK123.out 0; have hfz11_1 := bZ BK123.out 1; have hfz11_2 := bZ BK123.out 2; have hfz11_3 := bZ BK123.out 3; have hfz11_4 := bZ BK123.out 4
    go_wp2_with (first | (go_at_call 48; (with_reducible refine (node_May.calls k a1_0 a1_1 a1_2 _ _ l1_3 _ _ l1_4 false _ ?side1 ?side2 ?side3 ?side4 A6.out).mono ?_); (case side1 => repeat (first | exact (Kd.C_below HR1_3.out HB.out) | (with_reducible refine Kd.C_alloc ?_ _) | (with_reducible refine Kd.C_drewN ?_ _) | (with_reducible refine Kd.C_drew ?_))); (case side2 => exact HC1_3.out); (case side3 => repeat (first | exact (Kd.C_below HR1_4.out HB.out) | (with_reducible refine Kd.C_alloc ?_ _) | (with_reducible refine Kd.C_drewN ?_ _) | (with_reducible refine Kd.C_drew ?_))); (case side4 => exact HC1_4.out); rintro e w12 ⟨rfl, hb⟩; have n0_ := Aside0.mk (bB (g := gb123) (o := .cells #[.int .i64 a1_0, .int .i64 a1_1, .int .i64 a1_2, .slice A1_3 l1_3.length c1_3, .slice A1_4 l1_4.length c1_4] 28 (0, 0)) (by (with_reducible repeat (first | refine bN ?_ _ | refine bD ?_ | refine bA ?_ _)); exact BK123.out) hb); have n1_ := Aside0.mk (below_step (by repeat (first | (with_reducible first | exact HB.out | apply wA | apply wN | apply wD | refine wS ?_ GE123.out) | exact HB.out)) hb); clear BK123; clear HB; have BK123 := n0_; have HB := n1_; clear n0_ n1_; (try clear hb); (try clear hb2); (try clear hk); (try clear hi)))
    go_meet
    case rel => exact ⟨_, (true), (by first | rfl | (simp; done) | (simp [*]; done)), H', ⟨by first | omega | exact Nat.le_refl _⟩, ⟨by (with_reducible repeat (first | refine bN ?_ _ | refine bD ?_ | refine bA ?_ _)); exact BK123.out⟩, ⟨by repeat (first | (with_reducible first | exact HB.out | apply wA | apply wN | apply wD | refine wS ?_ GE123.out) | exact HB.out)⟩⟩
  ·
   rw [if_neg c5] at H; have c5b0 : (a1_0 == 1) = false := beq_eq_false_iff_ne.mpr c5; have c5b1 : (a1_0 != 1) = true := bne_iff_ne.mpr c5
   (first | rw [c5b0] | (simp only [i64_w, i32_w]; rw [c5b0]) | skip)
   have H' := Aside0.mk H; clear H; have hcz13_0 : w4.cell? ⟨gb123, 0, none⟩ = some (.int .i64 a1_0) := (bC BK123.out 0).trans rfl; have hcz13_1 : w4.cell? ⟨gb123, 1, none⟩ = some (.int .i64 a1_1) := (bC BK123.out 1).trans rfl; have hcz13_2 : w4.cell? ⟨gb123, 2, none⟩ = some (.int .i64 a1_2) := (bC BK123.out 2).trans rfl; have hcz13_3 : w4.cell? ⟨gb123, 3, none⟩ = some (.slice A1_3 l1_3.length c1_3) := (bC BK123.out 3).trans rfl; have hcz13_4 : w4.cell? ⟨gb123, 4, none⟩ = some (.slice A1_4 l1_4.length c1_4) := (bC BK123.out 4).trans rfl; have hfz13_0 := bZ BK123.out 0; have hfz13_1 := bZ BK123.out 1; have hfz13_2 := bZ BK123.out 2; have hfz13_3 := bZ BK123.out 3; have hfz13_4 := bZ BK123.out 4
   go_wp2
   go_meet
   case rel => exact ⟨_, (true), (by first | rfl | (simp; done) | (simp [*]; done)), H', ⟨by first | omega | exact Nat.le_refl _⟩, ⟨by (with_reducible repeat (first | refine bN ?_ _ | refine bD ?_ | refine bA ?_ _)); exact BK123.out⟩, ⟨by repeat (first | (with_reducible first | exact HB.out | apply wA | apply wN | apply wD | refine wS ?_ GE123.out) | exact HB.out)⟩⟩
 case rest =>
  clear HC3
  try clear c1
  try clear p2
  try clear c5
  try clear c5b0
  try clear c5b1
  try clear c6
  try clear c7
  try clear hcz11_0
  try clear hcz11_1
  try clear hcz11_2
  try clear hcz11_3
  try clear hcz11_4
  try clear hcz13_0
  try clear hcz13_1
  try clear hcz13_2
  try clear hcz13_3
  try clear hcz13_4
  try clear hcz9_0
  try clear hcz9_1
  try clear hcz9_2
  try clear hcz9_3
  try clear hcz9_4
  try clear hfz11_0
  try clear hfz11_1
  try clear hfz11_2
  try clear hfz11_3
  try clear hfz11_4
  try clear hfz13_0
  try clear hfz13_1
  try clear hfz13_2
  try clear hfz13_3
  try clear hfz13_4
  try clear hfz9_0
  try clear hfz9_1
  try clear hfz9_2
  try clear hfz9_3
  try clear hfz9_4
  obtain ⟨kq, x20_2, rfl, HA, HJ2, BK123, HB⟩ := hcut
  cases kq with
  | zero => exact absurd HA.out (by simp [node_Refs.j0])
  | succ kj2 =>
   have H := HA.out; clear HA; simp only [node_Refs.j0] at H
   by_cases c14 : x20_2 = true
   ·
    subst c14
    have H1 : (some ([] : List (S102))) = some r := by rw [if_pos rfl] at H; exact H
    clear H; have H := H1; clear H1; obtain rfl := Option.some.inj H
    go_wp2
    go_ret
    exact ⟨_, by first | rfl | exact congrArg (fun b_ => Ending.returned (Value.bool b_)) HRET.out | (rw [HRET.out]) | (simp [errW_none, errW_some] <;> rfl) | (simp [*, errW_none, errW_some] <;> rfl), by first | exact Kd.R_nil _ _ _ _ _ | exact Kd.N_nil _ _ _ _ _ | exact Kd.V_nil _ _ _ _ _ | exact Kd.Q_nil _ _ _ _ _ | exact Kd.S_nil _ _ _ _ _, by repeat (first | (with_reducible first | exact HB.out | apply wA | apply wN | apply wD | refine wS ?_ GE123.out) | exact HB.out)⟩
   ·
    replace c14 := Bool.eq_false_iff.mpr c14; subst c14
    have H1 : (node_Refs.l0 kj2 a0 ([] : List (S102)) l1_3 (l1_3.length : Int) 0) = some r := by rw [if_neg (show ¬ (false = true) by decide)] at H; exact H
    clear H; have H := H1; clear H1; have H' := Aside0.mk H; clear H; have hcz15_0 : wc.cell? ⟨gb123, 0, none⟩ = some (.int .i64 a1_0) := (bC BK123.out 0).trans rfl; have hcz15_1 : wc.cell? ⟨gb123, 1, none⟩ = some (.int .i64 a1_1) := (bC BK123.out 1).trans rfl; have hcz15_2 : wc.cell? ⟨gb123, 2, none⟩ = some (.int .i64 a1_2) := (bC BK123.out 2).trans rfl; have hcz15_3 : wc.cell? ⟨gb123, 3, none⟩ = some (.slice A1_3 l1_3.length c1_3) := (bC BK123.out 3).trans rfl; have hcz15_4 : wc.cell? ⟨gb123, 4, none⟩ = some (.slice A1_4 l1_4.length c1_4) := (bC BK123.out 4).trans rfl; have hfz15_0 := bZ BK123.out 0; have hfz15_1 := bZ BK123.out 1; have hfz15_2 := bZ BK123.out 2; have hfz15_3 := bZ BK123.out 3; have hfz15_4 := bZ BK123.out 4
    go_wp2
    go_loopg [5, 24] kj2 (fun kq v5 v24 w' => ∃ (x5_2 : List (S102)) (x24_2 : Int), v24 = .int .i64 x24_2 ∧ Aside0 (node_Refs.l0 kq a0 x5_2 l1_3 (l1_3.length : Int) x24_2 = some r) ∧ Aside0 (kq ≤ kj2) ∧ Aside0 (Kd.R k102 102 w' w.heap.size (fun _ => True) v5 x5_2) ∧ Aside0 (w'.heap[gb123]? = some (.cells #[.int .i64 a1_0, .int .i64 a1_1, .int .i64 a1_2, (.slice A1_3 l1_3.length c1_3), (.slice A1_4 l1_4.length c1_4)] 28 (0, 0))) ∧ Aside0 (Below w.heap.size w w'))
    case atStart => exact ⟨(([] : List (S102))), (0), (by first | rfl | (simp; done) | (simp [*]; done)), H', ⟨Nat.le_refl _⟩, ⟨by first | exact Kd.R_nil _ _ _ _ _ | exact Kd.N_nil _ _ _ _ _ | exact Kd.V_nil _ _ _ _ _ | exact Kd.Q_nil _ _ _ _ _ | exact Kd.S_nil _ _ _ _ _⟩, ⟨by (with_reducible repeat (first | refine bN ?_ _ | refine bD ?_ | refine bA ?_ _)); exact BK123.out⟩, ⟨by repeat (first | (with_reducible first | exact HB.out | apply wA | apply wN | apply wD | refine wS ?_ GE123.out) | exact HB.out)⟩⟩
    case round =>
     clear H'
     try clear c1
     try clear p2
     try clear c5
     try clear c5b0
     try clear c5b1
     try clear c6
     try clear c7
     try clear c14
     try clear hcz11_0
     try clear hcz11_1
     try clear hcz11_2
     try clear hcz11_3
     try clear hcz11_4
     try clear hcz13_0
     try clear hcz13_1
     try clear hcz13_2
     try clear hcz13_3
     try clear hcz13_4
     try clear hcz15_0
     try clear hcz15_1
     try clear hcz15_2
     try clear hcz15_3
     try clear hcz15_4
     try clear hcz9_0
     try clear hcz9_1
     try clear hcz9_2
     try clear hcz9_3
     try clear hcz9_4
     try clear hfz11_0
     try clear hfz11_1
     try clear hfz11_2
     try clear hfz11_3
     try clear hfz11_4
     try clear hfz13_0
     try clear hfz13_1
     try clear hfz13_2
     try clear hfz13_3
     try clear hfz13_4
     try clear hfz15_0
     try clear hfz15_1
     try clear hfz15_2
     try clear hfz15_3
     try clear hfz15_4
     try clear hfz9_0
     try clear hfz9_1
     try clear hfz9_2
     try clear hfz9_3
     try clear hfz9_4
     try clear p2
     obtain ⟨x5_2, x24_2, rfl, HA, HK2, HO_5, BK123, HB⟩ := hrel
     cases gk with
     | zero => exact absurd HA.out (by simp [node_Refs.l0])
     | succ k2 =>
      have H := HA.out; clear HA; simp only [node_Refs.l0] at H
      by_cases c16 : x24_2 < (l1_3.length : Int)
      ·
       rw [if_pos c16] at H; have c16b0 : decide (x24_2 < (l1_3.length : Int)) = true := decide_eq_true c16; clear c16
       by_cases c17 : 0 ≤ x24_2
       ·
        rw [if_pos c17] at H; have c17b0 : decide (0 ≤ x24_2) = true := decide_eq_true c17; clear c17
        by_cases c18 : x24_2 < (l1_3.length : Int)
        ·
         rw [if_pos c18] at H; have c18b0 : decide (x24_2 < (l1_3.length : Int)) = true := decide_eq_true c18; clear c18
         by_cases c19 : (rd l1_3 x24_2) = 0
         ·
          rw [if_pos c19] at H; have c19b0 : ((rd l1_3 x24_2) == 0) = true := beq_iff_eq.mpr c19; have c19b1 : ((rd l1_3 x24_2) != 0) = false := bne_eq_false_iff_eq.mpr c19; clear c19; have H' := Aside0.mk H; clear H; have p126 : 0 ≤ (x24_2 : Int) := of_decide_eq_true (by first | (with_reducible assumption) | assumption); have q126 : x24_2 < (l1_3.length : Int) := of_decide_eq_true (by first | (with_reducible assumption) | assumption); obtain ⟨ad126, e126, hx126_0⟩ := Kd.at_int HR1_3.out x24_2 p126 q126
          cases e126
          replace hx126_0 := (HB.out.cell (World.block_lt_of_cell? w _ hx126_0)).trans hx126_0; replace p126 := eq_true p126; replace q126 := eq_true q126
          go_wp2
          go_roundg k2
          case measure => have := HJ2.out; have := HK2.out; omega
          case rel => exact ⟨(x5_2), (wrap64 (x24_2 + 1)), (by first | rfl | (simp; done) | (simp [*]; done)), H', ⟨by have := HJ2.out; have := HK2.out; omega⟩, ⟨by (with_reducible repeat (first | apply Kd.R_alloc | apply Kd.R_drewN | apply Kd.R_drew)); exact HO_5.out⟩, ⟨by (with_reducible repeat (first | refine bN ?_ _ | refine bD ?_ | refine bA ?_ _)); exact BK123.out⟩, ⟨by repeat (first | (with_reducible first | exact HB.out | apply wA | apply wN | apply wD | refine wS ?_ GE123.out) | exact HB.out)⟩⟩
         ·
          rw [if_neg c19] at H; have c19b0 : ((rd l1_3 x24_2) == 0) = false := beq_eq_false_iff_ne.mpr c19; have c19b1 : ((rd l1_3 x24_2) != 0) = true := bne_iff_ne.mpr c19
          by_cases c20 : x5_2.length < 8796093022208
          ·
           rw [if_pos c20] at H; have LMc20 := Aside0.mk c20; clear c20; obtain ⟨y127, hy127⟩ : ∃ y_ : List (S102), y_ = (x5_2 ++ [(⟨wrap64 ((wrap64 (1 + (wrap64 (a0 * 5)))) + x24_2), rd l1_3 x24_2⟩ : S102)]) := ⟨_, rfl⟩
           replace H : (node_Refs.l0 k2 a0 y127 l1_3 (l1_3.length : Int) (wrap64 (x24_2 + 1))) = some r := by first | (rw [hy127]; with_reducible exact H) | (have H2_ := (Option.bind_some _ _).symm.trans H; rw [hy127]; with_reducible exact H2_) | (have H2_ := (Option.bind_some _ _).symm.trans H; with_reducible exact H2_) | with_reducible exact H | (rw [hy127]; exact H) | exact H
           have Ny127 := Aside0.mk hy127; clear hy127; have H' := Aside0.mk H; clear H; have p126 : 0 ≤ (x24_2 : Int) := of_decide_eq_true (by first | (with_reducible assumption) | assumption); have q126 : x24_2 < (l1_3.length : Int) := of_decide_eq_true (by first | (with_reducible assumption) | assumption); obtain ⟨ad126, e126, hx126_0⟩ := Kd.at_int HR1_3.out x24_2 p126 q126
           cases e126
           replace hx126_0 := (HB.out.cell (World.block_lt_of_cell? w _ hx126_0)).trans hx126_0; replace p126 := eq_true p126; replace q126 := eq_true q126
           go_wp2_with (first | ((with_reducible refine gate_builtin (b := .append) (xs := #[.tmp 31, .tmp 39]) rfl ?_); at_builtin; refine Kd.R_append k102 (w0 := w) w.heap.size rfl (.tmp 31) (.tmp 39) 91 102 (.agg #[(.int .i64 0), (.int .i64 0)]) 16 rfl Try.underlying91 info102 rfl (by decide) (by omega) u5 x5_2 (⟨wrap64 ((wrap64 (1 + (wrap64 (a0 * 5)))) + x24_2), rd l1_3 x24_2⟩ : S102) [.int .i64 (wrap64 ((wrap64 (1 + (wrap64 (a0 * 5)))) + x24_2)), .int .i64 (rd l1_3 x24_2)] (fun _ => True) (fun _ => False) rfl rfl ?aP (fun _ hk => hk.elim) ?aF ?aO ?aB ?aS ?aL ?_; (case aP => exact k102_mkM _ _ _ (⟨wrap64 ((wrap64 (1 + (wrap64 (a0 * 5)))) + x24_2), rd l1_3 x24_2⟩ : S102)); (case aB => exact (by repeat (first | (with_reducible first | exact HB.out | apply wA | apply wN | apply wD | refine wS ?_ GE123.out) | exact HB.out))); (case aF => exact (fun _ _ => trivial)); (case aO => exact (by (with_reducible repeat (first | apply Kd.R_alloc | apply Kd.R_drewN | apply Kd.R_drew)); exact HO_5.out)); (case aS => exact (below_size (by repeat (first | (with_reducible first | exact HB.out | apply wA | apply wN | apply wD | refine wS ?_ GE123.out) | exact HB.out)))); (case aL => have := LMc20.out; omega); intro v128 w21 ho hb hg hat; rw [← Ny127.out] at ho; have n0_ := Aside0.mk (blk_grown (g := gb123) (o := .cells #[.int .i64 a1_0, .int .i64 a1_1, .int .i64 a1_2, .slice (some ad126) l1_3.length c1_3, .slice A1_4 l1_4.length c1_4] 28 (0, 0)) (by (with_reducible repeat (first | refine bN ?_ _ | refine bD ?_ | refine bA ?_ _)); exact BK123.out) hg (Kd.R_ne HO_5.out BK123.out (by decide))); have n1_ := Aside0.mk (hb); have n2_ := Aside0.mk (ho); clear BK123; clear HB; clear HO_5; have BK123 := n0_; have HB := n1_; have HO129 := n2_; clear n0_ n1_ n2_; clear ho hb hg hat))
           go_roundg k2
           case measure => have := HJ2.out; have := HK2.out; omega
           case rel => exact ⟨(y127), (wrap64 (x24_2 + 1)), (by first | rfl | (simp; done) | (simp [*]; done)), H', ⟨by have := HJ2.out; have := HK2.out; omega⟩, ⟨by (with_reducible repeat (first | apply Kd.R_alloc | apply Kd.R_drewN | apply Kd.R_drew)); exact HO129.out⟩, ⟨by (with_reducible repeat (first | refine bN ?_ _ | refine bD ?_ | refine bA ?_ _)); exact BK123.out⟩, ⟨by repeat (first | (with_reducible first | exact HB.out | apply wA | apply wN | apply wD | refine wS ?_ GE123.out) | exact HB.out)⟩⟩
          ·
           rw [if_neg c20] at H; exact absurd H (by simp)
        ·
         rw [if_neg c18] at H; exact absurd H (by simp)
       ·
        rw [if_neg c17] at H; exact absurd H (by simp)
      ·
       rw [if_neg c16] at H; have c16b0 : decide (x24_2 < (l1_3.length : Int)) = false := decide_eq_false c16; clear c16; obtain rfl := Option.some.inj H
       go_wp2
       go_ret
       exact ⟨_, by first | rfl | exact congrArg (fun b_ => Ending.returned (Value.bool b_)) HRET.out | (rw [HRET.out]) | (simp [errW_none, errW_some] <;> rfl) | (simp [*, errW_none, errW_some] <;> rfl), by (with_reducible repeat (first | apply Kd.R_alloc | apply Kd.R_drewN | apply Kd.R_drew)); exact HO_5.out, by repeat (first | (with_reducible first | exact HB.out | apply wA | apply wN | apply wD | refine wS ?_ GE123.out) | exact HB.out)⟩
def node_Pages.f (k : Nat) (a0_0 : Int) (a0_1 : Int) (a0_2 : Int) (l0_3 : List Int) (l0_4 : List (S78)) : Option (Int) := (node_Refs.f k 0 a0_0 a0_1 a0_2 l0_3 l0_4).bind fun t131 => (some (t131.length : Int))
theorem node_Pages.mono : ∀ a0 a1 a2 a3 a4 k, LeO (node_Pages.f k a0 a1 a2 a3 a4) (node_Pages.f (k + 1) a0 a1 a2 a3 a4) := by
 intro a0 a1 a2 a3 a4 k
 unfold node_Pages.f
 repeat' first
  | (with_reducible exact node_Refs.mono _ _ _ _ _ _ _)
  | (with_reducible exact LeO.refl _)
  | (with_reducible exact LeO.none _)
  | (with_reducible refine LeO.ite ?_ ?_)
  | (with_reducible refine LeO.bind ?_ (fun _ => ?_))
  | exact node_Refs.mono _ _ _ _ _ _ _
  | exact LeO.none _
  | refine LeO.ite ?_ ?_
  | refine LeO.bind ?_ (fun _ => ?_)
set_option maxHeartbeats 8000000 in
set_option maxRecDepth 100000 in
theorem node_Pages.calls (k : Nat) (a0_0 : Int) (a0_1 : Int) (a0_2 : Int) (A0_3 : Option Addr) (c0_3 : Nat) (l0_3 : List Int) (A0_4 : Option Addr) (c0_4 : Nat) (l0_4 : List (S78)) (r : Int) (w : World) (hr0_3 : Kd.C (Kd.int .i64) w A0_3 l0_3.length l0_3) (hc0_3 : l0_3.length ≤ c0_3) (hr0_4 : Kd.C k78 w A0_4 l0_4.length l0_4) (hc0_4 : l0_4.length ≤ c0_4) (h : node_Pages.f k a0_0 a0_1 a0_2 l0_3 l0_4 = some r) :
 Calls Try.prog 46 #[.agg #[.int .i64 a0_0, .int .i64 a0_1, .int .i64 a0_2, .slice A0_3 l0_3.length c0_3, .slice A0_4 l0_4.length c0_4]] w fun e w' => e = .returned (.int .i64 r) ∧ Below w.heap.size w w' := by
 have hu28 := Try.underlying28; have HR0_3 := Aside0.mk hr0_3; have HC0_3 := Aside0.mk hc0_3; clear hr0_3 hc0_3; have HR0_4 := Aside0.mk hr0_4; have HC0_4 := Aside0.mk hc0_4; clear hr0_4 hc0_4; have HB := Aside0.mk (Below.refl w.heap.size w); have H : ((node_Refs.f k 0 a0_0 a0_1 a0_2 l0_3 l0_4).bind fun t131 => (some (t131.length : Int))) = some r := h; clear h; replace H := Option.bind_eq_some_iff.mp H; obtain ⟨t131, A20, H⟩ := H; replace H : (some (t131.length : Int)) = some r := H; have A2 := Aside0.mk A20; clear A20; obtain rfl := Option.some.inj H
 go_enter Try.func46, Try.ntmps46
 go_wp2_with (first | ((with_reducible refine gate_dst (N := 1) rfl ?_); refine box_event ?hg (N := 1) ?hd (cs := #[.int .i64 a0_0, .int .i64 a0_1, .int .i64 a0_2, .slice A0_3 l0_3.length c0_3, .slice A0_4 l0_4.length c0_4]) (t := 28) ?hr ?_; (case hd => rfl); (case hg => rfl); (case hr => first | (go_simp; done) | (go_simp; rfl)); intro gb130 hg w3 hbox hb; have n0_ := Aside0.mk (below_step (by repeat (first | (with_reducible first | exact HB.out | apply wA | apply wN | apply wD) | exact HB.out)) hb); have n1_ := Aside0.mk (hbox); have n2_ := Aside0.mk ((by rw [hg]; exact (below_size (by repeat (first | (with_reducible first | exact HB.out | apply wA | apply wN | apply wD) | exact HB.out))) : w.heap.size ≤ gb130)); have n3_ := Aside0.mk ((by rw [hg]; exact (below_size (by repeat (first | (with_reducible first | exact HB.out | apply wA | apply wN | apply wD) | exact HB.out))) : w.heap.size ≤ gb130)); clear HB; have HB := n0_; have BK130 := n1_; have GW130 := n2_; have GE130 := n3_; clear n0_ n1_ n2_ n3_; clear hb hbox hg; have hcz4_0 : w3.cell? ⟨gb130, 0, none⟩ = some (.int .i64 a0_0) := (bC BK130.out 0).trans rfl; have hcz4_1 : w3.cell? ⟨gb130, 1, none⟩ = some (.int .i64 a0_1) := (bC BK130.out 1).trans rfl; have hcz4_2 : w3.cell? ⟨gb130, 2, none⟩ = some (.int .i64 a0_2) := (bC BK130.out 2).trans rfl; have hcz4_3 : w3.cell? ⟨gb130, 3, none⟩ = some (.slice A0_3 l0_3.length c0_3) := (bC BK130.out 3).trans rfl; have hcz4_4 : w3.cell? ⟨gb130, 4, none⟩ = some (.slice A0_4 l0_4.length c0_4) := (bC BK130.out 4).trans rfl; have hfz4_0 := bZ BK130.out 0; have hfz4_1 := bZ BK130.out 1; have hfz4_2 := bZ BK130.out 2; have hfz4_3 := bZ BK130.out 3; have hfz4_4 := bZ BK130.out 4) | ((with_reducible refine gate_callee (f := 66) rfl ?_); refine goesL_ (some 4) rfl rfl Try.func66 (by kernel_rfl) rfl #[.int .i64 0, .agg #[.int .i64 a0_0, .int .i64 a0_1, .int .i64 a0_2, .slice A0_3 l0_3.length c0_3, .slice A0_4 l0_4.length c0_4]] rfl (by (try simp only [List.map_toArray, List.map_cons, List.map_nil]); first | done | rfl | (simp only [List.length_drop, List.length_take]; rfl)) ?_; (with_reducible refine (node_Refs.calls k 0 a0_0 a0_1 a0_2 _ _ l0_3 _ _ l0_4 t131 _ ?side1 ?side2 ?side3 ?side4 A2.out).mono ?_); (case side1 => repeat (first | exact (Kd.C_below HR0_3.out HB.out) | (with_reducible refine Kd.C_alloc ?_ _) | (with_reducible refine Kd.C_drewN ?_ _) | (with_reducible refine Kd.C_drew ?_))); (case side2 => exact HC0_3.out); (case side3 => repeat (first | exact (Kd.C_below HR0_4.out HB.out) | (with_reducible refine Kd.C_alloc ?_ _) | (with_reducible refine Kd.C_drewN ?_ _) | (with_reducible refine Kd.C_drew ?_))); (case side4 => exact HC0_4.out); rintro e w5 ⟨v132, rfl, ho0, hb⟩; refine ⟨_, rfl, ?_⟩; have n0_ := Aside0.mk (Kd.R_lower ho0 (below_size (by repeat (first | (with_reducible first | exact HB.out | apply wA | apply wN | apply wD | refine wS ?_ GE130.out) | exact HB.out)))); have n1_ := Aside0.mk (bB (g := gb130) (o := .cells #[.int .i64 a0_0, .int .i64 a0_1, .int .i64 a0_2, .slice A0_3 l0_3.length c0_3, .slice A0_4 l0_4.length c0_4] 28 (0, 0)) (by (with_reducible repeat (first | refine bN ?_ _ | refine bD ?_ | refine bA ?_ _)); exact BK130.out) hb); have n2_ := Aside0.mk (below_step (by repeat (first | (with_reducible first | exact HB.out | apply wA | apply wN | apply wD | refine wS ?_ GE130.out) | exact HB.out)) hb); clear BK130; clear HB; have HO133 := n0_; have BK130 := n1_; have HB := n2_; clear n0_ n1_ n2_; (try clear hb); (try clear hb2); (try clear hk); (try clear hi); (try clear ho0); obtain ⟨Ao6, co6, eo6⟩ := Kd.R_slice HO133.out; subst eo6))
 go_ret
 exact ⟨by first | rfl | exact congrArg (fun b_ => Ending.returned (Value.bool b_)) HRET.out | (rw [HRET.out]) | (simp [errW_none, errW_some] <;> rfl) | (simp [*, errW_none, errW_some] <;> rfl), by repeat (first | (with_reducible first | exact HB.out | apply wA | apply wN | apply wD | refine wS ?_ GE130.out) | exact HB.out)⟩
end Go.Proofs.Ytkigiehkckjlhaa.PSums
