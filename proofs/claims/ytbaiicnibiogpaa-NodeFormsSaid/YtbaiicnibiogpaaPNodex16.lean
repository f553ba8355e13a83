/- The Go functions that these laws reach, each as a Lean function with the same answers (a law itself where it answers true), and the proof that the code comes to them; conditions: those of each theorem. Laid by a program of this session over the print. -/
import Derived.Test.YtbaiicnibiogpaaPNodex0
import Derived.Test.YtbaiicnibiogpaaPNodex15
namespace Go.Proofs.Ytbaiicnibiogpaa.PNode
open Go.RowKit Go.Proofs.YtbaiicnibiogpaaW.PrintWords Go.Proofs.YtbaiicnibiogpaaW.PrintLast Go.Proofs.YtbaiicnibiogpaaW.PrintMore
attribute [local go_sem] max2_int min2_int max_two min_two max_three min_three max_four min_four   -- for this text's walks alone
set_option linter.unusedVariables false
set_option linter.unusedSimpArgs false
open Go.Proofs.YtbaiicnibiogpaaW.PrintWords renaming blk_drewN → bN, blk_drew → bD, blk_alloc → bA, below_set → wS, below_alloc → wA, pw_below_drewN → wN, below_drew1 → wD, blk_below → bB, blk_far → bF, blk_cell → bC, blk_frozen → bZ
open List renaming setIfInBounds_toArray → lT, set_cons_zero → l0_, set_cons_succ → lS

/-! ### potsherdref3_PageOf: function 44 -/
def potsherdref3_PageOf.f (a0 : Int) (a1 : Int) : Option (Int) := if a0 < 0 then (some 0) else (if a0 ≥ 12 then (some 0) else (if a1 < 0 then (some 0) else (if a1 ≥ 5 then (some 0) else (some (wrap64 ((wrap64 (1 + (wrap64 (a0 * 5)))) + a1))))))
set_option maxHeartbeats 8000000 in
set_option maxRecDepth 100000 in
theorem potsherdref3_PageOf.calls (a0 : Int) (a1 : Int) (r : Int) (w : World) (h : potsherdref3_PageOf.f a0 a1 = some r) :
 Calls Try.prog 44 #[.int .i64 a0, .int .i64 a1] w fun e w' => e = .returned (.int .i64 r) ∧ Drawn0 w w' := by
 have H : (if a0 < 0 then (some 0) else (if a0 ≥ 12 then (some 0) else (if a1 < 0 then (some 0) else (if a1 ≥ 5 then (some 0) else (some (wrap64 ((wrap64 (1 + (wrap64 (a0 * 5)))) + a1))))))) = some r := h; clear h
 by_cases c3 : a0 < 0
 ·
  rw [if_pos c3] at H; have c3b0 : decide (a0 < 0) = true := decide_eq_true c3; clear c3; obtain rfl := Option.some.inj H
  go_enter Try.func44, Try.ntmps44
  go_wp2
  go_ret
  exact ⟨by first | rfl | (simp; done) | (simp [*]; done), by repeat (first | exact Drawn0.refl _ | apply Drawn0.step)⟩
 ·
  rw [if_neg c3] at H; have c3b0 : decide (a0 < 0) = false := decide_eq_false c3; clear c3
  by_cases c4 : a0 ≥ 12
  ·
   rw [if_pos c4] at H; have c4b0 : decide (12 ≤ a0) = true := decide_eq_true c4; clear c4; obtain rfl := Option.some.inj H
   go_enter Try.func44, Try.ntmps44
   go_wp2
   go_ret
   exact ⟨by first | rfl | (simp; done) | (simp [*]; done), by repeat (first | exact Drawn0.refl _ | apply Drawn0.step)⟩
  ·
   rw [if_neg c4] at H; have c4b0 : decide (12 ≤ a0) = false := decide_eq_false c4; clear c4
   by_cases c5 : a1 < 0
   ·
    rw [if_pos c5] at H; have c5b0 : decide (a1 < 0) = true := decide_eq_true c5; clear c5; obtain rfl := Option.some.inj H
    go_enter Try.func44, Try.ntmps44
    go_wp2
    go_ret
    exact ⟨by first | rfl | (simp; done) | (simp [*]; done), by repeat (first | exact Drawn0.refl _ | apply Drawn0.step)⟩
   ·
    rw [if_neg c5] at H; have c5b0 : decide (a1 < 0) = false := decide_eq_false c5; clear c5
    by_cases c6 : a1 ≥ 5
    ·
     rw [if_pos c6] at H; have c6b0 : decide (5 ≤ a1) = true := decide_eq_true c6; clear c6; obtain rfl := Option.some.inj H
     go_enter Try.func44, Try.ntmps44
     go_wp2
     go_ret
     exact ⟨by first | rfl | (simp; done) | (simp [*]; done), by repeat (first | exact Drawn0.refl _ | apply Drawn0.step)⟩
    ·
     rw [if_neg c6] at H; have c6b0 : decide (5 ≤ a1) = false := decide_eq_false c6; clear c6; obtain rfl := Option.some.inj H
     go_enter Try.func44, Try.ntmps44
     go_wp2
     go_ret
     exact ⟨by first | rfl | (simp; done) | (simp [*]; done), by repeat (first | exact Drawn0.refl _ | apply Drawn0.step)⟩

/-! ### potsherdref12_NodeRefs: function 28 -/
mutual
def potsherdref12_NodeRefs.j0 : Nat → Int → List (S48) → Bool → Int → Int → Int → List Int → List (S38) → Option ((List (S48)))
 | 0, _, _, _, _, _, _, _, _ => none
 | k + 1, x0, x5, x23, x188000, x188001, x188002, x188003, x188004 => if x23 = true then (some ([] : List (S48))) else (potsherdref12_NodeRefs.l0 k x0 x5 x188003 (x188003.length : Int) 0)
def potsherdref12_NodeRefs.l0 : Nat → Int → List (S48) → List Int → Int → Int → Option ((List (S48)))
 | 0, _, _, _, _, _ => none
 | k + 1, x0, x5, x25, x26, x27 => if x27 < x26 then (if 0 ≤ x27 then (if x27 < (x25.length : Int) then (if (rd x25 x27) = 0 then (potsherdref12_NodeRefs.l0 k x0 x5 x25 x26 (wrap64 (x27 + 1))) else ((potsherdref3_PageOf.f x0 x27).bind fun t190 => (if x5.length < 8796093022208 then (potsherdref12_NodeRefs.l0 k x0 (x5 ++ [(⟨t190, rd x25 x27⟩ : S48)]) x25 x26 (wrap64 (x27 + 1))) else (none)))) else (none)) else (none)) else (some x5)
end
def potsherdref12_NodeRefs.f (k : Nat) (a0 : Int) (a1_0 : Int) (a1_1 : Int) (a1_2 : Int) (l1_3 : List Int) (l1_4 : List (S38)) : Option ((List (S48))) := if a1_0 = 1 then ((potsherdref12_MayNode.f k a1_0 a1_1 a1_2 l1_3 l1_4).bind fun t188 => (if t188 = true then (if a0 < 0 then (potsherdref12_NodeRefs.j0 k a0 ([] : List (S48)) true a1_0 a1_1 a1_2 l1_3 l1_4) else (potsherdref12_NodeRefs.j0 k a0 ([] : List (S48)) (decide (a0 ≥ 12)) a1_0 a1_1 a1_2 l1_3 l1_4)) else (potsherdref12_NodeRefs.j0 k a0 ([] : List (S48)) true a1_0 a1_1 a1_2 l1_3 l1_4))) else (potsherdref12_NodeRefs.j0 k a0 ([] : List (S48)) true a1_0 a1_1 a1_2 l1_3 l1_4)
theorem potsherdref12_NodeRefs.mono_l : ∀ k, (∀ y0 y1 y2 y3 y4 y5 y6 y7, LeO (potsherdref12_NodeRefs.j0 k y0 y1 y2 y3 y4 y5 y6 y7) (potsherdref12_NodeRefs.j0 (k + 1) y0 y1 y2 y3 y4 y5 y6 y7)) ∧ (∀ y0 y1 y2 y3 y4, LeO (potsherdref12_NodeRefs.l0 k y0 y1 y2 y3 y4) (potsherdref12_NodeRefs.l0 (k + 1) y0 y1 y2 y3 y4))
 | 0 => ⟨fun _ _ _ _ _ _ _ _ r h => by simp [potsherdref12_NodeRefs.j0] at h, fun _ _ _ _ _ r h => by simp [potsherdref12_NodeRefs.l0] at h⟩
 | k + 1 => by
  obtain ⟨ih0, ih1⟩ := potsherdref12_NodeRefs.mono_l k; refine ⟨?_, ?_⟩
  ·
   intro y0 y1 y2 y3 y4 y5 y6 y7
   unfold potsherdref12_NodeRefs.j0
   repeat' first
   | (with_reducible exact ih0 _ _ _ _ _ _ _ _)
   | (with_reducible exact ih1 _ _ _ _ _)
   | (with_reducible exact potsherdref12_MayNode.mono _ _ _ _ _ _)
   | (with_reducible exact LeO.refl _)
   | (with_reducible exact LeO.none _)
   | (with_reducible refine LeO.ite ?_ ?_)
   | (with_reducible refine LeO.bind ?_ (fun _ => ?_))
   | exact ih0 _ _ _ _ _ _ _ _
   | exact ih1 _ _ _ _ _
   | exact potsherdref12_MayNode.mono _ _ _ _ _ _
   | exact LeO.none _
   | refine LeO.ite ?_ ?_
   | refine LeO.bind ?_ (fun _ => ?_)
  ·
   intro y0 y1 y2 y3 y4
   unfold potsherdref12_NodeRefs.l0
   repeat' first
   | (with_reducible exact ih0 _ _ _ _ _ _ _ _)
   | (with_reducible exact ih1 _ _ _ _ _)
   | (with_reducible exact potsherdref12_MayNode.mono _ _ _ _ _ _)
   | (with_reducible exact LeO.refl _)
   | (with_reducible exact LeO.none _)
   | (with_reducible refine LeO.ite ?_ ?_)
   | (with_reducible refine LeO.bind ?_ (fun _ => ?_))
   | exact ih0 _ _ _ _ _ _ _ _
   | exact ih1 _ _ _ _ _
   | exact potsherdref12_MayNode.mono _ _ _ _ _ _
   | exact LeO.none _
   | refine LeO.ite ?_ ?_
   | refine LeO.bind ?_ (fun _ => ?_)
theorem potsherdref12_NodeRefs.mono : ∀ a0 a1 a2 a3 a4 a5 k, LeO (potsherdref12_NodeRefs.f k a0 a1 a2 a3 a4 a5) (potsherdref12_NodeRefs.f (k + 1) a0 a1 a2 a3 a4 a5) := by
 intro a0 a1 a2 a3 a4 a5 k; obtain ⟨ih0, ih1⟩ := potsherdref12_NodeRefs.mono_l k
 unfold potsherdref12_NodeRefs.f
 repeat' first
  | (with_reducible exact ih0 _ _ _ _ _ _ _ _)
  | (with_reducible exact ih1 _ _ _ _ _)
  | (with_reducible exact potsherdref12_MayNode.mono _ _ _ _ _ _)
  | (with_reducible exact LeO.refl _)
  | (with_reducible exact LeO.none _)
  | (with_reducible refine LeO.ite ?_ ?_)
  | (with_reducible refine LeO.bind ?_ (fun _ => ?_))
  | exact ih0 _ _ _ _ _ _ _ _
  | exact ih1 _ _ _ _ _
  | exact potsherdref12_MayNode.mono _ _ _ _ _ _
  | exact LeO.none _
  | refine LeO.ite ?_ ?_
  | refine LeO.bind ?_ (fun _ => ?_)
set_option maxHeartbeats 8000000 in
set_option maxRecDepth 100000 in
theorem potsherdref12_NodeRefs.calls (k : Nat) (a0 : Int) (a1_0 : Int) (a1_1 : Int) (a1_2 : Int) (A1_3 : Option Addr) (c1_3 : Nat) (l1_3 : List Int) (A1_4 : Option Addr) (c1_4 : Nat) (l1_4 : List (S38)) (r : List (S48)) (w : World) (hr1_3 : Kd.C (Kd.int .i64) w A1_3 l1_3.length l1_3) (hc1_3 : l1_3.length ≤ c1_3) (hr1_4 : Kd.C k38 w A1_4 l1_4.length l1_4) (hc1_4 : l1_4.length ≤ c1_4) (h : potsherdref12_NodeRefs.f k a0 a1_0 a1_1 a1_2 l1_3 l1_4 = some r) :
 Calls Try.prog 28 #[.int .i64 a0, .agg #[.int .i64 a1_0, .int .i64 a1_1, .int .i64 a1_2, .slice A1_3 l1_3.length c1_3, .slice A1_4 l1_4.length c1_4]] w fun e w' => ∃ v0_ : Value, e = .returned (v0_) ∧ Kd.R k48 48 w' w.heap.size (fun _ => True) v0_ r ∧ Below w.heap.size w w' := by
 have hu43 := Try.underlying43; have hu48 := Try.underlying48; have HR1_3 := Aside0.mk hr1_3; have HC1_3 := Aside0.mk hc1_3; clear hr1_3 hc1_3; have HR1_4 := Aside0.mk hr1_4; have HC1_4 := Aside0.mk hc1_4; clear hr1_4 hc1_4; have HB := Aside0.mk (Below.refl w.heap.size w); have H : (if a1_0 = 1 then ((potsherdref12_MayNode.f k a1_0 a1_1 a1_2 l1_3 l1_4).bind fun t188 => (if t188 = true then (if a0 < 0 then (potsherdref12_NodeRefs.j0 k a0 ([] : List (S48)) true a1_0 a1_1 a1_2 l1_3 l1_4) else (potsherdref12_NodeRefs.j0 k a0 ([] : List (S48)) (decide (a0 ≥ 12)) a1_0 a1_1 a1_2 l1_3 l1_4)) else (potsherdref12_NodeRefs.j0 k a0 ([] : List (S48)) true a1_0 a1_1 a1_2 l1_3 l1_4))) else (potsherdref12_NodeRefs.j0 k a0 ([] : List (S48)) true a1_0 a1_1 a1_2 l1_3 l1_4)) = some r := h; clear h; have HC3 := Aside0.mk H; clear H
 go_enter Try.func28, Try.ntmps28
 go_upto_region 2 with (first | ((with_reducible refine gate_dst (N := 3) rfl ?_); refine box_event ?hg (N := 3) ?hd (cs := #[.int .i64 a1_0, .int .i64 a1_1, .int .i64 a1_2, .slice A1_3 l1_3.length c1_3, .slice A1_4 l1_4.length c1_4]) (t := 43) ?hr ?_; (case hd => rfl); (case hg => rfl); (case hr => first | (go_simp; done) | (go_simp; rfl)); intro gb187 hg w4 hbox hb; have n0_ := Aside0.mk (below_step (by repeat (first | (with_reducible first | exact HB.out | apply wA | apply wN | apply wD) | exact HB.out)) hb); have n1_ := Aside0.mk (hbox); have n2_ := Aside0.mk ((by rw [hg]; exact (below_size (by repeat (first | (with_reducible first | exact HB.out | apply wA | apply wN | apply wD) | exact HB.out))) : w.heap.size ≤ gb187)); have n3_ := Aside0.mk ((by rw [hg]; exact (below_size (by repeat (first | (with_reducible first | exact HB.out | apply wA | apply wN | apply wD) | exact HB.out))) : w.heap.size ≤ gb187)); clear HB; have HB := n0_; have BK187 := n1_; have GW187 := n2_; have GE187 := n3_; clear n0_ n1_ n2_ n3_; clear hb hbox hg))
 (try simp only [Act.put, lT, l0_, lS])
 go_cut [23] (fun v23 wc => ∃ (kq : Nat) (x23_2 : Bool), v23 = .bool x23_2 ∧ Aside0 (potsherdref12_NodeRefs.j0 kq a0 ([] : List (S48)) x23_2 a1_0 a1_1 a1_2 l1_3 l1_4 = some r) ∧ Aside0 (kq ≤ k) ∧ Aside0 (Kd.R k48 48 wc w.heap.size (fun _ => True) (.slice none 0 0) ([] : List (S48))) ∧ Aside0 (wc.heap[gb187]? = some (.cells #[.int .i64 a1_0, .int .i64 a1_1, .int .i64 a1_2, (.slice A1_3 l1_3.length c1_3), (.slice A1_4 l1_4.length c1_4)] 43 (0, 0))) ∧ Aside0 (Below w.heap.size w wc))
 case first =>
  have H := HC3.out; clear HC3
  by_cases c5 : a1_0 = 1
  ·
   rw [if_pos c5] at H; have c5b0 : (a1_0 == 1) = true := beq_iff_eq.mpr c5; have c5b1 : (a1_0 != 1) = false := bne_eq_false_iff_eq.mpr c5; clear c5
   (first | rw [c5b0] | (simp only [i64_w, i32_w]; rw [c5b0]) | skip)
   replace H := Option.bind_eq_some_iff.mp H; obtain ⟨t188, A60, H⟩ := H; replace H : (if t188 = true then (if a0 < 0 then (potsherdref12_NodeRefs.j0 k a0 ([] : List (S48)) true a1_0 a1_1 a1_2 l1_3 l1_4) else (potsherdref12_NodeRefs.j0 k a0 ([] : List (S48)) (decide (a0 ≥ 12)) a1_0 a1_1 a1_2 l1_3 l1_4)) else (potsherdref12_NodeRefs.j0 k a0 ([] : List (S48)) true a1_0 a1_1 a1_2 l1_3 l1_4)) = some r := H; have A6 := Aside0.mk A60; clear A60
   by_cases c7 : t188 = true
   ·
    subst c7
    have H1 : (if a0 < 0 then (potsherdref12_NodeRefs.j0 k a0 ([] : List (S48)) true a1_0 a1_1 a1_2 l1_3 l1_4) else (potsherdref12_NodeRefs.j0 k a0 ([] : List (S48)) (decide (a0 ≥ 12)) a1_0 a1_1 a1_2 l1_3 l1_4)) = some r := by rw [if_pos rfl] at H; exact H
    clear H; have H := H1; clear H1
    by_cases c8 : a0 < 0
    ·
     rw [if_pos c8] at H; have c8b0 : decide (a0 < 0) = true := decide_eq_true c8; clear c8; have H' := Aside0.mk H; clear H; have hcz9_0 : w4.cell? ⟨gb187, 0, none⟩ = some (.int .i64 a1_0) := (bC BK187.out 0).trans rfl; have hcz9_1 : w4.cell? ⟨gb187, 1, none⟩ = some (.int .i64 a1_1) := (bC BK187.out 1).trans rfl; have hcz9_2 : w4.cell? ⟨gb187, 2, none⟩ = some (.int .i64 a1_2) := (bC BK187.out 2).trans rfl; have hcz9_3 : w4.cell? ⟨gb187, 3, none⟩ = some (.slice A1_3 l1_3.length c1_3) := (bC BK187.out 3).trans rfl; have hcz9_4 : w4.cell? ⟨gb187, 4, none⟩ = some (.slice A1_4 l1_4.length c1_4) := (bC BK187.out 4).trans rfl; have hfz9_0 := bZ BK187.out 0; have hfz9_1 := bZ BK187.out 1; have hfz9_2 := bZ BK187.out 2; have hfz9_3 := bZ BK187.out 3; have hfz9_4 := bZ BK187.out 4
     go_wp2_with (first | (go_at_call 30; (with_reducible refine (potsherdref12_MayNode.calls k a1_0 a1_1 a1_2 _ _ l1_3 _ _ l1_4 true _ ?side1 ?side2 ?side3 ?side4 A6.out).mono ?_); (case side1 => repeat (first | exact (Kd.C_below HR1_3.out HB.out) | (with_reducible refine Kd.C_alloc ?_ _) | (with_reducible refine Kd.C_drewN ?_ _) | (with_reducible refine Kd.C_drew ?_))); (case side2 => exact HC1_3.out); (case side3 => repeat (first | exact (Kd.C_below HR1_4.out HB.out) | (with_reducible refine Kd.C_alloc ?_ _) | (with_reducible refine Kd.C_drewN ?_ _) | (with_reducible refine Kd.C_drew ?_))); (case side4 => exact HC1_4.out); rintro e w10 ⟨rfl, hb⟩; have n0_ := Aside0.mk (bB (g := gb187) (o := .cells #[.int .i64 a1_0, .int .i64 a1_1, .int .i64 a1_2, .slice A1_3 l1_3.length c1_3, .slice A1_4 l1_4.length c1_4] 43 (0, 0)) (by (with_reducible repeat (first | refine bN ?_ _ | refine bD ?_ | refine bA ?_ _)); exact BK187.out) hb); have n1_ := Aside0.mk (below_step (by repeat (first | (with_reducible first | exact HB.out | apply wA | apply wN | apply wD | refine wS ?_ GE187.out) | exact HB.out)) hb); clear BK187; clear HB; have BK187 := n0_; have HB := n1_; clear n0_ n1_; (try clear hb); (try clear hb2); (try clear hk); (try clear hi)))
     go_meet
     case rel => exact ⟨_, (true), (by first | rfl | (simp; done) | (simp [*]; done)), H', ⟨by first | omega | exact Nat.le_refl _⟩, ⟨by first | exact Kd.R_nil _ _ _ _ _ | exact Kd.N_nil _ _ _ _ _ | exact Kd.V_nil _ _ _ _ _ | exact Kd.Q_nil _ _ _ _ _ | exact Kd.S_nil _ _ _ _ _⟩, ⟨by (with_reducible repeat (first | refine bN ?_ _ | refine bD ?_ | refine bA ?_ _)); exact BK187.out⟩, ⟨by repeat (first | (with_reducible first | exact HB.out | apply wA | apply wN | apply wD | refine wS ?_ GE187.out) | exact HB.out)⟩⟩
    ·
     rw [if_neg c8] at H; have c8b0 : decide (a0 < 0) = false := decide_eq_false c8; clear c8; have H' := Aside0.mk H; clear H; have hcz11_0 : w4.cell? ⟨gb187, 0, none⟩ = some (.int .i64 a1_0) := (bC BK187.out 0).trans rfl; have hcz11_1 : w4.cell? ⟨gb187, 1, none⟩ = some (.int .i64 a1_1) := (bC BK187.out 1).trans rfl; have hcz11_2 : w4.cell? ⟨gb187, 2, none⟩ = some (.int .i64 a1_2) := (bC BK187.out 2).trans rfl; have hcz11_3 : w4.cell? ⟨gb187, 3, none⟩ = some (.slice A1_3 l1_3.length c1_3) := (bC BK187.out 3).trans rfl; have hcz11_4 : w4.cell? ⟨gb187, 4, none⟩ = some (.slice A1_4 l1_4.length c1_4) := (bC BK187.out 4).trans rfl; have hfz11_0 := bZ BK187.out 0; have hfz11_1 := bZ BK187.out 1; have hfz11_2 := bZ BK187.out 2; have hfz11_3 := bZ BK187.out 3; have hfz11_4 := bZ BK187.out 4
     go_wp2_with (first | (go_at_call 30; (with_reducible refine (potsherdref12_MayNode.calls k a1_0 a1_1 a1_2 _ _ l1_3 _ _ l1_4 true _ ?side1 ?side2 ?side3 ?side4 A6.out).mono ?_); (case side1 => repeat (first | exact (Kd.C_below HR1_3.out HB.out) | (with_reducible refine Kd.C_alloc ?_ _) | (with_reducible refine Kd.C_drewN ?_ _) | (with_reducible refine Kd.C_drew ?_))); (case side2 => exact HC1_3.out); (case side3 => repeat (first | exact (Kd.C_below HR1_4.out HB.out) | (with_reducible refine Kd.C_alloc ?_ _) | (with_reducible refine Kd.C_drewN ?_ _) | (with_reducible refine Kd.C_drew ?_))); (case side4 => exact HC1_4.out); rintro e w12 ⟨rfl, hb⟩; have n0_ := Aside0.mk (bB (g := gb187) (o := .cells #[.int .i64 a1_0, .int .i64 a1_1, .int .i64 a1_2, .slice A1_3 l1_3.length c1_3, .slice A1_4 l1_4.length c1_4] 43 (0, 0)) (by (with_reducible repeat (first | refine bN ?_ _ | refine bD ?_ | refine bA ?_ _)); exact BK187.out) hb); have n1_ := Aside0.mk (below_step (by repeat (first | (with_reducible first | exact HB.out | apply wA | apply wN | apply wD | refine wS ?_ GE187.out) | exact HB.out)) hb); clear BK187; clear HB; have BK187 := n0_; have HB := n1_; clear n0_ n1_; (try clear hb); (try clear hb2); (try clear hk); (try clear hi)))
     go_meet
     case rel => exact ⟨_, (decide (a0 ≥ 12)), (by first | rfl | (simp; done) | (simp [*]; done)), H', ⟨by first | omega | exact Nat.le_refl _⟩, ⟨by first | exact Kd.R_nil _ _ _ _ _ | exact Kd.N_nil _ _ _ _ _ | exact Kd.V_nil _ _ _ _ _ | exact Kd.Q_nil _ _ _ _ _ | exact Kd.S_nil _ _ _ _ _⟩, ⟨by (with_reducible repeat (first | refine bN ?_ _ | refine bD ?_ | refine bA ?_ _)); exact BK187.out⟩, ⟨by repeat (first | (with_reducible first | exact HB.out | apply wA | apply wN | apply wD | refine wS ?_ GE187.out) | exact HB.out)⟩⟩
   ·
    replace c7 := Bool.eq_false_iff.mpr c7; subst c7
    have H1 : (potsherdref12_NodeRefs.j0 k a0 ([] : List (S48)) true a1_0 a1_1 a1_2 l1_3 l1_4) = some r := by rw [if_neg (show ¬ (false = true) by decide)] at H; exact H
    clear H; have H := H1; clear H1; have H' := Aside0.mk H; clear H; have hcz13_0 : w4.cell? ⟨gb187, 0, none⟩ = some (.int .i64 a1_0) := (bC BK187.out 0).trans rfl; have hcz13_1 : w4.cell? ⟨gb187, 1, none⟩ = some (.int .i64 a1_1) := (bC BK187.out 1).trans rfl; have hcz13_2 : w4.cell? ⟨gb187, 2, none⟩ = some (.int .i64 a1_2) := (bC BK187.out 2).trans rfl; have hcz13_3 : w4.cell? ⟨gb187, 3, none⟩ = some (.slice A1_3 l1_3.length c1_3) := (bC BK187.out 3).trans rfl; have hcz13_4 : w4.cell? ⟨gb187, 4, none⟩ = some (.slice A1_4 l1_4.length c1_4) := (bC BK187.out 4).trans rfl; have hfz13_0 := bZ BK187.out 0; have hfz13_1 := bZ BK187.out 1; have hfz13_2 := bZ BK187.out 2; have hfz13_3 := bZ BK187.out 3; have hfz13_4 := bZ BK187.out 4
    go_wp2_with (first | (go_at_call 30; (with_reducible refine (potsherdref12_MayNode.calls k a1_0 a1_1 a1_2 _ _ l1_3 _ _ l1_4 false _ ?side1 ?side2 ?side3 ?side4 A6.out).mono ?_); (case side1 => repeat (first | exact (Kd.C_below HR1_3.out HB.out) | (with_reducible refine Kd.C_alloc ?_ _) | (with_reducible refine Kd.C_drewN ?_ _) | (with_reducible refine Kd.C_drew ?_))); (case side2 => exact HC1_3.out); (case side3 => repeat (first | exact (Kd.C_below HR1_4.out HB.out) | (with_reducible refine Kd.C_alloc ?_ _) | (with_reducible refine Kd.C_drewN ?_ _) | (with_reducible refine Kd.C_drew ?_))); (case side4 => exact HC1_4.out); rintro e w14 ⟨rfl, hb⟩; have n0_ := Aside0.mk (bB (g := gb187) (o := .cells #[.int .i64 a1_0, .int .i64 a1_1, .int .i64 a1_2, .slice A1_3 l1_3.length c1_3, .slice A1_4 l1_4.length c1_4] 43 (0, 0)) (by (with_reducible repeat (first | refine bN ?_ _ | refine bD ?_ | refine bA ?_ _)); exact BK187.out) hb); have n1_ := Aside0.mk (below_step (by repeat (first | (with_reducible first | exact HB.out | apply wA | apply wN | apply wD | refine wS ?_ GE187.out) | exact HB.out)) hb); clear BK187; clear HB; have BK187 := n0_; have HB := n1_; clear n0_ n1_; (try clear hb); (try clear hb2); (try clear hk); (try clear hi)))
    go_meet
    case rel => exact ⟨_, (true), (by first | rfl | (simp; done) | (simp [*]; done)), H', ⟨by first | omega | exact Nat.le_refl _⟩, ⟨by first | exact Kd.R_nil _ _ _ _ _ | exact Kd.N_nil _ _ _ _ _ | exact Kd.V_nil _ _ _ _ _ | exact Kd.Q_nil _ _ _ _ _ | exact Kd.S_nil _ _ _ _ _⟩, ⟨by (with_reducible repeat (first | refine bN ?_ _ | refine bD ?_ | refine bA ?_ _)); exact BK187.out⟩, ⟨by repeat (first | (with_reducible first | exact HB.out | apply wA | apply wN | apply wD | refine wS ?_ GE187.out) | exact HB.out)⟩⟩
  ·
   rw [if_neg c5] at H; have c5b0 : (a1_0 == 1) = false := beq_eq_false_iff_ne.mpr c5; have c5b1 : (a1_0 != 1) = true := bne_iff_ne.mpr c5
   (first | rw [c5b0] | (simp only [i64_w, i32_w]; rw [c5b0]) | skip)
   have H' := Aside0.mk H; clear H; have hcz15_0 : w4.cell? ⟨gb187, 0, none⟩ = some (.int .i64 a1_0) := (bC BK187.out 0).trans rfl; have hcz15_1 : w4.cell? ⟨gb187, 1, none⟩ = some (.int .i64 a1_1) := (bC BK187.out 1).trans rfl; have hcz15_2 : w4.cell? ⟨gb187, 2, none⟩ = some (.int .i64 a1_2) := (bC BK187.out 2).trans rfl; have hcz15_3 : w4.cell? ⟨gb187, 3, none⟩ = some (.slice A1_3 l1_3.length c1_3) := (bC BK187.out 3).trans rfl; have hcz15_4 : w4.cell? ⟨gb187, 4, none⟩ = some (.slice A1_4 l1_4.length c1_4) := (bC BK187.out 4).trans rfl; have hfz15_0 := bZ BK187.out 0; have hfz15_1 := bZ BK187.out 1; have hfz15_2 := bZ BK187.out 2; have hfz15_3 := bZ BK187.out 3; have hfz15_4 := bZ BK187.out 4
   go_wp2
   go_meet
   case rel => exact ⟨_, (true), (by first | rfl | (simp; done) | (simp [*]; done)), H', ⟨by first | omega | exact Nat.le_refl _⟩, ⟨by first | exact Kd.R_nil _ _ _ _ _ | exact Kd.N_nil _ _ _ _ _ | exact Kd.V_nil _ _ _ _ _ | exact Kd.Q_nil _ _ _ _ _ | exact Kd.S_nil _ _ _ _ _⟩, ⟨by (with_reducible repeat (first | refine bN ?_ _ | refine bD ?_ | refine bA ?_ _)); exact BK187.out⟩, ⟨by repeat (first | (with_reducible first | exact HB.out | apply wA | apply wN | apply wD | refine wS ?_ GE187.out) | exact HB.out)⟩⟩
 case rest =>
  clear HC3
  try clear c1
  try clear c2
  try clear p2
  try clear c5
  try clear c5b0
  try clear c5b1
  try clear c7
  try clear c8
  try clear c8b0
  try clear hcz11_0
  try clear hcz11_1
  try clear hcz11_2
  try clear hcz11_3
  try clear hcz11_4
  try clear hcz13_0
  try clear hcz13_1
  try clear hcz13_2
  try clear hcz13_3
  try clear hcz13_4
  try clear hcz15_0
  try clear hcz15_1
  try clear hcz15_2
  try clear hcz15_3
  try clear hcz15_4
  try clear hcz9_0
  try clear hcz9_1
  try clear hcz9_2
  try clear hcz9_3
  try clear hcz9_4
  try clear hfz11_0
  try clear hfz11_1
  try clear hfz11_2
  try clear hfz11_3
  try clear hfz11_4
  try clear hfz13_0
  try clear hfz13_1
  try clear hfz13_2
  try clear hfz13_3
  try clear hfz13_4
  try clear hfz15_0
  try clear hfz15_1
  try clear hfz15_2
  try clear hfz15_3
  try clear hfz15_4
  try clear hfz9_0
  try clear hfz9_1
  try clear hfz9_2
  try clear hfz9_3
  try clear hfz9_4
  obtain ⟨kq, x23_2, rfl, HA, HJ2, HO_5, BK187, HB⟩ := hcut
  cases kq with
  | zero => exact absurd HA.out (by simp [potsherdref12_NodeRefs.j0])
  | succ kj2 =>
   have H := HA.out; clear HA; simp only [potsherdref12_NodeRefs.j0] at H
   by_cases c16 : x23_2 = true
   ·
    subst c16
    have H1 : (some ([] : List (S48))) = some r := by rw [if_pos rfl] at H; exact H
    clear H; have H := H1; clear H1; obtain rfl := Option.some.inj H
    go_wp2
    go_ret
    exact ⟨_, by first | rfl | exact congrArg (fun b_ => Ending.returned (Value.bool b_)) HRET.out | (rw [HRET.out]) | (simp [errW_none, errW_some] <;> rfl) | (simp [*, errW_none, errW_some] <;> rfl), by first | exact Kd.R_nil _ _ _ _ _ | exact Kd.N_nil _ _ _ _ _ | exact Kd.V_nil _ _ _ _ _ | exact Kd.Q_nil _ _ _ _ _ | exact Kd.S_nil _ _ _ _ _, by repeat (first | (with_reducible first | exact HB.out | apply wA | apply wN | apply wD | refine wS ?_ GE187.out) | exact HB.out)⟩
   ·
    replace c16 := Bool.eq_false_iff.mpr c16; subst c16
    have H1 : (potsherdref12_NodeRefs.l0 kj2 a0 ([] : List (S48)) l1_3 (l1_3.length : Int) 0) = some r := by rw [if_neg (show ¬ (false = true) by decide)] at H; exact H
    clear H; have H := H1; clear H1; have H' := Aside0.mk H; clear H; have hcz17_0 : wc.cell? ⟨gb187, 0, none⟩ = some (.int .i64 a1_0) := (bC BK187.out 0).trans rfl; have hcz17_1 : wc.cell? ⟨gb187, 1, none⟩ = some (.int .i64 a1_1) := (bC BK187.out 1).trans rfl; have hcz17_2 : wc.cell? ⟨gb187, 2, none⟩ = some (.int .i64 a1_2) := (bC BK187.out 2).trans rfl; have hcz17_3 : wc.cell? ⟨gb187, 3, none⟩ = some (.slice A1_3 l1_3.length c1_3) := (bC BK187.out 3).trans rfl; have hcz17_4 : wc.cell? ⟨gb187, 4, none⟩ = some (.slice A1_4 l1_4.length c1_4) := (bC BK187.out 4).trans rfl; have hfz17_0 := bZ BK187.out 0; have hfz17_1 := bZ BK187.out 1; have hfz17_2 := bZ BK187.out 2; have hfz17_3 := bZ BK187.out 3; have hfz17_4 := bZ BK187.out 4
    go_wp2
    go_loopg [5, 27] kj2 (fun kq v5 v27 w' => ∃ (x5_2 : List (S48)) (x27_2 : Int), v27 = .int .i64 x27_2 ∧ Aside0 (potsherdref12_NodeRefs.l0 kq a0 x5_2 l1_3 (l1_3.length : Int) x27_2 = some r) ∧ Aside0 (kq ≤ kj2) ∧ Aside0 (Kd.R k48 48 w' w.heap.size (fun _ => True) v5 x5_2) ∧ Aside0 (w'.heap[gb187]? = some (.cells #[.int .i64 a1_0, .int .i64 a1_1, .int .i64 a1_2, (.slice A1_3 l1_3.length c1_3), (.slice A1_4 l1_4.length c1_4)] 43 (0, 0))) ∧ Aside0 (Below w.heap.size w w'))
    case atStart => exact ⟨(([] : List (S48))), (0), (by first | rfl | (simp; done) | (simp [*]; done)), H', ⟨Nat.le_refl _⟩, ⟨by (with_reducible repeat (first | apply Kd.R_alloc | apply Kd.R_drewN | apply Kd.R_drew)); exact HO_5.out⟩, ⟨by (with_reducible repeat (first | refine bN ?_ _ | refine bD ?_ | refine bA ?_ _)); exact BK187.out⟩, ⟨by repeat (first | (with_reducible first | exact HB.out | apply wA | apply wN | apply wD | refine wS ?_ GE187.out) | exact HB.out)⟩⟩
    case round =>
     clear H'
     try clear c1
     try clear c2
     try clear p2
     try clear c5
     try clear c5b0
     try clear c5b1
     try clear c7
     try clear c8
     try clear c8b0
     try clear c16
     try clear hcz11_0
     try clear hcz11_1
     try clear hcz11_2
     try clear hcz11_3
     try clear hcz11_4
     try clear hcz13_0
     try clear hcz13_1
     try clear hcz13_2
     try clear hcz13_3
     try clear hcz13_4
     try clear hcz15_0
     try clear hcz15_1
     try clear hcz15_2
     try clear hcz15_3
     try clear hcz15_4
     try clear hcz17_0
     try clear hcz17_1
     try clear hcz17_2
     try clear hcz17_3
     try clear hcz17_4
     try clear hcz9_0
     try clear hcz9_1
     try clear hcz9_2
     try clear hcz9_3
     try clear hcz9_4
     try clear hfz11_0
     try clear hfz11_1
     try clear hfz11_2
     try clear hfz11_3
     try clear hfz11_4
     try clear hfz13_0
     try clear hfz13_1
     try clear hfz13_2
     try clear hfz13_3
     try clear hfz13_4
     try clear hfz15_0
     try clear hfz15_1
     try clear hfz15_2
     try clear hfz15_3
     try clear hfz15_4
     try clear hfz17_0
     try clear hfz17_1
     try clear hfz17_2
     try clear hfz17_3
     try clear hfz17_4
     try clear hfz9_0
     try clear hfz9_1
     try clear hfz9_2
     try clear hfz9_3
     try clear hfz9_4
     try clear p2
     obtain ⟨x5_2, x27_2, rfl, HA, HK2, HO_5, BK187, HB⟩ := hrel
     cases gk with
     | zero => exact absurd HA.out (by simp [potsherdref12_NodeRefs.l0])
     | succ k2 =>
      have H := HA.out; clear HA; simp only [potsherdref12_NodeRefs.l0] at H
      by_cases c18 : x27_2 < (l1_3.length : Int)
      ·
       rw [if_pos c18] at H; have c18b0 : decide (x27_2 < (l1_3.length : Int)) = true := decide_eq_true c18; clear c18
       by_cases c19 : 0 ≤ x27_2
       ·
        rw [if_pos c19] at H; have c19b0 : decide (0 ≤ x27_2) = true := decide_eq_true c19; clear c19
        by_cases c20 : x27_2 < (l1_3.length : Int)
        ·
         rw [if_pos c20] at H; have c20b0 : decide (x27_2 < (l1_3.length : Int)) = true := decide_eq_true c20; clear c20
         by_cases c21 : (rd l1_3 x27_2) = 0
         ·
          rw [if_pos c21] at H; have c21b0 : ((rd l1_3 x27_2) == 0) = true := beq_iff_eq.mpr c21; have c21b1 : ((rd l1_3 x27_2) != 0) = false := bne_eq_false_iff_eq.mpr c21; clear c21; have H' := Aside0.mk H; clear H; have p189 : 0 ≤ (x27_2 : Int) := of_decide_eq_true (by first | (with_reducible assumption) | assumption); have q189 : x27_2 < (l1_3.length : Int) := of_decide_eq_true (by first | (with_reducible assumption) | assumption); obtain ⟨ad189, e189, hx189_0⟩ := Kd.at_int HR1_3.out x27_2 p189 q189
          cases e189
          replace hx189_0 := (HB.out.cell (World.block_lt_of_cell? w _ hx189_0)).trans hx189_0; replace p189 := eq_true p189; replace q189 := eq_true q189
          go_wp2
          go_roundg k2
          case measure => have := HJ2.out; have := HK2.out; omega
          case rel => exact ⟨(x5_2), (wrap64 (x27_2 + 1)), (by first | rfl | (simp; done) | (simp [*]; done)), H', ⟨by have := HJ2.out; have := HK2.out; omega⟩, ⟨by (with_reducible repeat (first | apply Kd.R_alloc | apply Kd.R_drewN | apply Kd.R_drew)); exact HO_5.out⟩, ⟨by (with_reducible repeat (first | refine bN ?_ _ | refine bD ?_ | refine bA ?_ _)); exact BK187.out⟩, ⟨by repeat (first | (with_reducible first | exact HB.out | apply wA | apply wN | apply wD | refine wS ?_ GE187.out) | exact HB.out)⟩⟩
         ·
          rw [if_neg c21] at H; have c21b0 : ((rd l1_3 x27_2) == 0) = false := beq_eq_false_iff_ne.mpr c21; have c21b1 : ((rd l1_3 x27_2) != 0) = true := bne_iff_ne.mpr c21; replace H := Option.bind_eq_some_iff.mp H; obtain ⟨t190, A220, H⟩ := H; replace H : (if x5_2.length < 8796093022208 then (potsherdref12_NodeRefs.l0 k2 a0 (x5_2 ++ [(⟨t190, rd l1_3 x27_2⟩ : S48)]) l1_3 (l1_3.length : Int) (wrap64 (x27_2 + 1))) else (none)) = some r := H; have A22 := Aside0.mk A220; clear A220
          by_cases c23 : x5_2.length < 8796093022208
          ·
           rw [if_pos c23] at H; have LMc23 := Aside0.mk c23; clear c23; obtain ⟨y191, hy191⟩ : ∃ y_ : List (S48), y_ = (x5_2 ++ [(⟨t190, rd l1_3 x27_2⟩ : S48)]) := ⟨_, rfl⟩
           replace H : (potsherdref12_NodeRefs.l0 k2 a0 y191 l1_3 (l1_3.length : Int) (wrap64 (x27_2 + 1))) = some r := by first | (rw [hy191]; with_reducible exact H) | (have H2_ := (Option.bind_some _ _).symm.trans H; rw [hy191]; with_reducible exact H2_) | (have H2_ := (Option.bind_some _ _).symm.trans H; with_reducible exact H2_) | with_reducible exact H | (rw [hy191]; exact H) | exact H
           have Ny191 := Aside0.mk hy191; clear hy191; have H' := Aside0.mk H; clear H; have p189 : 0 ≤ (x27_2 : Int) := of_decide_eq_true (by first | (with_reducible assumption) | assumption); have q189 : x27_2 < (l1_3.length : Int) := of_decide_eq_true (by first | (with_reducible assumption) | assumption); obtain ⟨ad189, e189, hx189_0⟩ := Kd.at_int HR1_3.out x27_2 p189 q189
           cases e189
           replace hx189_0 := (HB.out.cell (World.block_lt_of_cell? w _ hx189_0)).trans hx189_0; replace p189 := eq_true p189; replace q189 := eq_true q189
           go_wp2_with (first | ((with_reducible refine gate_callee (f := 44) rfl ?_); refine goesL_ (some 37) rfl rfl Try.func44 (by kernel_rfl) rfl #[.int .i64 a0, .int .i64 x27_2] rfl (by (try simp only [List.map_toArray, List.map_cons, List.map_nil]); first | done | rfl | (simp only [List.length_drop, List.length_take]; rfl)) ?_; (with_reducible refine (potsherdref3_PageOf.calls a0 x27_2 t190 _ A22.out).mono ?_); rintro e w' ⟨rfl, ⟨nd, rfl⟩⟩; refine ⟨_, rfl, ?_⟩) | ((with_reducible refine gate_builtin (b := .append) (xs := #[.tmp 34, .tmp 40]) rfl ?_); at_builtin; refine Kd.R_append k48 (w0 := w) w.heap.size rfl (.tmp 34) (.tmp 40) 45 48 (.agg #[(.int .i64 0), (.int .i64 0)]) 16 rfl Try.underlying45 info48 rfl (by decide) (by omega) u5 x5_2 (⟨t190, rd l1_3 x27_2⟩ : S48) [.int .i64 t190, .int .i64 (rd l1_3 x27_2)] (fun _ => True) (fun _ => False) rfl rfl ?aP (fun _ hk => hk.elim) ?aF ?aO ?aB ?aS ?aL ?_; (case aP => exact k48_mkM _ _ _ (⟨t190, rd l1_3 x27_2⟩ : S48)); (case aB => exact (by repeat (first | (with_reducible first | exact HB.out | apply wA | apply wN | apply wD | refine wS ?_ GE187.out) | exact HB.out))); (case aF => exact (fun _ _ => trivial)); (case aO => exact (by (with_reducible repeat (first | apply Kd.R_alloc | apply Kd.R_drewN | apply Kd.R_drew)); exact HO_5.out)); (case aS => exact (below_size (by repeat (first | (with_reducible first | exact HB.out | apply wA | apply wN | apply wD | refine wS ?_ GE187.out) | exact HB.out)))); (case aL => have := LMc23.out; omega); intro v192 w24 ho hb hg hat; rw [← Ny191.out] at ho; have n0_ := Aside0.mk (blk_grown (g := gb187) (o := .cells #[.int .i64 a1_0, .int .i64 a1_1, .int .i64 a1_2, .slice (some ad189) l1_3.length c1_3, .slice A1_4 l1_4.length c1_4] 43 (0, 0)) (by (with_reducible repeat (first | refine bN ?_ _ | refine bD ?_ | refine bA ?_ _)); exact BK187.out) hg (Kd.R_ne HO_5.out BK187.out (by decide))); have n1_ := Aside0.mk (hb); have n2_ := Aside0.mk (ho); clear BK187; clear HB; clear HO_5; have BK187 := n0_; have HB := n1_; have HO193 := n2_; clear n0_ n1_ n2_; clear ho hb hg hat))
           go_roundg k2
           case measure => have := HJ2.out; have := HK2.out; omega
           case rel => exact ⟨(y191), (wrap64 (x27_2 + 1)), (by first | rfl | (simp; done) | (simp [*]; done)), H', ⟨by have := HJ2.out; have := HK2.out; omega⟩, ⟨by (with_reducible repeat (first | apply Kd.R_alloc | apply Kd.R_drewN | apply Kd.R_drew)); exact HO193.out⟩, ⟨by (with_reducible repeat (first | refine bN ?_ _ | refine bD ?_ | refine bA ?_ _)); exact BK187.out⟩, ⟨by repeat (first | (with_reducible first | exact HB.out | apply wA | apply wN | apply wD | refine wS ?_ GE187.out) | exact HB.out)⟩⟩
          ·
           rw [if_neg c23] at H; exact absurd H (by simp)
        ·
         rw [if_neg c20] at H; exact absurd H (by simp)
       ·
        rw [if_neg c19] at H; exact absurd H (by simp)
      ·
       rw [if_neg c18] at H; have c18b0 : decide (x27_2 < (l1_3.length : Int)) = false := decide_eq_false c18; clear c18; obtain rfl := Option.some.inj H
       go_wp2
       go_ret
       exact ⟨_, by first | rfl | exact congrArg (fun b_ => Ending.returned (Value.bool b_)) HRET.out | (rw [HRET.out]) | (simp [errW_none, errW_some] <;> rfl) | (simp [*, errW_none, errW_some] <;> rfl), by (with_reducible repeat (first | apply Kd.R_alloc | apply Kd.R_drewN | apply Kd.R_drew)); exact HO_5.out, by repeat (first | (with_reducible first | exact HB.out | apply wA | apply wN | apply wD | refine wS ?_ GE187.out) | exact HB.out)⟩

end Go.Proofs.Ytbaiicnibiogpaa.PNode
