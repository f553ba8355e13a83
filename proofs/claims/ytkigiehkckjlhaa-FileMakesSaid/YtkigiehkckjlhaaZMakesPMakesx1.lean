/- The Go functions that these laws reach, each as a Lean function with the same answers (a law itself where it answers true), and the proof that the code comes to them; conditions: those of each theorem. Laid by a program of this session over the print. -/
import Derived.Test.YtkigiehkckjlhaaZMakesPMakesx0
namespace Go.Proofs.Ytkigiehkckjlhaa.PMakes
open Go.RowKit Go.Proofs.YtkigiehkckjlhaaW.PrintWords Go.Proofs.YtkigiehkckjlhaaW.PrintLast Go.Proofs.YtkigiehkckjlhaaW.PrintMore
attribute [local go_sem] max2_int min2_int max_two min_two max_three min_three max_four min_four   -- for this text's walks alone
set_option linter.unusedVariables false
set_option linter.unusedSimpArgs false
open Go.Proofs.YtkigiehkckjlhaaW.PrintWords renaming blk_drewN → bN, blk_drew → bD, blk_alloc → bA, below_set → wS, below_alloc → wA, pw_below_drewN → wN, below_drew1 → wD, blk_below → bB, blk_far → bF, blk_cell → bC, blk_frozen → bZ
open List renaming setIfInBounds_toArray → lT, set_cons_zero → l0_, set_cons_succ → lS
def node_within.f (a0 : Int) (a1 : Int) : Option (Bool) := if a0 ≥ 0 then (some (decide (a0 ≤ a1))) else (none)
set_option maxHeartbeats 8000000 in
set_option maxRecDepth 100000 in
theorem node_within.calls (a0 : Int) (a1 : Int) (r : Bool) (w : World) (h : node_within.f a0 a1 = some r) :
 Calls Try.prog 81 #[.int .i64 a0, .int .i64 a1] w fun e w' => e = .returned (.bool r) ∧ Drawn0 w w' := by
 have H : (if a0 ≥ 0 then (some (decide (a0 ≤ a1))) else (none)) = some r := h; clear h
 by_cases c3 : a0 ≥ 0
 ·
  rw [if_pos c3] at H; have c3b0 : decide (0 ≤ a0) = true := decide_eq_true c3; clear c3; obtain rfl := Option.some.inj H
  go_enter Try.func81, Try.ntmps81
  go_wp2
  go_ret
  exact ⟨by first | rfl | (simp; done) | (simp [*]; done), by repeat (first | exact Drawn0.refl _ | apply Drawn0.step)⟩
 ·
  rw [if_neg c3] at H; exact absurd H (by simp)
def node_file.l0 : Nat → List Int → Int → Int → Int → Int → Int → List Int → List (S78) → Option (Bool)
 | 0, _, _, _, _, _, _, _, _ => none
 | k + 1, x28, x29, x30, x102000, x102001, x102002, x102003, x102004 => if x30 < x29 then (if 0 ≤ x30 then (if x30 < (x28.length : Int) then ((node_within.f (rd x28 x30) 1099511627776).bind fun t105 => (if t105 = true then (if (wrap64 (x30 * 16)) ≥ x102002 then (if (rd x28 x30) = 0 then (node_file.l0 k x28 x29 (wrap64 (x30 + 1)) x102000 x102001 x102002 x102003 x102004) else (none)) else (node_file.l0 k x28 x29 (wrap64 (x30 + 1)) x102000 x102001 x102002 x102003 x102004)) else (none))) else (none)) else (none)) else (some true)
def node_file.f (k : Nat) (a0_0 : Int) (a0_1 : Int) (a0_2 : Int) (l0_3 : List Int) (l0_4 : List (S78)) : Option (Bool) := (node_within.f a0_1 120).bind fun t102 => (if t102 = true then ((node_within.f a0_2 80).bind fun t103 => (if t103 = true then (if (l0_3.length : Int) = 5 then (if (l0_4.length : Int) > 0 then (none) else (node_file.l0 k l0_3 (l0_3.length : Int) 0 a0_0 a0_1 a0_2 l0_3 l0_4)) else (none)) else (none))) else (none))
theorem node_file.mono_l : ∀ k, (∀ y0 y1 y2 y3 y4 y5 y6 y7, LeO (node_file.l0 k y0 y1 y2 y3 y4 y5 y6 y7) (node_file.l0 (k + 1) y0 y1 y2 y3 y4 y5 y6 y7))
 | 0 => fun _ _ _ _ _ _ _ _ r h => by simp [node_file.l0] at h
 | k + 1 => by
  have ih0 := node_file.mono_l k
  ·
   intro y0 y1 y2 y3 y4 y5 y6 y7
   unfold node_file.l0
   repeat' first
   | (with_reducible exact ih0 _ _ _ _ _ _ _ _)
   | (with_reducible exact LeO.refl _)
   | (with_reducible exact LeO.none _)
   | (with_reducible refine LeO.ite ?_ ?_)
   | (with_reducible refine LeO.bind ?_ (fun _ => ?_))
   | exact ih0 _ _ _ _ _ _ _ _
   | exact LeO.none _
   | refine LeO.ite ?_ ?_
   | refine LeO.bind ?_ (fun _ => ?_)
theorem node_file.mono : ∀ a0 a1 a2 a3 a4 k, LeO (node_file.f k a0 a1 a2 a3 a4) (node_file.f (k + 1) a0 a1 a2 a3 a4) := by
 intro a0 a1 a2 a3 a4 k; have ih0 := node_file.mono_l k
 unfold node_file.f
 repeat' first
  | (with_reducible exact ih0 _ _ _ _ _ _ _ _)
  | (with_reducible exact LeO.refl _)
  | (with_reducible exact LeO.none _)
  | (with_reducible refine LeO.ite ?_ ?_)
  | (with_reducible refine LeO.bind ?_ (fun _ => ?_))
  | exact ih0 _ _ _ _ _ _ _ _
  | exact LeO.none _
  | refine LeO.ite ?_ ?_
  | refine LeO.bind ?_ (fun _ => ?_)
set_option maxHeartbeats 8000000 in
set_option maxRecDepth 100000 in
theorem node_file.calls (k : Nat) (a0_0 : Int) (a0_1 : Int) (a0_2 : Int) (A0_3 : Option Addr) (c0_3 : Nat) (l0_3 : List Int) (A0_4 : Option Addr) (c0_4 : Nat) (l0_4 : List (S78)) (r : Bool) (w : World) (hr0_3 : Kd.C (Kd.int .i64) w A0_3 l0_3.length l0_3) (hc0_3 : l0_3.length ≤ c0_3) (hr0_4 : Kd.C k78 w A0_4 l0_4.length l0_4) (hc0_4 : l0_4.length ≤ c0_4) (h : node_file.f k a0_0 a0_1 a0_2 l0_3 l0_4 = some r) :
 Calls Try.prog 67 #[.agg #[.int .i64 a0_0, .int .i64 a0_1, .int .i64 a0_2, .slice A0_3 l0_3.length c0_3, .slice A0_4 l0_4.length c0_4]] w fun e w' => e = .returned (.bool r) ∧ Below w.heap.size w w' := by
 have hu28 := Try.underlying28; have HR0_3 := Aside0.mk hr0_3; have HC0_3 := Aside0.mk hc0_3; clear hr0_3 hc0_3; have HR0_4 := Aside0.mk hr0_4; have HC0_4 := Aside0.mk hc0_4; clear hr0_4 hc0_4; have HB := Aside0.mk (Below.refl w.heap.size w); have H : ((node_within.f a0_1 120).bind fun t102 => (if t102 = true then ((node_within.f a0_2 80).bind fun t103 => (if t103 = true then (if (l0_3.length : Int) = 5 then (if (l0_4.length : Int) > 0 then (none) else (node_file.l0 k l0_3 (l0_3.length : Int) 0 a0_0 a0_1 a0_2 l0_3 l0_4)) else (none)) else (none))) else (none))) = some r := h; clear h; replace H := Option.bind_eq_some_iff.mp H; obtain ⟨t102, A20, H⟩ := H; replace H : (if t102 = true then ((node_within.f a0_2 80).bind fun t103 => (if t103 = true then (if (l0_3.length : Int) = 5 then (if (l0_4.length : Int) > 0 then (none) else (node_file.l0 k l0_3 (l0_3.length : Int) 0 a0_0 a0_1 a0_2 l0_3 l0_4)) else (none)) else (none))) else (none)) = some r := H; have A2 := Aside0.mk A20; clear A20
 by_cases c3 : t102 = true
 ·
  subst c3
  have H1 : ((node_within.f a0_2 80).bind fun t103 => (if t103 = true then (if (l0_3.length : Int) = 5 then (if (l0_4.length : Int) > 0 then (none) else (node_file.l0 k l0_3 (l0_3.length : Int) 0 a0_0 a0_1 a0_2 l0_3 l0_4)) else (none)) else (none))) = some r := by rw [if_pos rfl] at H; exact H
  clear H; have H := H1; clear H1; replace H := Option.bind_eq_some_iff.mp H; obtain ⟨t103, A40, H⟩ := H; replace H : (if t103 = true then (if (l0_3.length : Int) = 5 then (if (l0_4.length : Int) > 0 then (none) else (node_file.l0 k l0_3 (l0_3.length : Int) 0 a0_0 a0_1 a0_2 l0_3 l0_4)) else (none)) else (none)) = some r := H; have A4 := Aside0.mk A40; clear A40
  by_cases c5 : t103 = true
  ·
   subst c5
   have H1 : (if (l0_3.length : Int) = 5 then (if (l0_4.length : Int) > 0 then (none) else (node_file.l0 k l0_3 (l0_3.length : Int) 0 a0_0 a0_1 a0_2 l0_3 l0_4)) else (none)) = some r := by rw [if_pos rfl] at H; exact H
   clear H; have H := H1; clear H1
   by_cases c6 : (l0_3.length : Int) = 5
   ·
    rw [if_pos c6] at H; have c6b0 : ((l0_3.length : Int) == 5) = true := beq_iff_eq.mpr c6; have c6b1 : ((l0_3.length : Int) != 5) = false := bne_eq_false_iff_eq.mpr c6; clear c6
    by_cases c7 : (l0_4.length : Int) > 0
    ·
     rw [if_pos c7] at H; exact absurd H (by simp)
    ·
     rw [if_neg c7] at H; have c7b0 : decide (0 < (l0_4.length : Int)) = false := decide_eq_false c7; have c7b1 : decide (0 < l0_4.length) = false := decide_eq_false (by omega); clear c7; have H' := Aside0.mk H; clear H
     go_enter Try.func67, Try.ntmps67
     go_wp2_with (first | ((with_reducible refine gate_dst (N := 1) rfl ?_); (try (refine gate_guard (by rfl) ?_; dsimp only)); refine box_event ?hg (N := 1) ?hd (cs := #[.int .i64 a0_0, .int .i64 a0_1, .int .i64 a0_2, .slice A0_3 l0_3.length c0_3, .slice A0_4 l0_4.length c0_4]) (t := 28) ?hr ?_; (case hd => rfl); (case hg => rfl); (case hr => first | (go_simp; done) | (go_simp; rfl)); intro gb101 hg w8 hbox hb; have n0_ := Aside0.mk (below_step (by repeat (first | (with_reducible first | exact HB.out | apply wA | apply wN | apply wD) | exact HB.out)) hb); have n1_ := Aside0.mk (hbox); have n2_ := Aside0.mk ((by rw [hg]; exact (below_size (by repeat (first | (with_reducible first | exact HB.out | apply wA | apply wN | apply wD) | exact HB.out))) : w.heap.size ≤ gb101)); have n3_ := Aside0.mk ((by rw [hg]; exact (below_size (by repeat (first | (with_reducible first | exact HB.out | apply wA | apply wN | apply wD) | exact HB.out))) : w.heap.size ≤ gb101)); clear HB; have HB := n0_; have BK101 := n1_; have GW101 := n2_; have GE101 := n3_; clear n0_ n1_ n2_ n3_; clear hb hbox hg; have hcz9_0 : w8.cell? ⟨gb101, 0, none⟩ = some (.int .i64 a0_0) := (bC BK101.out 0).trans rfl; have hcz9_1 : w8.cell? ⟨gb101, 1, none⟩ = some (.int .i64 a0_1) := (bC BK101.out 1).trans rfl; have hcz9_2 : w8.cell? ⟨gb101, 2, none⟩ = some (.int .i64 a0_2) := (bC BK101.out 2).trans rfl; have hcz9_3 : w8.cell? ⟨gb101, 3, none⟩ = some (.slice A0_3 l0_3.length c0_3) := (bC BK101.out 3).trans rfl; have hcz9_4 : w8.cell? ⟨gb101, 4, none⟩ = some (.slice A0_4 l0_4.length c0_4) := (bC BK101.out 4).trans rfl; have hfz9_0 := bZ BK101.out 0; have hfz9_1 := bZ BK101.out 1; have hfz9_2 := bZ BK101.out 2; have hfz9_3 := bZ BK101.out 3; have hfz9_4 := bZ BK101.out 4) | ((with_reducible refine gate_callee (f := 81) rfl ?_); refine goesL_ (some 7) rfl rfl Try.func81 (by kernel_rfl) rfl #[.int .i64 a0_1, .int .i64 120] rfl (by (try simp only [List.map_toArray, List.map_cons, List.map_nil]); first | done | rfl | (simp only [List.length_drop, List.length_take]; rfl)) ?_; (with_reducible refine (node_within.calls a0_1 120 true _ A2.out).mono ?_); rintro e w' ⟨rfl, ⟨nd, rfl⟩⟩; refine ⟨_, rfl, ?_⟩) | (go_at_call 81; (with_reducible refine (node_within.calls a0_2 80 true _ A4.out).mono ?_); rintro e w' ⟨rfl, ⟨nd, rfl⟩⟩))
     go_loopg [30] k (fun kq v30 w' => ∃ (x30_1 : Int), v30 = .int .i64 x30_1 ∧ Aside0 (node_file.l0 kq l0_3 (l0_3.length : Int) x30_1 a0_0 a0_1 a0_2 l0_3 l0_4 = some r) ∧ Aside0 (kq ≤ k) ∧ Aside0 (w'.heap[gb101]? = some (.cells #[.int .i64 a0_0, .int .i64 a0_1, .int .i64 a0_2, (.slice A0_3 l0_3.length c0_3), (.slice A0_4 l0_4.length c0_4)] 28 (0, 0))) ∧ Aside0 (Below w.heap.size w w'))
     case atStart => exact ⟨(0), (by first | rfl | (simp; done) | (simp [*]; done)), H', ⟨Nat.le_refl _⟩, ⟨by (with_reducible repeat (first | refine bN ?_ _ | refine bD ?_ | refine bA ?_ _)); exact BK101.out⟩, ⟨by repeat (first | (with_reducible first | exact HB.out | apply wA | apply wN | apply wD | refine wS ?_ GE101.out) | exact HB.out)⟩⟩
     case round =>
      clear H'
      try clear p2
      try clear c3
      try clear c5
      try clear c6
      try clear c6b0
      try clear c6b1
      try clear c7
      try clear c7b0
      try clear c7b1
      try clear c8
      try clear hcz9_0
      try clear hcz9_1
      try clear hcz9_2
      try clear hcz9_3
      try clear hcz9_4
      try clear hfz9_0
      try clear hfz9_1
      try clear hfz9_2
      try clear hfz9_3
      try clear hfz9_4
      obtain ⟨x30_1, rfl, HA, HK1, BK101, HB⟩ := hrel
      cases gk with
      | zero => exact absurd HA.out (by simp [node_file.l0])
      | succ k1 =>
       have H := HA.out; clear HA; simp only [node_file.l0] at H
       by_cases c10 : x30_1 < (l0_3.length : Int)
       ·
        rw [if_pos c10] at H; have c10b0 : decide (x30_1 < (l0_3.length : Int)) = true := decide_eq_true c10; clear c10
        by_cases c11 : 0 ≤ x30_1
        ·
         rw [if_pos c11] at H; have c11b0 : decide (0 ≤ x30_1) = true := decide_eq_true c11; clear c11
         by_cases c12 : x30_1 < (l0_3.length : Int)
         ·
          rw [if_pos c12] at H; have c12b0 : decide (x30_1 < (l0_3.length : Int)) = true := decide_eq_true c12; clear c12; replace H := Option.bind_eq_some_iff.mp H; obtain ⟨t105, A130, H⟩ := H; replace H : (if t105 = true then (if (wrap64 (x30_1 * 16)) ≥ a0_2 then (if (rd l0_3 x30_1) = 0 then (node_file.l0 k1 l0_3 (l0_3.length : Int) (wrap64 (x30_1 + 1)) a0_0 a0_1 a0_2 l0_3 l0_4) else (none)) else (node_file.l0 k1 l0_3 (l0_3.length : Int) (wrap64 (x30_1 + 1)) a0_0 a0_1 a0_2 l0_3 l0_4)) else (none)) = some r := H; have A13 := Aside0.mk A130; clear A130
          by_cases c14 : t105 = true
          ·
           subst c14
           have H1 : (if (wrap64 (x30_1 * 16)) ≥ a0_2 then (if (rd l0_3 x30_1) = 0 then (node_file.l0 k1 l0_3 (l0_3.length : Int) (wrap64 (x30_1 + 1)) a0_0 a0_1 a0_2 l0_3 l0_4) else (none)) else (node_file.l0 k1 l0_3 (l0_3.length : Int) (wrap64 (x30_1 + 1)) a0_0 a0_1 a0_2 l0_3 l0_4)) = some r := by rw [if_pos rfl] at H; exact H
           clear H; have H := H1; clear H1
           by_cases c15 : (wrap64 (x30_1 * 16)) ≥ a0_2
           ·
            rw [if_pos c15] at H; have c15b0 : decide (a0_2 ≤ (wrap64 (x30_1 * 16))) = true := decide_eq_true c15; clear c15
            by_cases c16 : (rd l0_3 x30_1) = 0
            ·
             rw [if_pos c16] at H; have c16b0 : ((rd l0_3 x30_1) == 0) = true := beq_iff_eq.mpr c16; have c16b1 : ((rd l0_3 x30_1) != 0) = false := bne_eq_false_iff_eq.mpr c16; clear c16; have H' := Aside0.mk H; clear H; have p104 : 0 ≤ (x30_1 : Int) := of_decide_eq_true (by first | (with_reducible assumption) | assumption); have q104 : x30_1 < (l0_3.length : Int) := of_decide_eq_true (by first | (with_reducible assumption) | assumption); obtain ⟨ad104, e104, hx104_0⟩ := Kd.at_int HR0_3.out x30_1 p104 q104
             cases e104
             replace hx104_0 := (HB.out.cell (World.block_lt_of_cell? w _ hx104_0)).trans hx104_0; replace p104 := eq_true p104; replace q104 := eq_true q104
             go_wp2_with (first | ((with_reducible refine gate_callee (f := 81) rfl ?_); refine goesL_ (some 36) rfl rfl Try.func81 (by kernel_rfl) rfl #[.int .i64 (rd l0_3 x30_1), .int .i64 1099511627776] rfl (by (try simp only [List.map_toArray, List.map_cons, List.map_nil]); first | done | rfl | (simp only [List.length_drop, List.length_take]; rfl)) ?_; (with_reducible refine (node_within.calls (rd l0_3 x30_1) 1099511627776 true _ A13.out).mono ?_); rintro e w' ⟨rfl, ⟨nd, rfl⟩⟩; refine ⟨_, rfl, ?_⟩; have hcz17_0 : wr.cell? ⟨gb101, 0, none⟩ = some (.int .i64 a0_0) := (bC BK101.out 0).trans rfl; have hcz17_1 : wr.cell? ⟨gb101, 1, none⟩ = some (.int .i64 a0_1) := (bC BK101.out 1).trans rfl; have hcz17_2 : wr.cell? ⟨gb101, 2, none⟩ = some (.int .i64 a0_2) := (bC BK101.out 2).trans rfl; have hcz17_3 : wr.cell? ⟨gb101, 3, none⟩ = some (.slice (some ad104) l0_3.length c0_3) := (bC BK101.out 3).trans rfl; have hcz17_4 : wr.cell? ⟨gb101, 4, none⟩ = some (.slice A0_4 l0_4.length c0_4) := (bC BK101.out 4).trans rfl; have hfz17_0 := bZ BK101.out 0; have hfz17_1 := bZ BK101.out 1; have hfz17_2 := bZ BK101.out 2; have hfz17_3 := bZ BK101.out 3; have hfz17_4 := bZ BK101.out 4))
             go_roundg k1
             case measure => have := HK1.out; omega
             case rel => exact ⟨(wrap64 (x30_1 + 1)), (by first | rfl | (simp; done) | (simp [*]; done)), H', ⟨by have := HK1.out; omega⟩, ⟨by (with_reducible repeat (first | refine bN ?_ _ | refine bD ?_ | refine bA ?_ _)); exact BK101.out⟩, ⟨by repeat (first | (with_reducible first | exact HB.out | apply wA | apply wN | apply wD | refine wS ?_ GE101.out) | exact HB.out)⟩⟩
            ·
             rw [if_neg c16] at H; exact absurd H (by simp)
           ·
            rw [if_neg c15] at H; have c15b0 : decide (a0_2 ≤ (wrap64 (x30_1 * 16))) = false := decide_eq_false c15; clear c15; have H' := Aside0.mk H; clear H; have p104 : 0 ≤ (x30_1 : Int) := of_decide_eq_true (by first | (with_reducible assumption) | assumption); have q104 : x30_1 < (l0_3.length : Int) := of_decide_eq_true (by first | (with_reducible assumption) | assumption); obtain ⟨ad104, e104, hx104_0⟩ := Kd.at_int HR0_3.out x30_1 p104 q104
            cases e104
            replace hx104_0 := (HB.out.cell (World.block_lt_of_cell? w _ hx104_0)).trans hx104_0; replace p104 := eq_true p104; replace q104 := eq_true q104
            go_wp2_with (first | ((with_reducible refine gate_callee (f := 81) rfl ?_); refine goesL_ (some 36) rfl rfl Try.func81 (by kernel_rfl) rfl #[.int .i64 (rd l0_3 x30_1), .int .i64 1099511627776] rfl (by (try simp only [List.map_toArray, List.map_cons, List.map_nil]); first | done | rfl | (simp only [List.length_drop, List.length_take]; rfl)) ?_; (with_reducible refine (node_within.calls (rd l0_3 x30_1) 1099511627776 true _ A13.out).mono ?_); rintro e w' ⟨rfl, ⟨nd, rfl⟩⟩; refine ⟨_, rfl, ?_⟩; have hcz18_0 : wr.cell? ⟨gb101, 0, none⟩ = some (.int .i64 a0_0) := (bC BK101.out 0).trans rfl; have hcz18_1 : wr.cell? ⟨gb101, 1, none⟩ = some (.int .i64 a0_1) := (bC BK101.out 1).trans rfl; have hcz18_2 : wr.cell? ⟨gb101, 2, none⟩ = some (.int .i64 a0_2) := (bC BK101.out 2).trans rfl; have hcz18_3 : wr.cell? ⟨gb101, 3, none⟩ = some (.slice (some ad104) l0_3.length c0_3) := (bC BK101.out 3).trans rfl; have hcz18_4 : wr.cell? ⟨gb101, 4, none⟩ = some (.slice A0_4 l0_4.length c0_4) := (bC BK101.out 4).trans rfl; have hfz18_0 := bZ BK101.out 0; have hfz18_1 := bZ BK101.out 1; have hfz18_2 := bZ BK101.out 2; have hfz18_3 := bZ BK101.out 3; have hfz18_4 := bZ BK101.out 4))
            go_roundg k1
            case measure => have := HK1.out; omega
            case rel => exact ⟨(wrap64 (x30_1 + 1)), (by first | rfl | (simp; done) | (simp [*]; done)), H', ⟨by have := HK1.out; omega⟩, ⟨by (with_reducible repeat (first | refine bN ?_ _ | refine bD ?_ | refine bA ?_ _)); exact BK101.out⟩, ⟨by repeat (first | (with_reducible first | exact HB.out | apply wA | apply wN | apply wD | refine wS ?_ GE101.out) | exact HB.out)⟩⟩
          ·
           replace c14 := Bool.eq_false_iff.mpr c14; subst c14
           have H1 : (none) = some r := by rw [if_neg (show ¬ (false = true) by decide)] at H; exact H
           clear H; have H := H1; clear H1; exact absurd H (by simp)
         ·
          rw [if_neg c12] at H; exact absurd H (by simp)
        ·
         rw [if_neg c11] at H; exact absurd H (by simp)
       ·
        rw [if_neg c10] at H; have c10b0 : decide (x30_1 < (l0_3.length : Int)) = false := decide_eq_false c10; clear c10; obtain rfl := Option.some.inj H
        go_wp2
        go_ret
        exact ⟨by first | rfl | exact congrArg (fun b_ => Ending.returned (Value.bool b_)) HRET.out | (rw [HRET.out]) | (simp [errW_none, errW_some] <;> rfl) | (simp [*, errW_none, errW_some] <;> rfl), by repeat (first | (with_reducible first | exact HB.out | apply wA | apply wN | apply wD | refine wS ?_ GE101.out) | exact HB.out)⟩
   ·
    rw [if_neg c6] at H; exact absurd H (by simp)
  ·
   replace c5 := Bool.eq_false_iff.mpr c5; subst c5
   have H1 : (none) = some r := by rw [if_neg (show ¬ (false = true) by decide)] at H; exact H
   clear H; have H := H1; clear H1; exact absurd H (by simp)
 ·
  replace c3 := Bool.eq_false_iff.mpr c3; subst c3
  have H1 : (none) = some r := by rw [if_neg (show ¬ (false = true) by decide)] at H; exact H
  clear H; have H := H1; clear H1; exact absurd H (by simp)
def path_May.l0 : Nat → ByteArray → Int → Int → Option (Bool)
 | 0, _, _, _ => none
 | k + 1, x0, x6, x7 => if x7 < x6 then (if 0 ≤ x7 then (if x7 < (x0.size : Int) then (if (bt x0 x7) ≥ 97 then (if (bt x0 x7) ≤ 122 then (path_May.l0 k x0 x6 (wrap64 (x7 + 1))) else (none)) else (none)) else (none)) else (none)) else (if (x0.size : Int) ≥ 1 then (if (x0.size : Int) ≤ 8 then (if x0.toList = ([46] : List UInt8) then (none) else (some (x0.toList != ([46, 46] : List UInt8)))) else (none)) else (none))
def path_May.f (k : Nat) (a0 : ByteArray) : Option (Bool) := path_May.l0 k a0 (a0.size : Int) 0
theorem path_May.mono_l : ∀ k, (∀ y0 y1 y2, LeO (path_May.l0 k y0 y1 y2) (path_May.l0 (k + 1) y0 y1 y2))
 | 0 => fun _ _ _ r h => by simp [path_May.l0] at h
 | k + 1 => by
  have ih0 := path_May.mono_l k
  ·
   intro y0 y1 y2
   unfold path_May.l0
   repeat' first
   | (with_reducible exact ih0 _ _ _)
   | (with_reducible exact LeO.refl _)
   | (with_reducible exact LeO.none _)
   | (with_reducible refine LeO.ite ?_ ?_)
   | (with_reducible refine LeO.bind ?_ (fun _ => ?_))
   | exact ih0 _ _ _
   | exact LeO.none _
   | refine LeO.ite ?_ ?_
   | refine LeO.bind ?_ (fun _ => ?_)
theorem path_May.mono : ∀ a0 k, LeO (path_May.f k a0) (path_May.f (k + 1) a0) := by
 intro a0 k; have ih0 := path_May.mono_l k
 unfold path_May.f
 repeat' first
  | (with_reducible exact ih0 _ _ _)
  | (with_reducible exact LeO.refl _)
  | (with_reducible exact LeO.none _)
  | (with_reducible refine LeO.ite ?_ ?_)
  | (with_reducible refine LeO.bind ?_ (fun _ => ?_))
  | exact ih0 _ _ _
  | exact LeO.none _
  | refine LeO.ite ?_ ?_
  | refine LeO.bind ?_ (fun _ => ?_)
set_option maxHeartbeats 8000000 in
set_option maxRecDepth 100000 in
theorem path_May.calls (k : Nat) (a0 : ByteArray) (r : Bool) (w : World) (h : path_May.f k a0 = some r) :
 Calls Try.prog 89 #[.string a0] w fun e w' => e = .returned (.bool r) ∧ Drawn0 w w' := by
 have H : (path_May.l0 k a0 (a0.size : Int) 0) = some r := h; clear h; have H' := Aside0.mk H; clear H
 go_enter Try.func89, Try.ntmps89
 go_wp2
 go_loopg [7] k (fun kq v7 w' => ∃ (x7_1 : Int), v7 = .int .i64 x7_1 ∧ Aside0 (path_May.l0 kq a0 (a0.size : Int) x7_1 = some r) ∧ Aside0 (kq ≤ k) ∧ Drawn0 w w')
 case atStart => exact ⟨(0), (by first | rfl | (simp; done) | (simp [*]; done)), H', ⟨Nat.le_refl _⟩, by repeat (first | exact Drawn0.refl _ | apply Drawn0.step)⟩
 case round =>
  clear H'; obtain ⟨x7_1, rfl, HA, HK1, ⟨m1, rfl⟩⟩ := hrel
  cases gk with
  | zero => exact absurd HA.out (by simp [path_May.l0])
  | succ k1 =>
   have H := HA.out; clear HA; simp only [path_May.l0] at H
   by_cases c2 : x7_1 < (a0.size : Int)
   ·
    rw [if_pos c2] at H; have c2b0 : decide (x7_1 < (a0.size : Int)) = true := decide_eq_true c2; clear c2
    by_cases c3 : 0 ≤ x7_1
    ·
     rw [if_pos c3] at H; have c3b0 : decide (0 ≤ x7_1) = true := decide_eq_true c3; clear c3
     by_cases c4 : x7_1 < (a0.size : Int)
     ·
      rw [if_pos c4] at H; have c4b0 : decide (x7_1 < (a0.size : Int)) = true := decide_eq_true c4; clear c4
      by_cases c6 : (bt a0 x7_1) ≥ 97
      ·
       rw [if_pos c6] at H; have c6b0 : decide (97 ≤ (bt a0 x7_1)) = true := decide_eq_true c6; clear c6
       by_cases c7 : (bt a0 x7_1) ≤ 122
       ·
        rw [if_pos c7] at H; have c7b0 : decide ((bt a0 x7_1) ≤ 122) = true := decide_eq_true c7; clear c7; have H' := Aside0.mk H; clear H; have p5 : 0 ≤ (x7_1 : Int) := of_decide_eq_true (by first | (with_reducible assumption) | assumption); have q5 : x7_1 < (a0.size : Int) := of_decide_eq_true (by first | (with_reducible assumption) | assumption); have hx5 := bt_at a0 x7_1; replace p5 := eq_true p5; replace q5 := eq_true q5
        go_wp2
        go_roundg k1
        case measure => have := HK1.out; omega
        case rel => exact ⟨(wrap64 (x7_1 + 1)), (by first | rfl | (simp; done) | (simp [*]; done)), H', ⟨by have := HK1.out; omega⟩, by repeat (first | exact Drawn0.refl _ | apply Drawn0.step)⟩
       ·
        rw [if_neg c7] at H; exact absurd H (by simp)
      ·
       rw [if_neg c6] at H; exact absurd H (by simp)
     ·
      rw [if_neg c4] at H; exact absurd H (by simp)
    ·
     rw [if_neg c3] at H; exact absurd H (by simp)
   ·
    rw [if_neg c2] at H; have c2b0 : decide (x7_1 < (a0.size : Int)) = false := decide_eq_false c2; clear c2
    by_cases c8 : (a0.size : Int) ≥ 1
    ·
     rw [if_pos c8] at H; have c8b0 : decide (1 ≤ (a0.size : Int)) = true := decide_eq_true c8; have c8b1 : decide (1 ≤ a0.size) = true := decide_eq_true (by omega); clear c8
     by_cases c9 : (a0.size : Int) ≤ 8
     ·
      rw [if_pos c9] at H; have c9b0 : decide ((a0.size : Int) ≤ 8) = true := decide_eq_true c9; have c9b1 : decide (a0.size ≤ 8) = true := decide_eq_true (by omega); clear c9
      by_cases c10 : a0.toList = ([46] : List UInt8)
      ·
       rw [if_pos c10] at H; exact absurd H (by simp)
      ·
       rw [if_neg c10] at H; have c10b0 : (a0.toList == ([46] : List UInt8)) = false := beq_eq_false_iff_ne.mpr c10; have c10b1 : (a0.toList != ([46] : List UInt8)) = true := bne_iff_ne.mpr c10; obtain rfl := Option.some.inj H
       go_wp2
       go_ret
       exact ⟨by first | rfl | (simp; done) | (simp [*]; done), by repeat (first | exact Drawn0.refl _ | apply Drawn0.step)⟩
     ·
      rw [if_neg c9] at H; exact absurd H (by simp)
    ·
     rw [if_neg c8] at H; exact absurd H (by simp)
def name_sole.f (k : Nat) (a0_0 : ByteArray) (a0_1 : Int) : Option (Bool) := (path_May.f k a0_0).bind fun t107 => (if t107 = true then (if a0_1 ≥ 1 then (some (decide (a0_1 < 12))) else (none)) else (none))
theorem name_sole.mono : ∀ a0 a1 k, LeO (name_sole.f k a0 a1) (name_sole.f (k + 1) a0 a1) := by
 intro a0 a1 k
 unfold name_sole.f
 repeat' first
  | (with_reducible exact path_May.mono _ _)
  | (with_reducible exact LeO.refl _)
  | (with_reducible exact LeO.none _)
  | (with_reducible refine LeO.ite ?_ ?_)
  | (with_reducible refine LeO.bind ?_ (fun _ => ?_))
  | exact path_May.mono _ _
  | exact LeO.none _
  | refine LeO.ite ?_ ?_
  | refine LeO.bind ?_ (fun _ => ?_)
set_option maxHeartbeats 8000000 in
set_option maxRecDepth 100000 in
theorem name_sole.calls (k : Nat) (a0_0 : ByteArray) (a0_1 : Int) (r : Bool) (w : World) (h : name_sole.f k a0_0 a0_1 = some r) :
 Calls Try.prog 82 #[.agg #[.string a0_0, .int .i64 a0_1]] w fun e w' => e = .returned (.bool r) ∧ Below w.heap.size w w' := by
 have hu78 := Try.underlying78; have HB := Aside0.mk (Below.refl w.heap.size w); have H : ((path_May.f k a0_0).bind fun t107 => (if t107 = true then (if a0_1 ≥ 1 then (some (decide (a0_1 < 12))) else (none)) else (none))) = some r := h; clear h; replace H := Option.bind_eq_some_iff.mp H; obtain ⟨t107, A20, H⟩ := H; replace H : (if t107 = true then (if a0_1 ≥ 1 then (some (decide (a0_1 < 12))) else (none)) else (none)) = some r := H; have A2 := Aside0.mk A20; clear A20
 by_cases c3 : t107 = true
 ·
  subst c3
  have H1 : (if a0_1 ≥ 1 then (some (decide (a0_1 < 12))) else (none)) = some r := by rw [if_pos rfl] at H; exact H
  clear H; have H := H1; clear H1
  by_cases c4 : a0_1 ≥ 1
  ·
   rw [if_pos c4] at H; have c4b0 : decide (1 ≤ a0_1) = true := decide_eq_true c4; clear c4; obtain rfl := Option.some.inj H
   go_enter Try.func82, Try.ntmps82
   go_wp2_with (first | ((with_reducible refine gate_dst (N := 1) rfl ?_); refine box_event ?hg (N := 1) ?hd (cs := #[.string a0_0, .int .i64 a0_1]) (t := 78) ?hr ?_; (case hd => rfl); (case hg => rfl); (case hr => first | (go_simp; done) | (go_simp; rfl)); intro gb106 hg w5 hbox hb; have n0_ := Aside0.mk (below_step (by repeat (first | (with_reducible first | exact HB.out | apply wA | apply wN | apply wD) | exact HB.out)) hb); have n1_ := Aside0.mk (hbox); have n2_ := Aside0.mk ((by rw [hg]; exact (below_size (by repeat (first | (with_reducible first | exact HB.out | apply wA | apply wN | apply wD) | exact HB.out))) : w.heap.size ≤ gb106)); have n3_ := Aside0.mk ((by rw [hg]; exact (below_size (by repeat (first | (with_reducible first | exact HB.out | apply wA | apply wN | apply wD) | exact HB.out))) : w.heap.size ≤ gb106)); clear HB; have HB := n0_; have BK106 := n1_; have GW106 := n2_; have GE106 := n3_; clear n0_ n1_ n2_ n3_; clear hb hbox hg; have hcz6_0 : w5.cell? ⟨gb106, 0, none⟩ = some (.string a0_0) := (bC BK106.out 0).trans rfl; have hcz6_1 : w5.cell? ⟨gb106, 1, none⟩ = some (.int .i64 a0_1) := (bC BK106.out 1).trans rfl; have hfz6_0 := bZ BK106.out 0; have hfz6_1 := bZ BK106.out 1) | ((with_reducible refine gate_callee (f := 89) rfl ?_); refine goesL_ (some 5) rfl rfl Try.func89 (by kernel_rfl) rfl #[.string a0_0] rfl (by (try simp only [List.map_toArray, List.map_cons, List.map_nil]); first | done | rfl | (simp only [List.length_drop, List.length_take]; rfl)) ?_; (with_reducible refine (path_May.calls k a0_0 true _ A2.out).mono ?_); rintro e w' ⟨rfl, ⟨nd, rfl⟩⟩; refine ⟨_, rfl, ?_⟩))
   go_ret
   exact ⟨by first | rfl | exact congrArg (fun b_ => Ending.returned (Value.bool b_)) HRET.out | (rw [HRET.out]) | (simp [errW_none, errW_some] <;> rfl) | (simp [*, errW_none, errW_some] <;> rfl), by repeat (first | (with_reducible first | exact HB.out | apply wA | apply wN | apply wD | refine wS ?_ GE106.out) | exact HB.out)⟩
  ·
   rw [if_neg c4] at H; exact absurd H (by simp)
 ·
  replace c3 := Bool.eq_false_iff.mpr c3; subst c3
  have H1 : (none) = some r := by rw [if_neg (show ¬ (false = true) by decide)] at H; exact H
  clear H; have H := H1; clear H1; exact absurd H (by simp)
end Go.Proofs.Ytkigiehkckjlhaa.PMakes
