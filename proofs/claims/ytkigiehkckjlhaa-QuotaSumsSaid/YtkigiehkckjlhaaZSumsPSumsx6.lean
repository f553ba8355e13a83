/- The Go functions that these laws reach, each as a Lean function with the same answers (a law itself where it answers true), and the proof that the code comes to them; conditions: those of each theorem. Laid by a program of this session over the print. -/
import Derived.Test.YtkigiehkckjlhaaZSumsPSumsx0
import Derived.Test.YtkigiehkckjlhaaZSumsPSumsx2
import Derived.Test.YtkigiehkckjlhaaZSumsPSumsx5
namespace Go.Proofs.Ytkigiehkckjlhaa.PSums
open Go.RowKit Go.Proofs.YtkigiehkckjlhaaW.PrintWords Go.Proofs.YtkigiehkckjlhaaW.PrintLast Go.Proofs.YtkigiehkckjlhaaW.PrintMore
attribute [local go_sem] max2_int min2_int max_two min_two max_three min_three max_four min_four   -- for this text's walks alone
set_option linter.unusedVariables false
set_option linter.unusedSimpArgs false
open Go.Proofs.YtkigiehkckjlhaaW.PrintWords renaming blk_drewN → bN, blk_drew → bD, blk_alloc → bA, below_set → wS, below_alloc → wA, pw_below_drewN → wN, below_drew1 → wD, blk_below → bB, blk_far → bF, blk_cell → bC, blk_frozen → bZ
open List renaming setIfInBounds_toArray → lT, set_cons_zero → l0_, set_cons_succ → lS
def node_May.f (k : Nat) (a0_0 : Int) (a0_1 : Int) (a0_2 : Int) (l0_3 : List Int) (l0_4 : List (S78)) : Option (Bool) := if a0_0 = 0 then (if a0_1 = 0 then (if a0_2 = 0 then (if (l0_3.length : Int) = 0 then (some ((l0_4.length : Int) == 0)) else (some false)) else (some false)) else (some false)) else (if a0_0 = 1 then ((node_file.f k a0_0 a0_1 a0_2 l0_3 l0_4).bind fun t121 => (some t121)) else (if a0_0 = 2 then (if a0_1 = 1 then (if a0_2 = 0 then (if (l0_3.length : Int) = 0 then ((name_May.f k l0_4).bind fun t122 => (some t122)) else (some false)) else (some false)) else (some false)) else (some false)))
theorem node_May.mono : ∀ a0 a1 a2 a3 a4 k, LeO (node_May.f k a0 a1 a2 a3 a4) (node_May.f (k + 1) a0 a1 a2 a3 a4) := by
 intro a0 a1 a2 a3 a4 k
 unfold node_May.f
 repeat' first
  | (with_reducible exact name_May.mono _ _)
  | (with_reducible exact node_file.mono _ _ _ _ _ _)
  | (with_reducible exact LeO.refl _)
  | (with_reducible exact LeO.none _)
  | (with_reducible refine LeO.ite ?_ ?_)
  | (with_reducible refine LeO.bind ?_ (fun _ => ?_))
  | exact name_May.mono _ _
  | exact node_file.mono _ _ _ _ _ _
  | exact LeO.none _
  | refine LeO.ite ?_ ?_
  | refine LeO.bind ?_ (fun _ => ?_)
set_option maxHeartbeats 8000000 in
set_option maxRecDepth 100000 in
theorem node_May.calls (k : Nat) (a0_0 : Int) (a0_1 : Int) (a0_2 : Int) (A0_3 : Option Addr) (c0_3 : Nat) (l0_3 : List Int) (A0_4 : Option Addr) (c0_4 : Nat) (l0_4 : List (S78)) (r : Bool) (w : World) (hr0_3 : Kd.C (Kd.int .i64) w A0_3 l0_3.length l0_3) (hc0_3 : l0_3.length ≤ c0_3) (hr0_4 : Kd.C k78 w A0_4 l0_4.length l0_4) (hc0_4 : l0_4.length ≤ c0_4) (h : node_May.f k a0_0 a0_1 a0_2 l0_3 l0_4 = some r) :
 Calls Try.prog 48 #[.agg #[.int .i64 a0_0, .int .i64 a0_1, .int .i64 a0_2, .slice A0_3 l0_3.length c0_3, .slice A0_4 l0_4.length c0_4]] w fun e w' => e = .returned (.bool r) ∧ Below w.heap.size w w' := by
 have hu28 := Try.underlying28; have HR0_3 := Aside0.mk hr0_3; have HC0_3 := Aside0.mk hc0_3; clear hr0_3 hc0_3; have HR0_4 := Aside0.mk hr0_4; have HC0_4 := Aside0.mk hc0_4; clear hr0_4 hc0_4; have HB := Aside0.mk (Below.refl w.heap.size w); have H : (if a0_0 = 0 then (if a0_1 = 0 then (if a0_2 = 0 then (if (l0_3.length : Int) = 0 then (some ((l0_4.length : Int) == 0)) else (some false)) else (some false)) else (some false)) else (if a0_0 = 1 then ((node_file.f k a0_0 a0_1 a0_2 l0_3 l0_4).bind fun t121 => (some t121)) else (if a0_0 = 2 then (if a0_1 = 1 then (if a0_2 = 0 then (if (l0_3.length : Int) = 0 then ((name_May.f k l0_4).bind fun t122 => (some t122)) else (some false)) else (some false)) else (some false)) else (some false)))) = some r := h; clear h
 by_cases c2 : a0_0 = 0
 ·
  rw [if_pos c2] at H; have c2b0 : (a0_0 == 0) = true := beq_iff_eq.mpr c2; have c2b1 : (a0_0 != 0) = false := bne_eq_false_iff_eq.mpr c2; clear c2
  by_cases c3 : a0_1 = 0
  ·
   rw [if_pos c3] at H; have c3b0 : (a0_1 == 0) = true := beq_iff_eq.mpr c3; have c3b1 : (a0_1 != 0) = false := bne_eq_false_iff_eq.mpr c3; clear c3
   by_cases c4 : a0_2 = 0
   ·
    rw [if_pos c4] at H; have c4b0 : (a0_2 == 0) = true := beq_iff_eq.mpr c4; have c4b1 : (a0_2 != 0) = false := bne_eq_false_iff_eq.mpr c4; clear c4
    by_cases c5 : (l0_3.length : Int) = 0
    ·
     rw [if_pos c5] at H; have c5b0 : ((l0_3.length : Int) == 0) = true := beq_iff_eq.mpr c5; have c5b1 : ((l0_3.length : Int) != 0) = false := bne_eq_false_iff_eq.mpr c5; clear c5; obtain rfl := Option.some.inj H
     go_enter Try.func48, Try.ntmps48
     go_wp2_with (first | ((with_reducible refine gate_dst (N := 1) rfl ?_); (try (refine gate_guard (by rfl) ?_; dsimp only)); refine box_event ?hg (N := 1) ?hd (cs := #[.int .i64 a0_0, .int .i64 a0_1, .int .i64 a0_2, .slice A0_3 l0_3.length c0_3, .slice A0_4 l0_4.length c0_4]) (t := 28) ?hr ?_; (case hd => rfl); (case hg => rfl); (case hr => first | (go_simp; done) | (go_simp; rfl)); intro gb120 hg w6 hbox hb; have n0_ := Aside0.mk (below_step (by repeat (first | (with_reducible first | exact HB.out | apply wA | apply wN | apply wD) | exact HB.out)) hb); have n1_ := Aside0.mk (hbox); have n2_ := Aside0.mk ((by rw [hg]; exact (below_size (by repeat (first | (with_reducible first | exact HB.out | apply wA | apply wN | apply wD) | exact HB.out))) : w.heap.size ≤ gb120)); have n3_ := Aside0.mk ((by rw [hg]; exact (below_size (by repeat (first | (with_reducible first | exact HB.out | apply wA | apply wN | apply wD) | exact HB.out))) : w.heap.size ≤ gb120)); clear HB; have HB := n0_; have BK120 := n1_; have GW120 := n2_; have GE120 := n3_; clear n0_ n1_ n2_ n3_; clear hb hbox hg; have hcz7_0 : w6.cell? ⟨gb120, 0, none⟩ = some (.int .i64 a0_0) := (bC BK120.out 0).trans rfl; have hcz7_1 : w6.cell? ⟨gb120, 1, none⟩ = some (.int .i64 a0_1) := (bC BK120.out 1).trans rfl; have hcz7_2 : w6.cell? ⟨gb120, 2, none⟩ = some (.int .i64 a0_2) := (bC BK120.out 2).trans rfl; have hcz7_3 : w6.cell? ⟨gb120, 3, none⟩ = some (.slice A0_3 l0_3.length c0_3) := (bC BK120.out 3).trans rfl; have hcz7_4 : w6.cell? ⟨gb120, 4, none⟩ = some (.slice A0_4 l0_4.length c0_4) := (bC BK120.out 4).trans rfl; have hfz7_0 := bZ BK120.out 0; have hfz7_1 := bZ BK120.out 1; have hfz7_2 := bZ BK120.out 2; have hfz7_3 := bZ BK120.out 3; have hfz7_4 := bZ BK120.out 4))
     go_ret
     exact ⟨by first | rfl | exact congrArg (fun b_ => Ending.returned (Value.bool b_)) HRET.out | (rw [HRET.out]) | (simp [errW_none, errW_some] <;> rfl) | (simp [*, errW_none, errW_some] <;> rfl), by repeat (first | (with_reducible first | exact HB.out | apply wA | apply wN | apply wD | refine wS ?_ GE120.out) | exact HB.out)⟩
    ·
     rw [if_neg c5] at H; have c5b0 : ((l0_3.length : Int) == 0) = false := beq_eq_false_iff_ne.mpr c5; have c5b1 : ((l0_3.length : Int) != 0) = true := bne_iff_ne.mpr c5
     have c5b2 : ¬ (l0_3 = []) := fun h_ => c5 (by rw [h_]; rfl)
     obtain rfl := Option.some.inj H
     go_enter Try.func48, Try.ntmps48
     go_wp2_with (first | ((with_reducible refine gate_dst (N := 1) rfl ?_); (try (refine gate_guard (by rfl) ?_; dsimp only)); refine box_event ?hg (N := 1) ?hd (cs := #[.int .i64 a0_0, .int .i64 a0_1, .int .i64 a0_2, .slice A0_3 l0_3.length c0_3, .slice A0_4 l0_4.length c0_4]) (t := 28) ?hr ?_; (case hd => rfl); (case hg => rfl); (case hr => first | (go_simp; done) | (go_simp; rfl)); intro gb120 hg w8 hbox hb; have n0_ := Aside0.mk (below_step (by repeat (first | (with_reducible first | exact HB.out | apply wA | apply wN | apply wD) | exact HB.out)) hb); have n1_ := Aside0.mk (hbox); have n2_ := Aside0.mk ((by rw [hg]; exact (below_size (by repeat (first | (with_reducible first | exact HB.out | apply wA | apply wN | apply wD) | exact HB.out))) : w.heap.size ≤ gb120)); have n3_ := Aside0.mk ((by rw [hg]; exact (below_size (by repeat (first | (with_reducible first | exact HB.out | apply wA | apply wN | apply wD) | exact HB.out))) : w.heap.size ≤ gb120)); clear HB; have HB := n0_; have BK120 := n1_; have GW120 := n2_; have GE120 := n3_; clear n0_ n1_ n2_ n3_; clear hb hbox hg; have hcz9_0 : w8.cell? ⟨gb120, 0, none⟩ = some (.int .i64 a0_0) := (bC BK120.out 0).trans rfl; have hcz9_1 : w8.cell? ⟨gb120, 1, none⟩ = some (.int .i64 a0_1) := (bC BK120.out 1).trans rfl; have hcz9_2 : w8.cell? ⟨gb120, 2, none⟩ = some (.int .i64 a0_2) := (bC BK120.out 2).trans rfl; have hcz9_3 : w8.cell? ⟨gb120, 3, none⟩ = some (.slice A0_3 l0_3.length c0_3) := (bC BK120.out 3).trans rfl; have hcz9_4 : w8.cell? ⟨gb120, 4, none⟩ = some (.slice A0_4 l0_4.length c0_4) := (bC BK120.out 4).trans rfl; have hfz9_0 := bZ BK120.out 0; have hfz9_1 := bZ BK120.out 1; have hfz9_2 := bZ BK120.out 2; have hfz9_3 := bZ BK120.out 3; have hfz9_4 := bZ BK120.out 4))
     go_ret
     exact ⟨by first | rfl | exact congrArg (fun b_ => Ending.returned (Value.bool b_)) HRET.out | (rw [HRET.out]) | (simp [errW_none, errW_some] <;> rfl) | (simp [*, errW_none, errW_some] <;> rfl), by repeat (first | (with_reducible first | exact HB.out | apply wA | apply wN | apply wD | refine wS ?_ GE120.out) | exact HB.out)⟩
   ·
    rw [if_neg c4] at H; have c4b0 : (a0_2 == 0) = false := beq_eq_false_iff_ne.mpr c4; have c4b1 : (a0_2 != 0) = true := bne_iff_ne.mpr c4; obtain rfl := Option.some.inj H
    go_enter Try.func48, Try.ntmps48
    go_wp2_with (first | ((with_reducible refine gate_dst (N := 1) rfl ?_); (try (refine gate_guard (by rfl) ?_; dsimp only)); refine box_event ?hg (N := 1) ?hd (cs := #[.int .i64 a0_0, .int .i64 a0_1, .int .i64 a0_2, .slice A0_3 l0_3.length c0_3, .slice A0_4 l0_4.length c0_4]) (t := 28) ?hr ?_; (case hd => rfl); (case hg => rfl); (case hr => first | (go_simp; done) | (go_simp; rfl)); intro gb120 hg w10 hbox hb; have n0_ := Aside0.mk (below_step (by repeat (first | (with_reducible first | exact HB.out | apply wA | apply wN | apply wD) | exact HB.out)) hb); have n1_ := Aside0.mk (hbox); have n2_ := Aside0.mk ((by rw [hg]; exact (below_size (by repeat (first | (with_reducible first | exact HB.out | apply wA | apply wN | apply wD) | exact HB.out))) : w.heap.size ≤ gb120)); have n3_ := Aside0.mk ((by rw [hg]; exact (below_size (by repeat (first | (with_reducible first | exact HB.out | apply wA | apply wN | apply wD) | exact HB.out))) : w.heap.size ≤ gb120)); clear HB; have HB := n0_; have BK120 := n1_; have GW120 := n2_; have GE120 := n3_; clear n0_ n1_ n2_ n3_; clear hb hbox hg; have hcz11_0 : w10.cell? ⟨gb120, 0, none⟩ = some (.int .i64 a0_0) := (bC BK120.out 0).trans rfl; have hcz11_1 : w10.cell? ⟨gb120, 1, none⟩ = some (.int .i64 a0_1) := (bC BK120.out 1).trans rfl; have hcz11_2 : w10.cell? ⟨gb120, 2, none⟩ = some (.int .i64 a0_2) := (bC BK120.out 2).trans rfl; have hcz11_3 : w10.cell? ⟨gb120, 3, none⟩ = some (.slice A0_3 l0_3.length c0_3) := (bC BK120.out 3).trans rfl; have hcz11_4 : w10.cell? ⟨gb120, 4, none⟩ = some (.slice A0_4 l0_4.length c0_4) := (bC BK120.out 4).trans rfl; have hfz11_0 := bZ BK120.out 0; have hfz11_1 := bZ BK120.out 1; have hfz11_2 := bZ BK120.out 2; have hfz11_3 := bZ BK120.out 3; have hfz11_4 := bZ BK120.out 4))
    go_ret
    exact ⟨by first | rfl | exact congrArg (fun b_ => Ending.returned (Value.bool b_)) HRET.out | (rw [HRET.out]) | (simp [errW_none, errW_some] <;> rfl) | (simp [*, errW_none, errW_some] <;> rfl), by repeat (first | (with_reducible first | exact HB.out | apply wA | apply wN | apply wD | refine wS ?_ GE120.out) | exact HB.out)⟩
  ·
   rw [if_neg c3] at H; have c3b0 : (a0_1 == 0) = false := beq_eq_false_iff_ne.mpr c3; have c3b1 : (a0_1 != 0) = true := bne_iff_ne.mpr c3; obtain rfl := Option.some.inj H
   go_enter Try.func48, Try.ntmps48
   go_wp2_with (first | ((with_reducible refine gate_dst (N := 1) rfl ?_); (try (refine gate_guard (by rfl) ?_; dsimp only)); refine box_event ?hg (N := 1) ?hd (cs := #[.int .i64 a0_0, .int .i64 a0_1, .int .i64 a0_2, .slice A0_3 l0_3.length c0_3, .slice A0_4 l0_4.length c0_4]) (t := 28) ?hr ?_; (case hd => rfl); (case hg => rfl); (case hr => first | (go_simp; done) | (go_simp; rfl)); intro gb120 hg w12 hbox hb; have n0_ := Aside0.mk (below_step (by repeat (first | (with_reducible first | exact HB.out | apply wA | apply wN | apply wD) | exact HB.out)) hb); have n1_ := Aside0.mk (hbox); have n2_ := Aside0.mk ((by rw [hg]; exact (below_size (by repeat (first | (with_reducible first | exact HB.out | apply wA | apply wN | apply wD) | exact HB.out))) : w.heap.size ≤ gb120)); have n3_ := Aside0.mk ((by rw [hg]; exact (below_size (by repeat (first | (with_reducible first | exact HB.out | apply wA | apply wN | apply wD) | exact HB.out))) : w.heap.size ≤ gb120)); clear HB; have HB := n0_; have BK120 := n1_; have GW120 := n2_; have GE120 := n3_; clear n0_ n1_ n2_ n3_; clear hb hbox hg; have hcz13_0 : w12.cell? ⟨gb120, 0, none⟩ = some (.int .i64 a0_0) := (bC BK120.out 0).trans rfl; have hcz13_1 : w12.cell? ⟨gb120, 1, none⟩ = some (.int .i64 a0_1) := (bC BK120.out 1).trans rfl; have hcz13_2 : w12.cell? ⟨gb120, 2, none⟩ = some (.int .i64 a0_2) := (bC BK120.out 2).trans rfl; have hcz13_3 : w12.cell? ⟨gb120, 3, none⟩ = some (.slice A0_3 l0_3.length c0_3) := (bC BK120.out 3).trans rfl; have hcz13_4 : w12.cell? ⟨gb120, 4, none⟩ = some (.slice A0_4 l0_4.length c0_4) := (bC BK120.out 4).trans rfl; have hfz13_0 := bZ BK120.out 0; have hfz13_1 := bZ BK120.out 1; have hfz13_2 := bZ BK120.out 2; have hfz13_3 := bZ BK120.out 3; have hfz13_4 := bZ BK120.out 4))
   go_ret
   exact ⟨by first | rfl | exact congrArg (fun b_ => Ending.returned (Value.bool b_)) HRET.out | (rw [HRET.out]) | (simp [errW_none, errW_some] <;> rfl) | (simp [*, errW_none, errW_some] <;> rfl), by repeat (first | (with_reducible first | exact HB.out | apply wA | apply wN | apply wD | refine wS ?_ GE120.out) | exact HB.out)⟩
 ·
  rw [if_neg c2] at H; have c2b0 : (a0_0 == 0) = false := beq_eq_false_iff_ne.mpr c2; have c2b1 : (a0_0 != 0) = true := bne_iff_ne.mpr c2
  by_cases c14 : a0_0 = 1
  ·
   rw [if_pos c14] at H; have c14b0 : (a0_0 == 1) = true := beq_iff_eq.mpr c14; have c14b1 : (a0_0 != 1) = false := bne_eq_false_iff_eq.mpr c14; clear c14; replace H := Option.bind_eq_some_iff.mp H; obtain ⟨t121, A150, H⟩ := H; replace H : (some t121) = some r := H; have A15 := Aside0.mk A150; clear A150; obtain rfl := Option.some.inj H
   go_enter Try.func48, Try.ntmps48
   go_wp2_with (first | ((with_reducible refine gate_dst (N := 1) rfl ?_); (try (refine gate_guard (by rfl) ?_; dsimp only)); refine box_event ?hg (N := 1) ?hd (cs := #[.int .i64 a0_0, .int .i64 a0_1, .int .i64 a0_2, .slice A0_3 l0_3.length c0_3, .slice A0_4 l0_4.length c0_4]) (t := 28) ?hr ?_; (case hd => rfl); (case hg => rfl); (case hr => first | (go_simp; done) | (go_simp; rfl)); intro gb120 hg w16 hbox hb; have n0_ := Aside0.mk (below_step (by repeat (first | (with_reducible first | exact HB.out | apply wA | apply wN | apply wD) | exact HB.out)) hb); have n1_ := Aside0.mk (hbox); have n2_ := Aside0.mk ((by rw [hg]; exact (below_size (by repeat (first | (with_reducible first | exact HB.out | apply wA | apply wN | apply wD) | exact HB.out))) : w.heap.size ≤ gb120)); have n3_ := Aside0.mk ((by rw [hg]; exact (below_size (by repeat (first | (with_reducible first | exact HB.out | apply wA | apply wN | apply wD) | exact HB.out))) : w.heap.size ≤ gb120)); clear HB; have HB := n0_; have BK120 := n1_; have GW120 := n2_; have GE120 := n3_; clear n0_ n1_ n2_ n3_; clear hb hbox hg; have hcz17_0 : w16.cell? ⟨gb120, 0, none⟩ = some (.int .i64 a0_0) := (bC BK120.out 0).trans rfl; have hcz17_1 : w16.cell? ⟨gb120, 1, none⟩ = some (.int .i64 a0_1) := (bC BK120.out 1).trans rfl; have hcz17_2 : w16.cell? ⟨gb120, 2, none⟩ = some (.int .i64 a0_2) := (bC BK120.out 2).trans rfl; have hcz17_3 : w16.cell? ⟨gb120, 3, none⟩ = some (.slice A0_3 l0_3.length c0_3) := (bC BK120.out 3).trans rfl; have hcz17_4 : w16.cell? ⟨gb120, 4, none⟩ = some (.slice A0_4 l0_4.length c0_4) := (bC BK120.out 4).trans rfl; have hfz17_0 := bZ BK120.out 0; have hfz17_1 := bZ BK120.out 1; have hfz17_2 := bZ BK120.out 2; have hfz17_3 := bZ BK120.out 3; have hfz17_4 := bZ BK120.out 4) | ((with_reducible refine gate_callee (f := 67) rfl ?_); refine goesL_ (some 30) rfl rfl Try.func67 (by kernel_rfl) rfl #[.agg #[.int .i64 a0_0, .int .i64 a0_1, .int .i64 a0_2, .slice A0_3 l0_3.length c0_3, .slice A0_4 l0_4.length c0_4]] rfl (by (try simp only [List.map_toArray, List.map_cons, List.map_nil]); first | done | rfl | (simp only [List.length_drop, List.length_take]; rfl)) ?_; (with_reducible refine (node_file.calls k a0_0 a0_1 a0_2 _ _ l0_3 _ _ l0_4 t121 _ ?side1 ?side2 ?side3 ?side4 A15.out).mono ?_); (case side1 => repeat (first | exact (Kd.C_below HR0_3.out HB.out) | (with_reducible refine Kd.C_alloc ?_ _) | (with_reducible refine Kd.C_drewN ?_ _) | (with_reducible refine Kd.C_drew ?_))); (case side2 => exact HC0_3.out); (case side3 => repeat (first | exact (Kd.C_below HR0_4.out HB.out) | (with_reducible refine Kd.C_alloc ?_ _) | (with_reducible refine Kd.C_drewN ?_ _) | (with_reducible refine Kd.C_drew ?_))); (case side4 => exact HC0_4.out); rintro e w18 ⟨rfl, hb⟩; refine ⟨_, rfl, ?_⟩; have n0_ := Aside0.mk (bB (g := gb120) (o := .cells #[.int .i64 a0_0, .int .i64 a0_1, .int .i64 a0_2, .slice A0_3 l0_3.length c0_3, .slice A0_4 l0_4.length c0_4] 28 (0, 0)) (by (with_reducible repeat (first | refine bN ?_ _ | refine bD ?_ | refine bA ?_ _)); exact BK120.out) hb); have n1_ := Aside0.mk (below_step (by repeat (first | (with_reducible first | exact HB.out | apply wA | apply wN | apply wD | refine wS ?_ GE120.out) | exact HB.out)) hb); clear BK120; clear HB; have BK120 := n0_; have HB := n1_; clear n0_ n1_; (try clear hb); (try clear hb2); (try clear hk); (try clear hi)))
   go_ret
   exact ⟨by first | rfl | exact congrArg (fun b_ => Ending.returned (Value.bool b_)) HRET.out | (rw [HRET.out]) | (simp [errW_none, errW_some] <;> rfl) | (simp [*, errW_none, errW_some] <;> rfl), by repeat (first | (with_reducible first | exact HB.out | apply wA | apply wN | apply wD | refine wS ?_ GE120.out) | exact HB.out)⟩
  ·
   rw [if_neg c14] at H; have c14b0 : (a0_0 == 1) = false := beq_eq_false_iff_ne.mpr c14; have c14b1 : (a0_0 != 1) = true := bne_iff_ne.mpr c14
   by_cases c19 : a0_0 = 2
   ·
    rw [if_pos c19] at H; have c19b0 : (a0_0 == 2) = true := beq_iff_eq.mpr c19; have c19b1 : (a0_0 != 2) = false := bne_eq_false_iff_eq.mpr c19; clear c19
    by_cases c20 : a0_1 = 1
    ·
     rw [if_pos c20] at H; have c20b0 : (a0_1 == 1) = true := beq_iff_eq.mpr c20; have c20b1 : (a0_1 != 1) = false := bne_eq_false_iff_eq.mpr c20; clear c20
     by_cases c21 : a0_2 = 0
     ·
      rw [if_pos c21] at H; have c21b0 : (a0_2 == 0) = true := beq_iff_eq.mpr c21; have c21b1 : (a0_2 != 0) = false := bne_eq_false_iff_eq.mpr c21; clear c21
      by_cases c22 : (l0_3.length : Int) = 0
      ·
       rw [if_pos c22] at H; have c22b0 : ((l0_3.length : Int) == 0) = true := beq_iff_eq.mpr c22; have c22b1 : ((l0_3.length : Int) != 0) = false := bne_eq_false_iff_eq.mpr c22; clear c22; replace H := Option.bind_eq_some_iff.mp H; obtain ⟨t122, A230, H⟩ := H; replace H : (some t122) = some r := H; have A23 := Aside0.mk A230; clear A230; obtain rfl := Option.some.inj H
       go_enter Try.func48, Try.ntmps48
       go_wp2_with (first | ((with_reducible refine gate_dst (N := 1) rfl ?_); (try (refine gate_guard (by rfl) ?_; dsimp only)); refine box_event ?hg (N := 1) ?hd (cs := #[.int .i64 a0_0, .int .i64 a0_1, .int .i64 a0_2, .slice A0_3 l0_3.length c0_3, .slice A0_4 l0_4.length c0_4]) (t := 28) ?hr ?_; (case hd => rfl); (case hg => rfl); (case hr => first | (go_simp; done) | (go_simp; rfl)); intro gb120 hg w24 hbox hb; have n0_ := Aside0.mk (below_step (by repeat (first | (with_reducible first | exact HB.out | apply wA | apply wN | apply wD) | exact HB.out)) hb); have n1_ := Aside0.mk (hbox); have n2_ := Aside0.mk ((by rw [hg]; exact (below_size (by repeat (first | (with_reducible first | exact HB.out | apply wA | apply wN | apply wD) | exact HB.out))) : w.heap.size ≤ gb120)); have n3_ := Aside0.mk ((by rw [hg]; exact (below_size (by repeat (first | (with_reducible first | exact HB.out | apply wA | apply wN | apply wD) | exact HB.out))) : w.heap.size ≤ gb120)); clear HB; have HB := n0_; have BK120 := n1_; have GW120 := n2_; have GE120 := n3_; clear n0_ n1_ n2_ n3_; clear hb hbox hg; have hcz25_0 : w24.cell? ⟨gb120, 0, none⟩ = some (.int .i64 a0_0) := (bC BK120.out 0).trans rfl; have hcz25_1 : w24.cell? ⟨gb120, 1, none⟩ = some (.int .i64 a0_1) := (bC BK120.out 1).trans rfl; have hcz25_2 : w24.cell? ⟨gb120, 2, none⟩ = some (.int .i64 a0_2) := (bC BK120.out 2).trans rfl; have hcz25_3 : w24.cell? ⟨gb120, 3, none⟩ = some (.slice A0_3 l0_3.length c0_3) := (bC BK120.out 3).trans rfl; have hcz25_4 : w24.cell? ⟨gb120, 4, none⟩ = some (.slice A0_4 l0_4.length c0_4) := (bC BK120.out 4).trans rfl; have hfz25_0 := bZ BK120.out 0; have hfz25_1 := bZ BK120.out 1; have hfz25_2 := bZ BK120.out 2; have hfz25_3 := bZ BK120.out 3; have hfz25_4 := bZ BK120.out 4) | (go_at_call 68; (with_reducible refine (name_May.calls k _ _ l0_4 t122 _ ?side1 ?side2 A23.out).mono ?_); (case side1 => repeat (first | exact (Kd.C_below HR0_4.out HB.out) | (with_reducible refine Kd.C_alloc ?_ _) | (with_reducible refine Kd.C_drewN ?_ _) | (with_reducible refine Kd.C_drew ?_))); (case side2 => exact HC0_4.out); rintro e w26 ⟨rfl, hb⟩; have n0_ := Aside0.mk (bB (g := gb120) (o := .cells #[.int .i64 a0_0, .int .i64 a0_1, .int .i64 a0_2, .slice A0_3 l0_3.length c0_3, .slice A0_4 l0_4.length c0_4] 28 (0, 0)) (by (with_reducible repeat (first | refine bN ?_ _ | refine bD ?_ | refine bA ?_ _)); exact BK120.out) hb); have n1_ := Aside0.mk (below_step (by repeat (first | (with_reducible first | exact HB.out | apply wA | apply wN | apply wD | refine wS ?_ GE120.out) | exact HB.out)) hb); clear BK120; clear HB; have BK120 := n0_; have HB := n1_; clear n0_ n1_; (try clear hb); (try clear hb2); (try clear hk); (try clear hi)))
       go_ret
       exact ⟨by first | rfl | exact congrArg (fun b_ => Ending.returned (Value.bool b_)) HRET.out | (rw [HRET.out]) | (simp [errW_none, errW_some] <;> rfl) | (simp [*, errW_none, errW_some] <;> rfl), by repeat (first | (with_reducible first | exact HB.out | apply wA | apply wN | apply wD | refine wS ?_ GE120.out) | exact HB.out)⟩
      ·
       rw [if_neg c22] at H; have c22b0 : ((l0_3.length : Int) == 0) = false := beq_eq_false_iff_ne.mpr c22; have c22b1 : ((l0_3.length : Int) != 0) = true := bne_iff_ne.mpr c22
       have c22b2 : ¬ (l0_3 = []) := fun h_ => c22 (by rw [h_]; rfl)
       obtain rfl := Option.some.inj H
       go_enter Try.func48, Try.ntmps48
       go_wp2_with (first | ((with_reducible refine gate_dst (N := 1) rfl ?_); (try (refine gate_guard (by rfl) ?_; dsimp only)); refine box_event ?hg (N := 1) ?hd (cs := #[.int .i64 a0_0, .int .i64 a0_1, .int .i64 a0_2, .slice A0_3 l0_3.length c0_3, .slice A0_4 l0_4.length c0_4]) (t := 28) ?hr ?_; (case hd => rfl); (case hg => rfl); (case hr => first | (go_simp; done) | (go_simp; rfl)); intro gb120 hg w27 hbox hb; have n0_ := Aside0.mk (below_step (by repeat (first | (with_reducible first | exact HB.out | apply wA | apply wN | apply wD) | exact HB.out)) hb); have n1_ := Aside0.mk (hbox); have n2_ := Aside0.mk ((by rw [hg]; exact (below_size (by repeat (first | (with_reducible first | exact HB.out | apply wA | apply wN | apply wD) | exact HB.out))) : w.heap.size ≤ gb120)); have n3_ := Aside0.mk ((by rw [hg]; exact (below_size (by repeat (first | (with_reducible first | exact HB.out | apply wA | apply wN | apply wD) | exact HB.out))) : w.heap.size ≤ gb120)); clear HB; have HB := n0_; have BK120 := n1_; have GW120 := n2_; have GE120 := n3_; clear n0_ n1_ n2_ n3_; clear hb hbox hg; have hcz28_0 : w27.cell? ⟨gb120, 0, none⟩ = some (.int .i64 a0_0) := (bC BK120.out 0).trans rfl; have hcz28_1 : w27.cell? ⟨gb120, 1, none⟩ = some (.int .i64 a0_1) := (bC BK120.out 1).trans rfl; have hcz28_2 : w27.cell? ⟨gb120, 2, none⟩ = some (.int .i64 a0_2) := (bC BK120.out 2).trans rfl; have hcz28_3 : w27.cell? ⟨gb120, 3, none⟩ = some (.slice A0_3 l0_3.length c0_3) := (bC BK120.out 3).trans rfl; have hcz28_4 : w27.cell? ⟨gb120, 4, none⟩ = some (.slice A0_4 l0_4.length c0_4) := (bC BK120.out 4).trans rfl; have hfz28_0 := bZ BK120.out 0; have hfz28_1 := bZ BK120.out 1; have hfz28_2 := bZ BK120.out 2; have hfz28_3 := bZ BK120.out 3; have hfz28_4 := bZ BK120.out 4))
       go_ret
       exact ⟨by first | rfl | exact congrArg (fun b_ => Ending.returned (Value.bool b_)) HRET.out | (rw [HRET.out]) | (simp [errW_none, errW_some] <;> rfl) | (simp [*, errW_none, errW_some] <;> rfl), by repeat (first | (with_reducible first | exact HB.out | apply wA | apply wN | apply wD | refine wS ?_ GE120.out) | exact HB.out)⟩
     ·
      rw [if_neg c21] at H; have c21b0 : (a0_2 == 0) = false := beq_eq_false_iff_ne.mpr c21; have c21b1 : (a0_2 != 0) = true := bne_iff_ne.mpr c21; obtain rfl := Option.some.inj H
      go_enter Try.func48, Try.ntmps48
      go_wp2_with (first | ((with_reducible refine gate_dst (N := 1) rfl ?_); (try (refine gate_guard (by rfl) ?_; dsimp only)); refine box_event ?hg (N := 1) ?hd (cs := #[.int .i64 a0_0, .int .i64 a0_1, .int .i64 a0_2, .slice A0_3 l0_3.length c0_3, .slice A0_4 l0_4.length c0_4]) (t := 28) ?hr ?_; (case hd => rfl); (case hg => rfl); (case hr => first | (go_simp; done) | (go_simp; rfl)); intro gb120 hg w29 hbox hb; have n0_ := Aside0.mk (below_step (by repeat (first | (with_reducible first | exact HB.out | apply wA | apply wN | apply wD) | exact HB.out)) hb); have n1_ := Aside0.mk (hbox); have n2_ := Aside0.mk ((by rw [hg]; exact (below_size (by repeat (first | (with_reducible first | exact HB.out | apply wA | apply wN | apply wD) | exact HB.out))) : w.heap.size ≤ gb120)); have n3_ := Aside0.mk ((by rw [hg]; exact (below_size (by repeat (first | (with_reducible first | exact HB.out | apply wA | apply wN | apply wD) | exact HB.out))) : w.heap.size ≤ gb120)); clear HB; have HB := n0_; have BK120 := n1_; have GW120 := n2_; have GE120 := n3_; clear n0_ n1_ n2_ n3_; clear hb hbox hg; have hcz30_0 : w29.cell? ⟨gb120, 0, none⟩ = some (.int .i64 a0_0) := (bC BK120.out 0).trans rfl; have hcz30_1 : w29.cell? ⟨gb120, 1, none⟩ = some (.int .i64 a0_1) := (bC BK120.out 1).trans rfl; have hcz30_2 : w29.cell? ⟨gb120, 2, none⟩ = some (.int .i64 a0_2) := (bC BK120.out 2).trans rfl; have hcz30_3 : w29.cell? ⟨gb120, 3, none⟩ = some (.slice A0_3 l0_3.length c0_3) := (bC BK120.out 3).trans rfl; have hcz30_4 : w29.cell? ⟨gb120, 4, none⟩ = some (.slice A0_4 l0_4.length c0_4) := (bC BK120.out 4).trans rfl; have hfz30_0 := bZ BK120.out 0; have hfz30_1 := bZ BK120.out 1; have hfz30_2 := bZ BK120.out 2; have hfz30_3 := bZ BK120.out 3; have hfz30_4 := bZ BK120.out 4))
      go_ret
      exact ⟨by first | rfl | exact congrArg (fun b_ => Ending.returned (Value.bool b_)) HRET.out | (rw [HRET.out]) | (simp [errW_none, errW_some] <;> rfl) | (simp [*, errW_none, errW_some] <;> rfl), by repeat (first | (with_reducible first | exact HB.out | apply wA | apply wN | apply wD | refine wS ?_ GE120.out) | exact HB.out)⟩
    ·
     rw [if_neg c20] at H; have c20b0 : (a0_1 == 1) = false := beq_eq_false_iff_ne.mpr c20; have c20b1 : (a0_1 != 1) = true := bne_iff_ne.mpr c20; obtain rfl := Option.some.inj H
     go_enter Try.func48, Try.ntmps48
     go_wp2_with (first | ((with_reducible refine gate_dst (N := 1) rfl ?_); (try (refine gate_guard (by rfl) ?_; dsimp only)); refine box_event ?hg (N := 1) ?hd (cs := #[.int .i64 a0_0, .int .i64 a0_1, .int .i64 a0_2, .slice A0_3 l0_3.length c0_3, .slice A0_4 l0_4.length c0_4]) (t := 28) ?hr ?_; (case hd => rfl); (case hg => rfl); (case hr => first | (go_simp; done) | (go_simp; rfl)); intro gb120 hg w31 hbox hb; have n0_ := Aside0.mk (below_step (by repeat (first | (with_reducible first | exact HB.out | apply wA | apply wN | apply wD) | exact HB.out)) hb); have n1_ := Aside0.mk (hbox); have n2_ := Aside0.mk ((by rw [hg]; exact (below_size (by repeat (first | (with_reducible first | exact HB.out | apply wA | apply wN | apply wD) | exact HB.out))) : w.heap.size ≤ gb120)); have n3_ := Aside0.mk ((by rw [hg]; exact (below_size (by repeat (first | (with_reducible first | exact HB.out | apply wA | apply wN | apply wD) | exact HB.out))) : w.heap.size ≤ gb120)); clear HB; have HB := n0_; have BK120 := n1_; have GW120 := n2_; have GE120 := n3_; clear n0_ n1_ n2_ n3_; clear hb hbox hg; have hcz32_0 : w31.cell? ⟨gb120, 0, none⟩ = some (.int .i64 a0_0) := (bC BK120.out 0).trans rfl; have hcz32_1 : w31.cell? ⟨gb120, 1, none⟩ = some (.int .i64 a0_1) := (bC BK120.out 1).trans rfl; have hcz32_2 : w31.cell? ⟨gb120, 2, none⟩ = some (.int .i64 a0_2) := (bC BK120.out 2).trans rfl; have hcz32_3 : w31.cell? ⟨gb120, 3, none⟩ = some (.slice A0_3 l0_3.length c0_3) := (bC BK120.out 3).trans rfl; have hcz32_4 : w31.cell? ⟨gb120, 4, none⟩ = some (.slice A0_4 l0_4.length c0_4) := (bC BK120.out 4).trans rfl; have hfz32_0 := bZ BK120.out 0; have hfz32_1 := bZ BK120.out 1; have hfz32_2 := bZ BK120.out 2; have hfz32_3 := bZ BK120.out 3; have hfz32_4 := bZ BK120.out 4))
     go_ret
     exact ⟨by first | rfl | exact congrArg (fun b_ => Ending.returned (Value.bool b_)) HRET.out | (rw [HRET.out]) | (simp [errW_none, errW_some] <;> rfl) | (simp [*, errW_none, errW_some] <;> rfl), by repeat (first | (with_reducible first | exact HB.out | apply wA | apply wN | apply wD | refine wS ?_ GE120.out) | exact HB.out)⟩
   ·
    rw [if_neg c19] at H; have c19b0 : (a0_0 == 2) = false := beq_eq_false_iff_ne.mpr c19; have c19b1 : (a0_0 != 2) = true := bne_iff_ne.mpr c19; obtain rfl := Option.some.inj H
    go_enter Try.func48, Try.ntmps48
    go_wp2_with (first | ((with_reducible refine gate_dst (N := 1) rfl ?_); (try (refine gate_guard (by rfl) ?_; dsimp only)); refine box_event ?hg (N := 1) ?hd (cs := #[.int .i64 a0_0, .int .i64 a0_1, .int .i64 a0_2, .slice A0_3 l0_3.length c0_3, .slice A0_4 l0_4.length c0_4]) (t := 28) ?hr ?_; (case hd => rfl); (case hg => rfl); (case hr => first | (go_simp; done) | (go_simp; rfl)); intro gb120 hg w33 hbox hb; have n0_ := Aside0.mk (below_step (by repeat (first | (with_reducible first | exact HB.out | apply wA | apply wN | apply wD) | exact HB.out)) hb); have n1_ := Aside0.mk (hbox); have n2_ := Aside0.mk ((by rw [hg]; exact (below_size (by repeat (first | (with_reducible first | exact HB.out | apply wA | apply wN | apply wD) | exact HB.out))) : w.heap.size ≤ gb120)); have n3_ := Aside0.mk ((by rw [hg]; exact (below_size (by repeat (first | (with_reducible first | exact HB.out | apply wA | apply wN | apply wD) | exact HB.out))) : w.heap.size ≤ gb120)); clear HB; have HB := n0_; have BK120 := n1_; have GW120 := n2_; have GE120 := n3_; clear n0_ n1_ n2_ n3_; clear hb hbox hg; have hcz34_0 : w33.cell? ⟨gb120, 0, none⟩ = some (.int .i64 a0_0) := (bC BK120.out 0).trans rfl; have hcz34_1 : w33.cell? ⟨gb120, 1, none⟩ = some (.int .i64 a0_1) := (bC BK120.out 1).trans rfl; have hcz34_2 : w33.cell? ⟨gb120, 2, none⟩ = some (.int .i64 a0_2) := (bC BK120.out 2).trans rfl; have hcz34_3 : w33.cell? ⟨gb120, 3, none⟩ = some (.slice A0_3 l0_3.length c0_3) := (bC BK120.out 3).trans rfl; have hcz34_4 : w33.cell? ⟨gb120, 4, none⟩ = some (.slice A0_4 l0_4.length c0_4) := (bC BK120.out 4).trans rfl; have hfz34_0 := bZ BK120.out 0; have hfz34_1 := bZ BK120.out 1; have hfz34_2 := bZ BK120.out 2; have hfz34_3 := bZ BK120.out 3; have hfz34_4 := bZ BK120.out 4))
    go_ret
    exact ⟨by first | rfl | exact congrArg (fun b_ => Ending.returned (Value.bool b_)) HRET.out | (rw [HRET.out]) | (simp [errW_none, errW_some] <;> rfl) | (simp [*, errW_none, errW_some] <;> rfl), by repeat (first | (with_reducible first | exact HB.out | apply wA | apply wN | apply wD | refine wS ?_ GE120.out) | exact HB.out)⟩
/-- The first node that may not be, counted from i; -1 where there is none. -/
def badAt (k : Nat) : List S28 → Int → Option Int
 | [], _ => some (-1)
 | x :: r, i => (node_May.f k x.f0 x.f1 x.f2 x.f3 x.f4).bind fun b => if b = true then badAt k r (i + 1) else some i
theorem badAt_mono (k : Nat) : ∀ (l : List S28) (i : Int), LeO (badAt k l i) (badAt (k + 1) l i)
 | [], _ => LeO.refl _
 | x :: r, i => LeO.bind (node_May.mono _ _ _ _ _ _) (fun b => LeO.ite (badAt_mono k r (i + 1)) (LeO.refl _))
set_option maxHeartbeats 4000000 in
theorem bad_clo (k : Nat) (a0 a1 a2 : Int) (A3 : Option Addr) (c3 : Nat) (l3 : List Int) (A4 : Option Addr) (c4 : Nat) (l4 : List S78) (b : Bool) (w : World)
 (hr3 : Kd.C (Kd.int .i64) w A3 l3.length l3) (hc3 : l3.length ≤ c3) (hr4 : Kd.C k78 w A4 l4.length l4) (hc4 : l4.length ≤ c4) (h : node_May.f k a0 a1 a2 l3 l4 = some b) :
 Calls Try.prog 65 #[.agg #[.int .i64 a0, .int .i64 a1, .int .i64 a2, .slice A3 l3.length c3, .slice A4 l4.length c4]] w fun e w' => e = .returned (.bool (!b)) ∧ Below w.heap.size w w' := by
 have hu28 := Try.underlying28; have HR3 := Aside0.mk hr3; have HC3 := Aside0.mk hc3; clear hr3 hc3; have HR4 := Aside0.mk hr4; have HC4 := Aside0.mk hc4; clear hr4 hc4; have HB := Aside0.mk (Below.refl w.heap.size w); have HH := Aside0.mk h; clear h
 go_enter Try.func65, Try.ntmps65
 go_wp2_with (first | ((with_reducible refine gate_dst (N := 1) rfl ?_); refine box_event ?hg (N := 1) ?hd (cs := #[.int .i64 a0, .int .i64 a1, .int .i64 a2, .slice A3 l3.length c3, .slice A4 l4.length c4]) (t := 28) ?hr ?_; (case hd => rfl); (case hg => rfl); (case hr => first | (go_simp; done) | (go_simp; rfl)); intro gb hg w2 hbox hb; have n0_ := Aside0.mk (below_step HB.out hb); clear HB; have HB := n0_; clear n0_; clear hb hg; have hcz0 := (bC hbox 0).trans rfl; have hcz1 := (bC hbox 1).trans rfl; have hcz2 := (bC hbox 2).trans rfl; have hcz3 := (bC hbox 3).trans rfl; have hcz4 := (bC hbox 4).trans rfl) | (go_at_call 48; refine (node_May.calls k a0 a1 a2 _ _ l3 _ _ l4 b _ ?side1 ?side2 ?side3 ?side4 HH.out).mono ?_; (case side1 => exact (Kd.C_below HR3.out HB.out)); (case side2 => exact HC3.out); (case side3 => exact (Kd.C_below HR4.out HB.out)); (case side4 => exact HC4.out); rintro e w' ⟨rfl, hb⟩; have n0_ := Aside0.mk (below_step HB.out hb); clear HB; have HB := n0_; clear n0_ hb))
 all_goals (go_ret; exact ⟨by simp, HB.out⟩)
set_option maxHeartbeats 8000000 in
theorem off_idx (k : Nat) (A : Option Addr) (c : Nat) (l : List S28) (r : Int) (w : World) (hr : Kd.C k28 w A l.length l) (hc : l.length ≤ c) (hL : (l.length : Int) < 9223372036854775807) (hr_ : badAt k l 0 = some r) :
 Calls Try.prog 80 #[.slice A l.length c, .func (.func 65) #[] #[]] w fun e w' => e = .returned (.int .i64 r) ∧ Below w.heap.size w w' := by
 have hu28 := Try.underlying28; have HR0 := Aside0.mk hr; have HB := Aside0.mk (Below.refl w.heap.size w); have HP := Aside0.mk hr_; have LL := Aside0.mk hL; clear hr hc hr_ hL
 go_enter Try.func80, Try.ntmps80
 go_wp2
 go_loopg [5, 8] l.length (fun gk v5 v8 w' => ∃ kk : Nat, kk ≤ l.length ∧ l.length - kk ≤ gk ∧ v8 = .int .i64 kk ∧ Aside0 (badAt k (l.drop kk) kk = some r) ∧ Aside0 (Below w.heap.size w w'))
 case atStart => exact ⟨0, Nat.zero_le _, by omega, rfl, ⟨by simpa using HP.out⟩, HB⟩
 case round =>
  obtain ⟨kk, hkk, hgk, rfl, HQ, HB⟩ := hrel; clear HP
  by_cases hlt : kk < l.length
  ·
   have c3b0 : decide ((kk : Int) < (l.length : Int)) = true := decide_eq_true (by omega)
   have p124 : 0 ≤ (kk : Int) := by omega
   have q124 : (kk : Int) < (l.length : Int) := by omega
   obtain ⟨ad124, A3, c3, A4, c4, e124, hx124_0, hx124_1, hx124_2, hx124_3, hx124_4, hl3, hi3, hl4, hi4⟩ := at_T28 HR0.out kk p124 q124
   cases e124
   replace hx124_0 := (HB.out.cell (World.block_lt_of_cell? w _ hx124_0)).trans hx124_0; replace hx124_1 := (HB.out.cell (World.block_lt_of_cell? w _ hx124_1)).trans hx124_1; replace hx124_2 := (HB.out.cell (World.block_lt_of_cell? w _ hx124_2)).trans hx124_2; replace hx124_3 := (HB.out.cell (World.block_lt_of_cell? w _ hx124_3)).trans hx124_3; replace hx124_4 := (HB.out.cell (World.block_lt_of_cell? w _ hx124_4)).trans hx124_4; simp only [Int.toNat_natCast] at hx124_0 hx124_1 hx124_2 hx124_3 hx124_4; replace p124 := eq_true p124; replace q124 := eq_true q124
   have hd : l.drop kk = rd_T28 l kk :: l.drop (kk + 1) := by
    rw [List.drop_eq_getElem_cons hlt]; unfold rd_T28; rw [Int.toNat_natCast, List.getD_eq_getElem?_getD, List.getElem?_eq_getElem hlt]; rfl
   have hq := HQ.out; rw [hd] at hq; simp only [badAt] at hq; obtain ⟨b, hb0, hq⟩ := Option.bind_eq_some_iff.mp hq; have hW : kk + 1 ≤ l.length := hlt
   have HC0 := fun W hW => bad_clo k (rd_T28 l kk).f0 (rd_T28 l kk).f1 (rd_T28 l kk).f2 A3 c3 (rd_T28 l kk).f3 A4 c4 (rd_T28 l kk).f4 b W (Kd.C_below hi3 hW) hl3 (Kd.C_below hi4 hW) hl4 hb0
   have HC := Aside0.mk HC0; clear hd hi3 hi4 hl3 hl4 hb0 HC0
   cases b with
   | false =>
    rw [if_neg (by decide)] at hq; obtain rfl := Option.some.inj hq; clear hq
    go_wp2_with (go_at_call 65; refine (HC.out _ HB.out).mono ?_; rintro e w' ⟨rfl, hb'⟩)
    go_ret
    exact ⟨rfl, below_step HB.out hb'⟩
   | true =>
    rw [if_pos rfl] at hq; have HQ := Aside0.mk hq; clear hq
    go_wp2_with (go_at_call 65; refine (HC.out _ HB.out).mono ?_; rintro e w' ⟨rfl, hb'⟩)
    go_roundg (l.length - (kk + 1))
    case measure => omega
    case rel =>
     have e_ : wrap64 ((kk : Int) + 1) = ((kk + 1 : Nat) : Int) := by have := LL.out; unfold wrap64; omega
     exact ⟨kk + 1, by omega, by omega, by rw [e_], ⟨by have := HQ.out; push_cast; exact this⟩, ⟨below_step HB.out hb'⟩⟩
  ·
   have : kk = l.length := by omega
   subst this; have hq := HQ.out; rw [List.drop_length] at hq; simp only [badAt] at hq; obtain rfl := Option.some.inj hq
   go_wp2
   go_ret
   exact ⟨rfl, HB.out⟩
set_option maxHeartbeats 4000000 in
theorem off_any (k : Nat) (A : Option Addr) (c : Nat) (l : List S28) (r : Int) (w : World) (hr : Kd.C k28 w A l.length l) (hc : l.length ≤ c) (hL : (l.length : Int) < 9223372036854775807) (hr_ : badAt k l 0 = some r) :
 Calls Try.prog 64 #[.slice A l.length c, .func (.func 65) #[] #[]] w fun e w' => e = .returned (.bool (decide (0 ≤ r))) ∧ Below w.heap.size w w' := by
 have hcon := off_idx k A c l r w hr hc hL hr_; clear hr_ hr hc hL
 go_enter Try.func64, Try.ntmps64
 go_wp2_with (go_at_call 80; refine hcon.mono ?_; rintro e w' ⟨rfl, hb'⟩)
 go_ret
 exact ⟨rfl, hb'⟩
set_option maxHeartbeats 4000000 in
theorem off_walk (k : Nat) (A : Option Addr) (c : Nat) (l : List S28) (r : Bool) (w : World) (hr : Kd.C k28 w A l.length l) (hc : l.length ≤ c) (h : (if l.length = 12 then (badAt k l 0).bind fun i => some (decide (0 ≤ i)) else some true) = some r) :
 Calls Try.prog 45 #[.agg #[.slice A l.length c]] w fun e w' => e = .returned (.bool r) ∧ Below w.heap.size w w' := by
 have hu24 := Try.underlying24; have HB := Aside0.mk (Below.refl w.heap.size w)
 by_cases h4 : l.length = 12
 ·
  rw [if_pos h4] at h; obtain ⟨i, hi, h⟩ := Option.bind_eq_some_iff.mp h; obtain rfl := Option.some.inj h; have hcon := Aside0.mk (fun W (hW : Below w.heap.size w W) => off_any k A c l i W (Kd.C_below hr hW) hc (by omega) hi); have e4 : ((l.length : Int) != 12) = false := bne_eq_false_iff_eq.mpr (by omega); clear h4 hi hr hc
  go_enter Try.func45, Try.ntmps45
  go_wp2_with (first | ((with_reducible refine gate_dst (N := 1) rfl ?_); refine box_event ?hg (N := 1) ?hd (cs := #[.slice A l.length c]) (t := 24) ?hr ?_; (case hd => rfl); (case hg => rfl); (case hr => first | (go_simp; done) | (go_simp; rfl)); intro gb hg w2 hbox hb; have n0_ := Aside0.mk (below_step HB.out hb); clear HB; have HB := n0_; clear n0_; clear hb hg; have hcz0 : w2.cell? ⟨gb, 0, none⟩ = some (.slice A l.length c) := (bC hbox 0).trans rfl) | (go_at_call 64; refine (hcon.out _ HB.out).mono ?_; rintro e w' ⟨rfl, hb'⟩; have n0_ := Aside0.mk (below_step HB.out hb'); clear HB; have HB := n0_; clear n0_ hb'))
  go_ret
  exact ⟨rfl, HB.out⟩
 ·
  rw [if_neg h4] at h; obtain rfl := Option.some.inj h; have e4 : ((l.length : Int) != 12) = true := bne_iff_ne.mpr (by omega); clear hr hc
  go_enter Try.func45, Try.ntmps45
  go_wp2_with (first | ((with_reducible refine gate_dst (N := 1) rfl ?_); refine box_event ?hg (N := 1) ?hd (cs := #[.slice A l.length c]) (t := 24) ?hr ?_; (case hd => rfl); (case hg => rfl); (case hr => first | (go_simp; done) | (go_simp; rfl)); intro gb hg w2 hbox hb; have n0_ := Aside0.mk (below_step HB.out hb); clear HB; have HB := n0_; clear n0_; clear hb hg; have hcz0 : w2.cell? ⟨gb, 0, none⟩ = some (.slice A l.length c) := (bC hbox 0).trans rfl))
  go_ret
  exact ⟨rfl, HB.out⟩
def quota_off.f (k : Nat) (l0_0 : List (S28)) : Option (Bool) := if l0_0.length = 12 then (badAt k l0_0 0).bind fun i => some (decide (0 ≤ i)) else some true
theorem quota_off.mono : ∀ a0 k, LeO (quota_off.f k a0) (quota_off.f (k + 1) a0) := fun a0 k => LeO.ite (LeO.bind (badAt_mono k a0 0) (fun _ => LeO.refl _)) (LeO.refl _)
theorem quota_off.calls (k : Nat) (A0_0 : Option Addr) (c0_0 : Nat) (l0_0 : List (S28)) (r : Bool) (w : World) (hr0_0 : Kd.C k28 w A0_0 l0_0.length l0_0) (hc0_0 : l0_0.length ≤ c0_0) (h : quota_off.f k l0_0 = some r) :
 Calls Try.prog 45 #[.agg #[.slice A0_0 l0_0.length c0_0]] w fun e w' => e = .returned (.bool r) ∧ Below w.heap.size w w' := by
 unfold quota_off.f at h
 exact off_walk k A0_0 c0_0 l0_0 r w hr0_0 hc0_0 h
end Go.Proofs.Ytkigiehkckjlhaa.PSums
