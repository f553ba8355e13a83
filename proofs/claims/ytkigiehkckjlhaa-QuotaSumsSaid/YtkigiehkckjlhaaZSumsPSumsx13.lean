/- The Go functions that these laws reach, each as a Lean function with the same answers (a law itself where it answers true), and the proof that the code comes to them; conditions: those of each theorem. Laid by a program of this session over the print. -/
import Derived.Test.YtkigiehkckjlhaaZSumsPSumsx0
import Derived.Test.YtkigiehkckjlhaaZSumsPSumsx12
namespace Go.Proofs.Ytkigiehkckjlhaa.PSums
open Go.RowKit Go.Proofs.YtkigiehkckjlhaaW.PrintWords Go.Proofs.YtkigiehkckjlhaaW.PrintLast Go.Proofs.YtkigiehkckjlhaaW.PrintMore
attribute [local go_sem] max2_int min2_int max_two min_two max_three min_three max_four min_four   -- for this text's walks alone
set_option linter.unusedVariables false
set_option linter.unusedSimpArgs false
open Go.Proofs.YtkigiehkckjlhaaW.PrintWords renaming blk_drewN → bN, blk_drew → bD, blk_alloc → bA, below_set → wS, below_alloc → wA, pw_below_drewN → wN, below_drew1 → wD, blk_below → bB, blk_far → bF, blk_cell → bC, blk_frozen → bZ
open List renaming setIfInBounds_toArray → lT, set_cons_zero → l0_, set_cons_succ → lS
mutual
def potsherdref12_MayNode.j0 : Nat → Bool → Int → Int → Int → List Int → List (S78) → Option (Bool)
 | 0, _, _, _, _, _, _ => none
 | k + 1, x81, x199000, x199001, x199002, x199003, x199004 => if x81 = true then (some false) else (potsherdref12_MayNode.l0 k x199003 (x199003.length : Int) 0 x199000 x199001 x199002 x199003 x199004)
def potsherdref12_MayNode.l0 : Nat → List Int → Int → Int → Int → Int → Int → List Int → List (S78) → Option (Bool)
 | 0, _, _, _, _, _, _, _, _ => none
 | k + 1, x83, x84, x85, x199000, x199001, x199002, x199003, x199004 => if x85 < x84 then (if 0 ≤ x85 then (if x85 < (x83.length : Int) then (if (rd x83 x85) < 0 then (some false) else (if (rd x83 x85) > 1099511627776 then (some false) else (if (rd x83 x85) = 0 then (potsherdref12_MayNode.l0 k x83 x84 (wrap64 (x85 + 1)) x199000 x199001 x199002 x199003 x199004) else (if (wrap64 (x85 * 16)) ≥ x199002 then (some false) else (potsherdref12_MayNode.l0 k x83 x84 (wrap64 (x85 + 1)) x199000 x199001 x199002 x199003 x199004))))) else (none)) else (none)) else (some true)
end
def potsherdref12_MayNode.f (k : Nat) (a0_0 : Int) (a0_1 : Int) (a0_2 : Int) (l0_3 : List Int) (l0_4 : List (S78)) : Option (Bool) := if a0_0 = 0 then (if a0_1 = 0 then (if a0_2 = 0 then (if (l0_3.length : Int) = 0 then (some ((l0_4.length : Int) == 0)) else (some false)) else (some false)) else (some false)) else (if a0_0 = 2 then (if a0_1 = 1 then (if a0_2 = 0 then (if (l0_3.length : Int) = 0 then ((potsherdref12_MayEntries.f k l0_4).bind fun t199 => (some t199)) else (some false)) else (some false)) else (some false)) else (if a0_0 = 1 then (if a0_1 < 0 then (potsherdref12_MayNode.j0 k true a0_0 a0_1 a0_2 l0_3 l0_4) else (if a0_1 > 120 then (potsherdref12_MayNode.j0 k true a0_0 a0_1 a0_2 l0_3 l0_4) else (if a0_2 < 0 then (potsherdref12_MayNode.j0 k true a0_0 a0_1 a0_2 l0_3 l0_4) else (if a0_2 > 80 then (potsherdref12_MayNode.j0 k true a0_0 a0_1 a0_2 l0_3 l0_4) else (if (l0_3.length : Int) = 5 then (potsherdref12_MayNode.j0 k ((l0_4.length : Int) != 0) a0_0 a0_1 a0_2 l0_3 l0_4) else (potsherdref12_MayNode.j0 k true a0_0 a0_1 a0_2 l0_3 l0_4)))))) else (some false)))
theorem potsherdref12_MayNode.mono_l : ∀ k, (∀ y0 y1 y2 y3 y4 y5, LeO (potsherdref12_MayNode.j0 k y0 y1 y2 y3 y4 y5) (potsherdref12_MayNode.j0 (k + 1) y0 y1 y2 y3 y4 y5)) ∧ (∀ y0 y1 y2 y3 y4 y5 y6 y7, LeO (potsherdref12_MayNode.l0 k y0 y1 y2 y3 y4 y5 y6 y7) (potsherdref12_MayNode.l0 (k + 1) y0 y1 y2 y3 y4 y5 y6 y7))
 | 0 => ⟨fun _ _ _ _ _ _ r h => by simp [potsherdref12_MayNode.j0] at h, fun _ _ _ _ _ _ _ _ r h => by simp [potsherdref12_MayNode.l0] at h⟩
 | k + 1 => by
  obtain ⟨ih0, ih1⟩ := potsherdref12_MayNode.mono_l k; refine ⟨?_, ?_⟩
  ·
   intro y0 y1 y2 y3 y4 y5
   unfold potsherdref12_MayNode.j0
   repeat' first
   | (with_reducible exact ih0 _ _ _ _ _ _)
   | (with_reducible exact ih1 _ _ _ _ _ _ _ _)
   | (with_reducible exact potsherdref12_MayEntries.mono _ _)
   | (with_reducible exact LeO.refl _)
   | (with_reducible exact LeO.none _)
   | (with_reducible refine LeO.ite ?_ ?_)
   | (with_reducible refine LeO.bind ?_ (fun _ => ?_))
   | exact ih0 _ _ _ _ _ _
   | exact ih1 _ _ _ _ _ _ _ _
   | exact potsherdref12_MayEntries.mono _ _
   | exact LeO.none _
   | refine LeO.ite ?_ ?_
   | refine LeO.bind ?_ (fun _ => ?_)
  ·
   intro y0 y1 y2 y3 y4 y5 y6 y7
   unfold potsherdref12_MayNode.l0
   repeat' first
   | (with_reducible exact ih0 _ _ _ _ _ _)
   | (with_reducible exact ih1 _ _ _ _ _ _ _ _)
   | (with_reducible exact potsherdref12_MayEntries.mono _ _)
   | (with_reducible exact LeO.refl _)
   | (with_reducible exact LeO.none _)
   | (with_reducible refine LeO.ite ?_ ?_)
   | (with_reducible refine LeO.bind ?_ (fun _ => ?_))
   | exact ih0 _ _ _ _ _ _
   | exact ih1 _ _ _ _ _ _ _ _
   | exact potsherdref12_MayEntries.mono _ _
   | exact LeO.none _
   | refine LeO.ite ?_ ?_
   | refine LeO.bind ?_ (fun _ => ?_)
theorem potsherdref12_MayNode.mono : ∀ a0 a1 a2 a3 a4 k, LeO (potsherdref12_MayNode.f k a0 a1 a2 a3 a4) (potsherdref12_MayNode.f (k + 1) a0 a1 a2 a3 a4) := by
 intro a0 a1 a2 a3 a4 k; obtain ⟨ih0, ih1⟩ := potsherdref12_MayNode.mono_l k
 unfold potsherdref12_MayNode.f
 repeat' first
  | (with_reducible exact ih0 _ _ _ _ _ _)
  | (with_reducible exact ih1 _ _ _ _ _ _ _ _)
  | (with_reducible exact potsherdref12_MayEntries.mono _ _)
  | (with_reducible exact LeO.refl _)
  | (with_reducible exact LeO.none _)
  | (with_reducible refine LeO.ite ?_ ?_)
  | (with_reducible refine LeO.bind ?_ (fun _ => ?_))
  | exact ih0 _ _ _ _ _ _
  | exact ih1 _ _ _ _ _ _ _ _
  | exact potsherdref12_MayEntries.mono _ _
  | exact LeO.none _
  | refine LeO.ite ?_ ?_
  | refine LeO.bind ?_ (fun _ => ?_)
set_option maxHeartbeats 8000000 in
set_option maxRecDepth 100000 in
theorem potsherdref12_MayNode.calls (k : Nat) (a0_0 : Int) (a0_1 : Int) (a0_2 : Int) (A0_3 : Option Addr) (c0_3 : Nat) (l0_3 : List Int) (A0_4 : Option Addr) (c0_4 : Nat) (l0_4 : List (S78)) (r : Bool) (w : World) (hr0_3 : Kd.C (Kd.int .i64) w A0_3 l0_3.length l0_3) (hc0_3 : l0_3.length ≤ c0_3) (hr0_4 : Kd.C k78 w A0_4 l0_4.length l0_4) (hc0_4 : l0_4.length ≤ c0_4) (h : potsherdref12_MayNode.f k a0_0 a0_1 a0_2 l0_3 l0_4 = some r) :
 Calls Try.prog 24 #[.agg #[.int .i64 a0_0, .int .i64 a0_1, .int .i64 a0_2, .slice A0_3 l0_3.length c0_3, .slice A0_4 l0_4.length c0_4]] w fun e w' => e = .returned (.bool r) ∧ Below w.heap.size w w' := by
 have hu28 := Try.underlying28; have HR0_3 := Aside0.mk hr0_3; have HC0_3 := Aside0.mk hc0_3; clear hr0_3 hc0_3; have HR0_4 := Aside0.mk hr0_4; have HC0_4 := Aside0.mk hc0_4; clear hr0_4 hc0_4; have HB := Aside0.mk (Below.refl w.heap.size w); have H : (if a0_0 = 0 then (if a0_1 = 0 then (if a0_2 = 0 then (if (l0_3.length : Int) = 0 then (some ((l0_4.length : Int) == 0)) else (some false)) else (some false)) else (some false)) else (if a0_0 = 2 then (if a0_1 = 1 then (if a0_2 = 0 then (if (l0_3.length : Int) = 0 then ((potsherdref12_MayEntries.f k l0_4).bind fun t199 => (some t199)) else (some false)) else (some false)) else (some false)) else (if a0_0 = 1 then (if a0_1 < 0 then (potsherdref12_MayNode.j0 k true a0_0 a0_1 a0_2 l0_3 l0_4) else (if a0_1 > 120 then (potsherdref12_MayNode.j0 k true a0_0 a0_1 a0_2 l0_3 l0_4) else (if a0_2 < 0 then (potsherdref12_MayNode.j0 k true a0_0 a0_1 a0_2 l0_3 l0_4) else (if a0_2 > 80 then (potsherdref12_MayNode.j0 k true a0_0 a0_1 a0_2 l0_3 l0_4) else (if (l0_3.length : Int) = 5 then (potsherdref12_MayNode.j0 k ((l0_4.length : Int) != 0) a0_0 a0_1 a0_2 l0_3 l0_4) else (potsherdref12_MayNode.j0 k true a0_0 a0_1 a0_2 l0_3 l0_4)))))) else (some false)))) = some r := h; clear h
 by_cases c2 : a0_0 = 0
 ·
  rw [if_pos c2] at H; have c2b0 : (a0_0 == 0) = true := beq_iff_eq.mpr c2; have c2b1 : (a0_0 != 0) = false := bne_eq_false_iff_eq.mpr c2; clear c2
  by_cases c3 : a0_1 = 0
  ·
   rw [if_pos c3] at H; have c3b0 : (a0_1 == 0) = true := beq_iff_eq.mpr c3; have c3b1 : (a0_1 != 0) = false := bne_eq_false_iff_eq.mpr c3; clear c3
   by_cases c4 : a0_2 = 0
   ·
    rw [if_pos c4] at H; have c4b0 : (a0_2 == 0) = true := beq_iff_eq.mpr c4; have c4b1 : (a0_2 != 0) = false := bne_eq_false_iff_eq.mpr c4; clear c4
    by_cases c5 : (l0_3.length : Int) = 0
    ·
     rw [if_pos c5] at H; have c5b0 : ((l0_3.length : Int) == 0) = true := beq_iff_eq.mpr c5; have c5b1 : ((l0_3.length : Int) != 0) = false := bne_eq_false_iff_eq.mpr c5; clear c5; obtain rfl := Option.some.inj H
     go_enter Try.func24, Try.ntmps24
     go_wp2_with (first | ((with_reducible refine gate_dst (N := 1) rfl ?_); (try (refine gate_guard (by rfl) ?_; dsimp only)); refine box_event ?hg (N := 1) ?hd (cs := #[.int .i64 a0_0, .int .i64 a0_1, .int .i64 a0_2, .slice A0_3 l0_3.length c0_3, .slice A0_4 l0_4.length c0_4]) (t := 28) ?hr ?_; (case hd => rfl); (case hg => rfl); (case hr => first | (go_simp; done) | (go_simp; rfl)); intro gb198 hg w6 hbox hb; have n0_ := Aside0.mk (below_step (by repeat (first | (with_reducible first | exact HB.out | apply wA | apply wN | apply wD) | exact HB.out)) hb); have n1_ := Aside0.mk (hbox); have n2_ := Aside0.mk ((by rw [hg]; exact (below_size (by repeat (first | (with_reducible first | exact HB.out | apply wA | apply wN | apply wD) | exact HB.out))) : w.heap.size ≤ gb198)); have n3_ := Aside0.mk ((by rw [hg]; exact (below_size (by repeat (first | (with_reducible first | exact HB.out | apply wA | apply wN | apply wD) | exact HB.out))) : w.heap.size ≤ gb198)); clear HB; have HB := n0_; have BK198 := n1_; have GW198 := n2_; have GE198 := n3_; clear n0_ n1_ n2_ n3_; clear hb hbox hg; have hcz7_0 : w6.cell? ⟨gb198, 0, none⟩ = some (.int .i64 a0_0) := (bC BK198.out 0).trans rfl; have hcz7_1 : w6.cell? ⟨gb198, 1, none⟩ = some (.int .i64 a0_1) := (bC BK198.out 1).trans rfl; have hcz7_2 : w6.cell? ⟨gb198, 2, none⟩ = some (.int .i64 a0_2) := (bC BK198.out 2).trans rfl; have hcz7_3 : w6.cell? ⟨gb198, 3, none⟩ = some (.slice A0_3 l0_3.length c0_3) := (bC BK198.out 3).trans rfl; have hcz7_4 : w6.cell? ⟨gb198, 4, none⟩ = some (.slice A0_4 l0_4.length c0_4) := (bC BK198.out 4).trans rfl; have hfz7_0 := bZ BK198.out 0; have hfz7_1 := bZ BK198.out 1; have hfz7_2 := bZ BK198.out 2; have hfz7_3 := bZ BK198.out 3; have hfz7_4 := bZ BK198.out 4))
     go_ret
     exact ⟨by first | rfl | exact congrArg (fun b_ => Ending.returned (Value.bool b_)) HRET.out | (rw [HRET.out]) | (simp [errW_none, errW_some] <;> rfl) | (simp [*, errW_none, errW_some] <;> rfl), by repeat (first | (with_reducible first | exact HB.out | apply wA | apply wN | apply wD | refine wS ?_ GE198.out) | exact HB.out)⟩
    ·
     rw [if_neg c5] at H; have c5b0 : ((l0_3.length : Int) == 0) = false := beq_eq_false_iff_ne.mpr c5; have c5b1 : ((l0_3.length : Int) != 0) = true := bne_iff_ne.mpr c5
     have c5b2 : ¬ (l0_3 = []) := fun h_ => c5 (by rw [h_]; rfl)
     obtain rfl := Option.some.inj H
     go_enter Try.func24, Try.ntmps24
     go_wp2_with (first | ((with_reducible refine gate_dst (N := 1) rfl ?_); (try (refine gate_guard (by rfl) ?_; dsimp only)); refine box_event ?hg (N := 1) ?hd (cs := #[.int .i64 a0_0, .int .i64 a0_1, .int .i64 a0_2, .slice A0_3 l0_3.length c0_3, .slice A0_4 l0_4.length c0_4]) (t := 28) ?hr ?_; (case hd => rfl); (case hg => rfl); (case hr => first | (go_simp; done) | (go_simp; rfl)); intro gb198 hg w8 hbox hb; have n0_ := Aside0.mk (below_step (by repeat (first | (with_reducible first | exact HB.out | apply wA | apply wN | apply wD) | exact HB.out)) hb); have n1_ := Aside0.mk (hbox); have n2_ := Aside0.mk ((by rw [hg]; exact (below_size (by repeat (first | (with_reducible first | exact HB.out | apply wA | apply wN | apply wD) | exact HB.out))) : w.heap.size ≤ gb198)); have n3_ := Aside0.mk ((by rw [hg]; exact (below_size (by repeat (first | (with_reducible first | exact HB.out | apply wA | apply wN | apply wD) | exact HB.out))) : w.heap.size ≤ gb198)); clear HB; have HB := n0_; have BK198 := n1_; have GW198 := n2_; have GE198 := n3_; clear n0_ n1_ n2_ n3_; clear hb hbox hg; have hcz9_0 : w8.cell? ⟨gb198, 0, none⟩ = some (.int .i64 a0_0) := (bC BK198.out 0).trans rfl; have hcz9_1 : w8.cell? ⟨gb198, 1, none⟩ = some (.int .i64 a0_1) := (bC BK198.out 1).trans rfl; have hcz9_2 : w8.cell? ⟨gb198, 2, none⟩ = some (.int .i64 a0_2) := (bC BK198.out 2).trans rfl; have hcz9_3 : w8.cell? ⟨gb198, 3, none⟩ = some (.slice A0_3 l0_3.length c0_3) := (bC BK198.out 3).trans rfl; have hcz9_4 : w8.cell? ⟨gb198, 4, none⟩ = some (.slice A0_4 l0_4.length c0_4) := (bC BK198.out 4).trans rfl; have hfz9_0 := bZ BK198.out 0; have hfz9_1 := bZ BK198.out 1; have hfz9_2 := bZ BK198.out 2; have hfz9_3 := bZ BK198.out 3; have hfz9_4 := bZ BK198.out 4))
     go_ret
     exact ⟨by first | rfl | exact congrArg (fun b_ => Ending.returned (Value.bool b_)) HRET.out | (rw [HRET.out]) | (simp [errW_none, errW_some] <;> rfl) | (simp [*, errW_none, errW_some] <;> rfl), by repeat (first | (with_reducible first | exact HB.out | apply wA | apply wN | apply wD | refine wS ?_ GE198.out) | exact HB.out)⟩
   ·
    rw [if_neg c4] at H; have c4b0 : (a0_2 == 0) = false := beq_eq_false_iff_ne.mpr c4; have c4b1 : (a0_2 != 0) = true := bne_iff_ne.mpr c4; obtain rfl := Option.some.inj H
    go_enter Try.func24, Try.ntmps24
    go_wp2_with (first | ((with_reducible refine gate_dst (N := 1) rfl ?_); (try (refine gate_guard (by rfl) ?_; dsimp only)); refine box_event ?hg (N := 1) ?hd (cs := #[.int .i64 a0_0, .int .i64 a0_1, .int .i64 a0_2, .slice A0_3 l0_3.length c0_3, .slice A0_4 l0_4.length c0_4]) (t := 28) ?hr ?_; (case hd => rfl); (case hg => rfl); (case hr => first | (go_simp; done) | (go_simp; rfl)); intro gb198 hg w10 hbox hb; have n0_ := Aside0.mk (below_step (by repeat (first | (with_reducible first | exact HB.out | apply wA | apply wN | apply wD) | exact HB.out)) hb); have n1_ := Aside0.mk (hbox); have n2_ := Aside0.mk ((by rw [hg]; exact (below_size (by repeat (first | (with_reducible first | exact HB.out | apply wA | apply wN | apply wD) | exact HB.out))) : w.heap.size ≤ gb198)); have n3_ := Aside0.mk ((by rw [hg]; exact (below_size (by repeat (first | (with_reducible first | exact HB.out | apply wA | apply wN | apply wD) | exact HB.out))) : w.heap.size ≤ gb198)); clear HB; have HB := n0_; have BK198 := n1_; have GW198 := n2_; have GE198 := n3_; clear n0_ n1_ n2_ n3_; clear hb hbox hg; have hcz11_0 : w10.cell? ⟨gb198, 0, none⟩ = some (.int .i64 a0_0) := (bC BK198.out 0).trans rfl; have hcz11_1 : w10.cell? ⟨gb198, 1, none⟩ = some (.int .i64 a0_1) := (bC BK198.out 1).trans rfl; have hcz11_2 : w10.cell? ⟨gb198, 2, none⟩ = some (.int .i64 a0_2) := (bC BK198.out 2).trans rfl; have hcz11_3 : w10.cell? ⟨gb198, 3, none⟩ = some (.slice A0_3 l0_3.length c0_3) := (bC BK198.out 3).trans rfl; have hcz11_4 : w10.cell? ⟨gb198, 4, none⟩ = some (.slice A0_4 l0_4.length c0_4) := (bC BK198.out 4).trans rfl; have hfz11_0 := bZ BK198.out 0; have hfz11_1 := bZ BK198.out 1; have hfz11_2 := bZ BK198.out 2; have hfz11_3 := bZ BK198.out 3; have hfz11_4 := bZ BK198.out 4))
    go_ret
    exact ⟨by first | rfl | exact congrArg (fun b_ => Ending.returned (Value.bool b_)) HRET.out | (rw [HRET.out]) | (simp [errW_none, errW_some] <;> rfl) | (simp [*, errW_none, errW_some] <;> rfl), by repeat (first | (with_reducible first | exact HB.out | apply wA | apply wN | apply wD | refine wS ?_ GE198.out) | exact HB.out)⟩
  ·
   rw [if_neg c3] at H; have c3b0 : (a0_1 == 0) = false := beq_eq_false_iff_ne.mpr c3; have c3b1 : (a0_1 != 0) = true := bne_iff_ne.mpr c3; obtain rfl := Option.some.inj H
   go_enter Try.func24, Try.ntmps24
   go_wp2_with (first | ((with_reducible refine gate_dst (N := 1) rfl ?_); (try (refine gate_guard (by rfl) ?_; dsimp only)); refine box_event ?hg (N := 1) ?hd (cs := #[.int .i64 a0_0, .int .i64 a0_1, .int .i64 a0_2, .slice A0_3 l0_3.length c0_3, .slice A0_4 l0_4.length c0_4]) (t := 28) ?hr ?_; (case hd => rfl); (case hg => rfl); (case hr => first | (go_simp; done) | (go_simp; rfl)); intro gb198 hg w12 hbox hb; have n0_ := Aside0.mk (below_step (by repeat (first | (with_reducible first | exact HB.out | apply wA | apply wN | apply wD) | exact HB.out)) hb); have n1_ := Aside0.mk (hbox); have n2_ := Aside0.mk ((by rw [hg]; exact (below_size (by repeat (first | (with_reducible first | exact HB.out | apply wA | apply wN | apply wD) | exact HB.out))) : w.heap.size ≤ gb198)); have n3_ := Aside0.mk ((by rw [hg]; exact (below_size (by repeat (first | (with_reducible first | exact HB.out | apply wA | apply wN | apply wD) | exact HB.out))) : w.heap.size ≤ gb198)); clear HB; have HB := n0_; have BK198 := n1_; have GW198 := n2_; have GE198 := n3_; clear n0_ n1_ n2_ n3_; clear hb hbox hg; have hcz13_0 : w12.cell? ⟨gb198, 0, none⟩ = some (.int .i64 a0_0) := (bC BK198.out 0).trans rfl; have hcz13_1 : w12.cell? ⟨gb198, 1, none⟩ = some (.int .i64 a0_1) := (bC BK198.out 1).trans rfl; have hcz13_2 : w12.cell? ⟨gb198, 2, none⟩ = some (.int .i64 a0_2) := (bC BK198.out 2).trans rfl; have hcz13_3 : w12.cell? ⟨gb198, 3, none⟩ = some (.slice A0_3 l0_3.length c0_3) := (bC BK198.out 3).trans rfl; have hcz13_4 : w12.cell? ⟨gb198, 4, none⟩ = some (.slice A0_4 l0_4.length c0_4) := (bC BK198.out 4).trans rfl; have hfz13_0 := bZ BK198.out 0; have hfz13_1 := bZ BK198.out 1; have hfz13_2 := bZ BK198.out 2; have hfz13_3 := bZ BK198.out 3; have hfz13_4 := bZ BK198.out 4))
   go_ret
   exact ⟨by first | rfl | exact congrArg (fun b_ => Ending.returned (Value.bool b_)) HRET.out | (rw [HRET.out]) | (simp [errW_none, errW_some] <;> rfl) | (simp [*, errW_none, errW_some] <;> rfl), by repeat (first | (with_reducible first | exact HB.out | apply wA | apply wN | apply wD | refine wS ?_ GE198.out) | exact HB.out)⟩
 ·
  rw [if_neg c2] at H; have c2b0 : (a0_0 == 0) = false := beq_eq_false_iff_ne.mpr c2; have c2b1 : (a0_0 != 0) = true := bne_iff_ne.mpr c2
  by_cases c14 : a0_0 = 2
  ·
   rw [if_pos c14] at H; have c14b0 : (a0_0 == 2) = true := beq_iff_eq.mpr c14; have c14b1 : (a0_0 != 2) = false := bne_eq_false_iff_eq.mpr c14; clear c14
   by_cases c15 : a0_1 = 1
   ·
    rw [if_pos c15] at H; have c15b0 : (a0_1 == 1) = true := beq_iff_eq.mpr c15; have c15b1 : (a0_1 != 1) = false := bne_eq_false_iff_eq.mpr c15; clear c15
    by_cases c16 : a0_2 = 0
    ·
     rw [if_pos c16] at H; have c16b0 : (a0_2 == 0) = true := beq_iff_eq.mpr c16; have c16b1 : (a0_2 != 0) = false := bne_eq_false_iff_eq.mpr c16; clear c16
     by_cases c17 : (l0_3.length : Int) = 0
     ·
      rw [if_pos c17] at H; have c17b0 : ((l0_3.length : Int) == 0) = true := beq_iff_eq.mpr c17; have c17b1 : ((l0_3.length : Int) != 0) = false := bne_eq_false_iff_eq.mpr c17; clear c17; replace H := Option.bind_eq_some_iff.mp H; obtain ⟨t199, A180, H⟩ := H; replace H : (some t199) = some r := H; have A18 := Aside0.mk A180; clear A180; obtain rfl := Option.some.inj H
      go_enter Try.func24, Try.ntmps24
      go_wp2_with (first | ((with_reducible refine gate_dst (N := 1) rfl ?_); (try (refine gate_guard (by rfl) ?_; dsimp only)); refine box_event ?hg (N := 1) ?hd (cs := #[.int .i64 a0_0, .int .i64 a0_1, .int .i64 a0_2, .slice A0_3 l0_3.length c0_3, .slice A0_4 l0_4.length c0_4]) (t := 28) ?hr ?_; (case hd => rfl); (case hg => rfl); (case hr => first | (go_simp; done) | (go_simp; rfl)); intro gb198 hg w19 hbox hb; have n0_ := Aside0.mk (below_step (by repeat (first | (with_reducible first | exact HB.out | apply wA | apply wN | apply wD) | exact HB.out)) hb); have n1_ := Aside0.mk (hbox); have n2_ := Aside0.mk ((by rw [hg]; exact (below_size (by repeat (first | (with_reducible first | exact HB.out | apply wA | apply wN | apply wD) | exact HB.out))) : w.heap.size ≤ gb198)); have n3_ := Aside0.mk ((by rw [hg]; exact (below_size (by repeat (first | (with_reducible first | exact HB.out | apply wA | apply wN | apply wD) | exact HB.out))) : w.heap.size ≤ gb198)); clear HB; have HB := n0_; have BK198 := n1_; have GW198 := n2_; have GE198 := n3_; clear n0_ n1_ n2_ n3_; clear hb hbox hg; have hcz20_0 : w19.cell? ⟨gb198, 0, none⟩ = some (.int .i64 a0_0) := (bC BK198.out 0).trans rfl; have hcz20_1 : w19.cell? ⟨gb198, 1, none⟩ = some (.int .i64 a0_1) := (bC BK198.out 1).trans rfl; have hcz20_2 : w19.cell? ⟨gb198, 2, none⟩ = some (.int .i64 a0_2) := (bC BK198.out 2).trans rfl; have hcz20_3 : w19.cell? ⟨gb198, 3, none⟩ = some (.slice A0_3 l0_3.length c0_3) := (bC BK198.out 3).trans rfl; have hcz20_4 : w19.cell? ⟨gb198, 4, none⟩ = some (.slice A0_4 l0_4.length c0_4) := (bC BK198.out 4).trans rfl; have hfz20_0 := bZ BK198.out 0; have hfz20_1 := bZ BK198.out 1; have hfz20_2 := bZ BK198.out 2; have hfz20_3 := bZ BK198.out 3; have hfz20_4 := bZ BK198.out 4) | (go_at_call 50; (with_reducible refine (potsherdref12_MayEntries.calls k _ _ l0_4 t199 _ ?side1 ?side2 A18.out).mono ?_); (case side1 => repeat (first | exact (Kd.C_below HR0_4.out HB.out) | (with_reducible refine Kd.C_alloc ?_ _) | (with_reducible refine Kd.C_drewN ?_ _) | (with_reducible refine Kd.C_drew ?_))); (case side2 => exact HC0_4.out); rintro e w21 ⟨rfl, hb⟩; have n0_ := Aside0.mk (bB (g := gb198) (o := .cells #[.int .i64 a0_0, .int .i64 a0_1, .int .i64 a0_2, .slice A0_3 l0_3.length c0_3, .slice A0_4 l0_4.length c0_4] 28 (0, 0)) (by (with_reducible repeat (first | refine bN ?_ _ | refine bD ?_ | refine bA ?_ _)); exact BK198.out) hb); have n1_ := Aside0.mk (below_step (by repeat (first | (with_reducible first | exact HB.out | apply wA | apply wN | apply wD | refine wS ?_ GE198.out) | exact HB.out)) hb); clear BK198; clear HB; have BK198 := n0_; have HB := n1_; clear n0_ n1_; (try clear hb); (try clear hb2); (try clear hk); (try clear hi)))
      go_ret
      exact ⟨by first | rfl | exact congrArg (fun b_ => Ending.returned (Value.bool b_)) HRET.out | (rw [HRET.out]) | (simp [errW_none, errW_some] <;> rfl) | (simp [*, errW_none, errW_some] <;> rfl), by repeat (first | (with_reducible first | exact HB.out | apply wA | apply wN | apply wD | refine wS ?_ GE198.out) | exact HB.out)⟩
     ·
      rw [if_neg c17] at H; have c17b0 : ((l0_3.length : Int) == 0) = false := beq_eq_false_iff_ne.mpr c17; have c17b1 : ((l0_3.length : Int) != 0) = true := bne_iff_ne.mpr c17
      have c17b2 : ¬ (l0_3 = []) := fun h_ => c17 (by rw [h_]; rfl)
      obtain rfl := Option.some.inj H
      go_enter Try.func24, Try.ntmps24
      go_wp2_with (first | ((with_reducible refine gate_dst (N := 1) rfl ?_); (try (refine gate_guard (by rfl) ?_; dsimp only)); refine box_event ?hg (N := 1) ?hd (cs := #[.int .i64 a0_0, .int .i64 a0_1, .int .i64 a0_2, .slice A0_3 l0_3.length c0_3, .slice A0_4 l0_4.length c0_4]) (t := 28) ?hr ?_; (case hd => rfl); (case hg => rfl); (case hr => first | (go_simp; done) | (go_simp; rfl)); intro gb198 hg w22 hbox hb; have n0_ := Aside0.mk (below_step (by repeat (first | (with_reducible first | exact HB.out | apply wA | apply wN | apply wD) | exact HB.out)) hb); have n1_ := Aside0.mk (hbox); have n2_ := Aside0.mk ((by rw [hg]; exact (below_size (by repeat (first | (with_reducible first | exact HB.out | apply wA | apply wN | apply wD) | exact HB.out))) : w.heap.size ≤ gb198)); have n3_ := Aside0.mk ((by rw [hg]; exact (below_size (by repeat (first | (with_reducible first | exact HB.out | apply wA | apply wN | apply wD) | exact HB.out))) : w.heap.size ≤ gb198)); clear HB; have HB := n0_; have BK198 := n1_; have GW198 := n2_; have GE198 := n3_; clear n0_ n1_ n2_ n3_; clear hb hbox hg; have hcz23_0 : w22.cell? ⟨gb198, 0, none⟩ = some (.int .i64 a0_0) := (bC BK198.out 0).trans rfl; have hcz23_1 : w22.cell? ⟨gb198, 1, none⟩ = some (.int .i64 a0_1) := (bC BK198.out 1).trans rfl; have hcz23_2 : w22.cell? ⟨gb198, 2, none⟩ = some (.int .i64 a0_2) := (bC BK198.out 2).trans rfl; have hcz23_3 : w22.cell? ⟨gb198, 3, none⟩ = some (.slice A0_3 l0_3.length c0_3) := (bC BK198.out 3).trans rfl; have hcz23_4 : w22.cell? ⟨gb198, 4, none⟩ = some (.slice A0_4 l0_4.length c0_4) := (bC BK198.out 4).trans rfl; have hfz23_0 := bZ BK198.out 0; have hfz23_1 := bZ BK198.out 1; have hfz23_2 := bZ BK198.out 2; have hfz23_3 := bZ BK198.out 3; have hfz23_4 := bZ BK198.out 4))
      go_ret
      exact ⟨by first | rfl | exact congrArg (fun b_ => Ending.returned (Value.bool b_)) HRET.out | (rw [HRET.out]) | (simp [errW_none, errW_some] <;> rfl) | (simp [*, errW_none, errW_some] <;> rfl), by repeat (first | (with_reducible first | exact HB.out | apply wA | apply wN | apply wD | refine wS ?_ GE198.out) | exact HB.out)⟩
    ·
     rw [if_neg c16] at H; have c16b0 : (a0_2 == 0) = false := beq_eq_false_iff_ne.mpr c16; have c16b1 : (a0_2 != 0) = true := bne_iff_ne.mpr c16; obtain rfl := Option.some.inj H
     go_enter Try.func24, Try.ntmps24
     go_wp2_with (first | ((with_reducible refine gate_dst (N := 1) rfl ?_); (try (refine gate_guard (by rfl) ?_; dsimp only)); refine box_event ?hg (N := 1) ?hd (cs := #[.int .i64 a0_0, .int .i64 a0_1, .int .i64 a0_2, .slice A0_3 l0_3.length c0_3, .slice A0_4 l0_4.length c0_4]) (t := 28) ?hr ?_; (case hd => rfl); (case hg => rfl); (case hr => first | (go_simp; done) | (go_simp; rfl)); intro gb198 hg w24 hbox hb; have n0_ := Aside0.mk (below_step (by repeat (first | (with_reducible first | exact HB.out | apply wA | apply wN | apply wD) | exact HB.out)) hb); have n1_ := Aside0.mk (hbox); have n2_ := Aside0.mk ((by rw [hg]; exact (below_size (by repeat (first | (with_reducible first | exact HB.out | apply wA | apply wN | apply wD) | exact HB.out))) : w.heap.size ≤ gb198)); have n3_ := Aside0.mk ((by rw [hg]; exact (below_size (by repeat (first | (with_reducible first | exact HB.out | apply wA | apply wN | apply wD) | exact HB.out))) : w.heap.size ≤ gb198)); clear HB; have HB := n0_; have BK198 := n1_; have GW198 := n2_; have GE198 := n3_; clear n0_ n1_ n2_ n3_; clear hb hbox hg; have hcz25_0 : w24.cell? ⟨gb198, 0, none⟩ = some (.int .i64 a0_0) := (bC BK198.out 0).trans rfl; have hcz25_1 : w24.cell? ⟨gb198, 1, none⟩ = some (.int .i64 a0_1) := (bC BK198.out 1).trans rfl; have hcz25_2 : w24.cell? ⟨gb198, 2, none⟩ = some (.int .i64 a0_2) := (bC BK198.out 2).trans rfl; have hcz25_3 : w24.cell? ⟨gb198, 3, none⟩ = some (.slice A0_3 l0_3.length c0_3) := (bC BK198.out 3).trans rfl; have hcz25_4 : w24.cell? ⟨gb198, 4, none⟩ = some (.slice A0_4 l0_4.length c0_4) := (bC BK198.out 4).trans rfl; have hfz25_0 := bZ BK198.out 0; have hfz25_1 := bZ BK198.out 1; have hfz25_2 := bZ BK198.out 2; have hfz25_3 := bZ BK198.out 3; have hfz25_4 := bZ BK198.out 4))
     go_ret
     exact ⟨by first | rfl | exact congrArg (fun b_ => Ending.returned (Value.bool b_)) HRET.out | (rw [HRET.out]) | (simp [errW_none, errW_some] <;> rfl) | (simp [*, errW_none, errW_some] <;> rfl), by repeat (first | (with_reducible first | exact HB.out | apply wA | apply wN | apply wD | refine wS ?_ GE198.out) | exact HB.out)⟩
   ·
    rw [if_neg c15] at H; have c15b0 : (a0_1 == 1) = false := beq_eq_false_iff_ne.mpr c15; have c15b1 : (a0_1 != 1) = true := bne_iff_ne.mpr c15; obtain rfl := Option.some.inj H
    go_enter Try.func24, Try.ntmps24
    go_wp2_with (first | ((with_reducible refine gate_dst (N := 1) rfl ?_); (try (refine gate_guard (by rfl) ?_; dsimp only)); refine box_event ?hg (N := 1) ?hd (cs := #[.int .i64 a0_0, .int .i64 a0_1, .int .i64 a0_2, .slice A0_3 l0_3.length c0_3, .slice A0_4 l0_4.length c0_4]) (t := 28) ?hr ?_; (case hd => rfl); (case hg => rfl); (case hr => first | (go_simp; done) | (go_simp; rfl)); intro gb198 hg w26 hbox hb; have n0_ := Aside0.mk (below_step (by repeat (first | (with_reducible first | exact HB.out | apply wA | apply wN | apply wD) | exact HB.out)) hb); have n1_ := Aside0.mk (hbox); have n2_ := Aside0.mk ((by rw [hg]; exact (below_size (by repeat (first | (with_reducible first | exact HB.out | apply wA | apply wN | apply wD) | exact HB.out))) : w.heap.size ≤ gb198)); have n3_ := Aside0.mk ((by rw [hg]; exact (below_size (by repeat (first | (with_reducible first | exact HB.out | apply wA | apply wN | apply wD) | exact HB.out))) : w.heap.size ≤ gb198)); clear HB; have HB := n0_; have BK198 := n1_; have GW198 := n2_; have GE198 := n3_; clear n0_ n1_ n2_ n3_; clear hb hbox hg; have hcz27_0 : w26.cell? ⟨gb198, 0, none⟩ = some (.int .i64 a0_0) := (bC BK198.out 0).trans rfl; have hcz27_1 : w26.cell? ⟨gb198, 1, none⟩ = some (.int .i64 a0_1) := (bC BK198.out 1).trans rfl; have hcz27_2 : w26.cell? ⟨gb198, 2, none⟩ = some (.int .i64 a0_2) := (bC BK198.out 2).trans rfl; have hcz27_3 : w26.cell? ⟨gb198, 3, none⟩ = some (.slice A0_3 l0_3.length c0_3) := (bC BK198.out 3).trans rfl; have hcz27_4 : w26.cell? ⟨gb198, 4, none⟩ = some (.slice A0_4 l0_4.length c0_4) := (bC BK198.out 4).trans rfl; have hfz27_0 := bZ BK198.out 0; have hfz27_1 := bZ BK198.out 1; have hfz27_2 := bZ BK198.out 2; have hfz27_3 := bZ BK198.out 3; have hfz27_4 := bZ BK198.out 4))
    go_ret
    exact ⟨by first | rfl | exact congrArg (fun b_ => Ending.returned (Value.bool b_)) HRET.out | (rw [HRET.out]) | (simp [errW_none, errW_some] <;> rfl) | (simp [*, errW_none, errW_some] <;> rfl), by repeat (first | (with_reducible first | exact HB.out | apply wA | apply wN | apply wD | refine wS ?_ GE198.out) | exact HB.out)⟩
  ·
   rw [if_neg c14] at H; have c14b0 : (a0_0 == 2) = false := beq_eq_false_iff_ne.mpr c14; have c14b1 : (a0_0 != 2) = true := bne_iff_ne.mpr c14
   by_cases c28 : a0_0 = 1
   ·
    rw [if_pos c28] at H; have c28b0 : (a0_0 == 1) = true := beq_iff_eq.mpr c28; have c28b1 : (a0_0 != 1) = false := bne_eq_false_iff_eq.mpr c28; clear c28; have HC29 := Aside0.mk H; clear H
    go_enter Try.func24, Try.ntmps24
    go_upto_region 8 with (first | ((with_reducible refine gate_dst (N := 1) rfl ?_); (try (refine gate_guard (by rfl) ?_; dsimp only)); refine box_event ?hg (N := 1) ?hd (cs := #[.int .i64 a0_0, .int .i64 a0_1, .int .i64 a0_2, .slice A0_3 l0_3.length c0_3, .slice A0_4 l0_4.length c0_4]) (t := 28) ?hr ?_; (case hd => rfl); (case hg => rfl); (case hr => first | (go_simp; done) | (go_simp; rfl)); intro gb198 hg w30 hbox hb; have n0_ := Aside0.mk (below_step (by repeat (first | (with_reducible first | exact HB.out | apply wA | apply wN | apply wD) | exact HB.out)) hb); have n1_ := Aside0.mk (hbox); have n2_ := Aside0.mk ((by rw [hg]; exact (below_size (by repeat (first | (with_reducible first | exact HB.out | apply wA | apply wN | apply wD) | exact HB.out))) : w.heap.size ≤ gb198)); have n3_ := Aside0.mk ((by rw [hg]; exact (below_size (by repeat (first | (with_reducible first | exact HB.out | apply wA | apply wN | apply wD) | exact HB.out))) : w.heap.size ≤ gb198)); clear HB; have HB := n0_; have BK198 := n1_; have GW198 := n2_; have GE198 := n3_; clear n0_ n1_ n2_ n3_; clear hb hbox hg; have hcz31_0 : w30.cell? ⟨gb198, 0, none⟩ = some (.int .i64 a0_0) := (bC BK198.out 0).trans rfl; have hcz31_1 : w30.cell? ⟨gb198, 1, none⟩ = some (.int .i64 a0_1) := (bC BK198.out 1).trans rfl; have hcz31_2 : w30.cell? ⟨gb198, 2, none⟩ = some (.int .i64 a0_2) := (bC BK198.out 2).trans rfl; have hcz31_3 : w30.cell? ⟨gb198, 3, none⟩ = some (.slice A0_3 l0_3.length c0_3) := (bC BK198.out 3).trans rfl; have hcz31_4 : w30.cell? ⟨gb198, 4, none⟩ = some (.slice A0_4 l0_4.length c0_4) := (bC BK198.out 4).trans rfl; have hfz31_0 := bZ BK198.out 0; have hfz31_1 := bZ BK198.out 1; have hfz31_2 := bZ BK198.out 2; have hfz31_3 := bZ BK198.out 3; have hfz31_4 := bZ BK198.out 4))
    (try simp only [Act.put, lT, l0_, lS])
    go_cut [81] (fun v81 wc => ∃ (kq : Nat) (x81_28 : Bool), v81 = .bool x81_28 ∧ Aside0 (potsherdref12_MayNode.j0 kq x81_28 a0_0 a0_1 a0_2 l0_3 l0_4 = some r) ∧ Aside0 (kq ≤ k) ∧ Aside0 (wc.heap[gb198]? = some (.cells #[.int .i64 a0_0, .int .i64 a0_1, .int .i64 a0_2, (.slice A0_3 l0_3.length c0_3), (.slice A0_4 l0_4.length c0_4)] 28 (0, 0))) ∧ Aside0 (Below w.heap.size w wc))
    case first =>
     have H := HC29.out; clear HC29
     by_cases c32 : a0_1 < 0
     ·
      rw [if_pos c32] at H; have c32b0 : decide (a0_1 < 0) = true := decide_eq_true c32; clear c32
      (first | rw [c32b0] | (simp only [i64_w, i32_w]; rw [c32b0]) | skip)
      have H' := Aside0.mk H; clear H; have hcz33_0 : w30.cell? ⟨gb198, 0, none⟩ = some (.int .i64 a0_0) := (bC BK198.out 0).trans rfl; have hcz33_1 : w30.cell? ⟨gb198, 1, none⟩ = some (.int .i64 a0_1) := (bC BK198.out 1).trans rfl; have hcz33_2 : w30.cell? ⟨gb198, 2, none⟩ = some (.int .i64 a0_2) := (bC BK198.out 2).trans rfl; have hcz33_3 : w30.cell? ⟨gb198, 3, none⟩ = some (.slice A0_3 l0_3.length c0_3) := (bC BK198.out 3).trans rfl; have hcz33_4 : w30.cell? ⟨gb198, 4, none⟩ = some (.slice A0_4 l0_4.length c0_4) := (bC BK198.out 4).trans rfl; have hfz33_0 := bZ BK198.out 0; have hfz33_1 := bZ BK198.out 1; have hfz33_2 := bZ BK198.out 2; have hfz33_3 := bZ BK198.out 3; have hfz33_4 := bZ BK198.out 4
      go_wp2
      go_meet
      case rel => exact ⟨_, (true), (by first | rfl | (simp; done) | (simp [*]; done)), H', ⟨by first | omega | exact Nat.le_refl _⟩, ⟨by (with_reducible repeat (first | refine bN ?_ _ | refine bD ?_ | refine bA ?_ _)); exact BK198.out⟩, ⟨by repeat (first | (with_reducible first | exact HB.out | apply wA | apply wN | apply wD | refine wS ?_ GE198.out) | exact HB.out)⟩⟩
     ·
      rw [if_neg c32] at H; have c32b0 : decide (a0_1 < 0) = false := decide_eq_false c32; clear c32
      (first | rw [c32b0] | (simp only [i64_w, i32_w]; rw [c32b0]) | skip)
      by_cases c34 : a0_1 > 120
      ·
       rw [if_pos c34] at H; have c34b0 : decide (120 < a0_1) = true := decide_eq_true c34; clear c34; have H' := Aside0.mk H; clear H; have hcz35_0 : w30.cell? ⟨gb198, 0, none⟩ = some (.int .i64 a0_0) := (bC BK198.out 0).trans rfl; have hcz35_1 : w30.cell? ⟨gb198, 1, none⟩ = some (.int .i64 a0_1) := (bC BK198.out 1).trans rfl; have hcz35_2 : w30.cell? ⟨gb198, 2, none⟩ = some (.int .i64 a0_2) := (bC BK198.out 2).trans rfl; have hcz35_3 : w30.cell? ⟨gb198, 3, none⟩ = some (.slice A0_3 l0_3.length c0_3) := (bC BK198.out 3).trans rfl; have hcz35_4 : w30.cell? ⟨gb198, 4, none⟩ = some (.slice A0_4 l0_4.length c0_4) := (bC BK198.out 4).trans rfl; have hfz35_0 := bZ BK198.out 0; have hfz35_1 := bZ BK198.out 1; have hfz35_2 := bZ BK198.out 2; have hfz35_3 := bZ BK198.out 3; have hfz35_4 := bZ BK198.out 4
       go_wp2
       go_meet
       case rel => exact ⟨_, (true), (by first | rfl | (simp; done) | (simp [*]; done)), H', ⟨by first | omega | exact Nat.le_refl _⟩, ⟨by (with_reducible repeat (first | refine bN ?_ _ | refine bD ?_ | refine bA ?_ _)); exact BK198.out⟩, ⟨by repeat (first | (with_reducible first | exact HB.out | apply wA | apply wN | apply wD | refine wS ?_ GE198.out) | exact HB.out)⟩⟩
      ·
       rw [if_neg c34] at H; have c34b0 : decide (120 < a0_1) = false := decide_eq_false c34; clear c34
       by_cases c36 : a0_2 < 0
       ·
        rw [if_pos c36] at H; have c36b0 : decide (a0_2 < 0) = true := decide_eq_true c36; clear c36; have H' := Aside0.mk H; clear H; have hcz37_0 : w30.cell? ⟨gb198, 0, none⟩ = some (.int .i64 a0_0) := (bC BK198.out 0).trans rfl; have hcz37_1 : w30.cell? ⟨gb198, 1, none⟩ = some (.int .i64 a0_1) := (bC BK198.out 1).trans rfl; have hcz37_2 : w30.cell? ⟨gb198, 2, none⟩ = some (.int .i64 a0_2) := (bC BK198.out 2).trans rfl; have hcz37_3 : w30.cell? ⟨gb198, 3, none⟩ = some (.slice A0_3 l0_3.length c0_3) := (bC BK198.out 3).trans rfl; have hcz37_4 : w30.cell? ⟨gb198, 4, none⟩ = some (.slice A0_4 l0_4.length c0_4) := (bC BK198.out 4).trans rfl; have hfz37_0 := bZ BK198.out 0; have hfz37_1 := bZ BK198.out 1; have hfz37_2 := bZ BK198.out 2; have hfz37_3 := bZ BK198.out 3; have hfz37_4 := bZ BK198.out 4
        go_wp2
        go_meet
        case rel => exact ⟨_, (true), (by first | rfl | (simp; done) | (simp [*]; done)), H', ⟨by first | omega | exact Nat.le_refl _⟩, ⟨by (with_reducible repeat (first | refine bN ?_ _ | refine bD ?_ | refine bA ?_ _)); exact BK198.out⟩, ⟨by repeat (first | (with_reducible first | exact HB.out | apply wA | apply wN | apply wD | refine wS ?_ GE198.out) | exact HB.out)⟩⟩
       ·
        rw [if_neg c36] at H; have c36b0 : decide (a0_2 < 0) = false := decide_eq_false c36; clear c36
        by_cases c38 : a0_2 > 80
        ·
         rw [if_pos c38] at H; have c38b0 : decide (80 < a0_2) = true := decide_eq_true c38; clear c38; have H' := Aside0.mk H; clear H; have hcz39_0 : w30.cell? ⟨gb198, 0, none⟩ = some (.int .i64 a0_0) := (bC BK198.out 0).trans rfl; have hcz39_1 : w30.cell? ⟨gb198, 1, none⟩ = some (.int .i64 a0_1) := (bC BK198.out 1).trans rfl; have hcz39_2 : w30.cell? ⟨gb198, 2, none⟩ = some (.int .i64 a0_2) := (bC BK198.out 2).trans rfl; have hcz39_3 : w30.cell? ⟨gb198, 3, none⟩ = some (.slice A0_3 l0_3.length c0_3) := (bC BK198.out 3).trans rfl; have hcz39_4 : w30.cell? ⟨gb198, 4, none⟩ = some (.slice A0_4 l0_4.length c0_4) := (bC BK198.out 4).trans rfl; have hfz39_0 := bZ BK198.out 0; have hfz39_1 := bZ BK198.out 1; have hfz39_2 := bZ BK198.out 2; have hfz39_3 := bZ BK198.out 3; have hfz39_4 := bZ BK198.out 4
         go_wp2
         go_meet
         case rel => exact ⟨_, (true), (by first | rfl | (simp; done) | (simp [*]; done)), H', ⟨by first | omega | exact Nat.le_refl _⟩, ⟨by (with_reducible repeat (first | refine bN ?_ _ | refine bD ?_ | refine bA ?_ _)); exact BK198.out⟩, ⟨by repeat (first | (with_reducible first | exact HB.out | apply wA | apply wN | apply wD | refine wS ?_ GE198.out) | exact HB.out)⟩⟩
        ·
         rw [if_neg c38] at H; have c38b0 : decide (80 < a0_2) = false := decide_eq_false c38; clear c38
         by_cases c40 : (l0_3.length : Int) = 5
         ·
          rw [if_pos c40] at H; have c40b0 : ((l0_3.length : Int) == 5) = true := beq_iff_eq.mpr c40; have c40b1 : ((l0_3.length : Int) != 5) = false := bne_eq_false_iff_eq.mpr c40; clear c40; have H' := Aside0.mk H; clear H; have hcz41_0 : w30.cell? ⟨gb198, 0, none⟩ = some (.int .i64 a0_0) := (bC BK198.out 0).trans rfl; have hcz41_1 : w30.cell? ⟨gb198, 1, none⟩ = some (.int .i64 a0_1) := (bC BK198.out 1).trans rfl; have hcz41_2 : w30.cell? ⟨gb198, 2, none⟩ = some (.int .i64 a0_2) := (bC BK198.out 2).trans rfl; have hcz41_3 : w30.cell? ⟨gb198, 3, none⟩ = some (.slice A0_3 l0_3.length c0_3) := (bC BK198.out 3).trans rfl; have hcz41_4 : w30.cell? ⟨gb198, 4, none⟩ = some (.slice A0_4 l0_4.length c0_4) := (bC BK198.out 4).trans rfl; have hfz41_0 := bZ BK198.out 0; have hfz41_1 := bZ BK198.out 1; have hfz41_2 := bZ BK198.out 2; have hfz41_3 := bZ BK198.out 3; have hfz41_4 := bZ BK198.out 4
          go_wp2
          go_meet
          case rel => exact ⟨_, (((l0_4.length : Int) != 0)), (by first | rfl | (simp; done) | (simp [*]; done)), H', ⟨by first | omega | exact Nat.le_refl _⟩, ⟨by (with_reducible repeat (first | refine bN ?_ _ | refine bD ?_ | refine bA ?_ _)); exact BK198.out⟩, ⟨by repeat (first | (with_reducible first | exact HB.out | apply wA | apply wN | apply wD | refine wS ?_ GE198.out) | exact HB.out)⟩⟩
         ·
          rw [if_neg c40] at H; have c40b0 : ((l0_3.length : Int) == 5) = false := beq_eq_false_iff_ne.mpr c40; have c40b1 : ((l0_3.length : Int) != 5) = true := bne_iff_ne.mpr c40; have H' := Aside0.mk H; clear H; have hcz42_0 : w30.cell? ⟨gb198, 0, none⟩ = some (.int .i64 a0_0) := (bC BK198.out 0).trans rfl; have hcz42_1 : w30.cell? ⟨gb198, 1, none⟩ = some (.int .i64 a0_1) := (bC BK198.out 1).trans rfl; have hcz42_2 : w30.cell? ⟨gb198, 2, none⟩ = some (.int .i64 a0_2) := (bC BK198.out 2).trans rfl; have hcz42_3 : w30.cell? ⟨gb198, 3, none⟩ = some (.slice A0_3 l0_3.length c0_3) := (bC BK198.out 3).trans rfl; have hcz42_4 : w30.cell? ⟨gb198, 4, none⟩ = some (.slice A0_4 l0_4.length c0_4) := (bC BK198.out 4).trans rfl; have hfz42_0 := bZ BK198.out 0; have hfz42_1 := bZ BK198.out 1; have hfz42_2 := bZ BK198.out 2; have hfz42_3 := bZ BK198.out 3; have hfz42_4 := bZ BK198.out 4
          go_wp2
          go_meet
          case rel => exact ⟨_, (true), (by first | rfl | (simp; done) | (simp [*]; done)), H', ⟨by first | omega | exact Nat.le_refl _⟩, ⟨by (with_reducible repeat (first | refine bN ?_ _ | refine bD ?_ | refine bA ?_ _)); exact BK198.out⟩, ⟨by repeat (first | (with_reducible first | exact HB.out | apply wA | apply wN | apply wD | refine wS ?_ GE198.out) | exact HB.out)⟩⟩
    case rest =>
     clear HC29
     try clear c1
     try clear c2
     try clear c2b0
     try clear c2b1
     try clear p2
     try clear c3
     try clear c3b0
     try clear c3b1
     try clear c4
     try clear c4b0
     try clear c4b1
     try clear c5
     try clear c5b0
     try clear c5b1
     try clear c5b2
     try clear c14
     try clear c14b0
     try clear c14b1
     try clear c15
     try clear c15b0
     try clear c15b1
     try clear c16
     try clear c16b0
     try clear c16b1
     try clear c17
     try clear c17b0
     try clear c17b1
     try clear c17b2
     try clear c24
     try clear c28
     try clear c28b0
     try clear c28b1
     try clear c32
     try clear c32b0
     try clear c34
     try clear c34b0
     try clear c36
     try clear c36b0
     try clear c38
     try clear c38b0
     try clear c40
     try clear c40b0
     try clear c40b1
     try clear hcz11_0
     try clear hcz11_1
     try clear hcz11_2
     try clear hcz11_3
     try clear hcz11_4
     try clear hcz13_0
     try clear hcz13_1
     try clear hcz13_2
     try clear hcz13_3
     try clear hcz13_4
     try clear hcz20_0
     try clear hcz20_1
     try clear hcz20_2
     try clear hcz20_3
     try clear hcz20_4
     try clear hcz23_0
     try clear hcz23_1
     try clear hcz23_2
     try clear hcz23_3
     try clear hcz23_4
     try clear hcz25_0
     try clear hcz25_1
     try clear hcz25_2
     try clear hcz25_3
     try clear hcz25_4
     try clear hcz27_0
     try clear hcz27_1
     try clear hcz27_2
     try clear hcz27_3
     try clear hcz27_4
     try clear hcz31_0
     try clear hcz31_1
     try clear hcz31_2
     try clear hcz31_3
     try clear hcz31_4
     try clear hcz33_0
     try clear hcz33_1
     try clear hcz33_2
     try clear hcz33_3
     try clear hcz33_4
     try clear hcz35_0
     try clear hcz35_1
     try clear hcz35_2
     try clear hcz35_3
     try clear hcz35_4
     try clear hcz37_0
     try clear hcz37_1
     try clear hcz37_2
     try clear hcz37_3
     try clear hcz37_4
     try clear hcz39_0
     try clear hcz39_1
     try clear hcz39_2
     try clear hcz39_3
     try clear hcz39_4
     try clear hcz41_0
     try clear hcz41_1
     try clear hcz41_2
     try clear hcz41_3
     try clear hcz41_4
     try clear hcz42_0
     try clear hcz42_1
     try clear hcz42_2
     try clear hcz42_3
     try clear hcz42_4
     try clear hcz7_0
     try clear hcz7_1
     try clear hcz7_2
     try clear hcz7_3
     try clear hcz7_4
     try clear hcz9_0
     try clear hcz9_1
     try clear hcz9_2
     try clear hcz9_3
     try clear hcz9_4
     try clear hfz11_0
     try clear hfz11_1
     try clear hfz11_2
     try clear hfz11_3
     try clear hfz11_4
     try clear hfz13_0
     try clear hfz13_1
     try clear hfz13_2
     try clear hfz13_3
     try clear hfz13_4
     try clear hfz20_0
     try clear hfz20_1
     try clear hfz20_2
     try clear hfz20_3
     try clear hfz20_4
     try clear hfz23_0
     try clear hfz23_1
     try clear hfz23_2
     try clear hfz23_3
     try clear hfz23_4
     try clear hfz25_0
     try clear hfz25_1
     try clear hfz25_2
     try clear hfz25_3
     try clear hfz25_4
     try clear hfz27_0
     try clear hfz27_1
     try clear hfz27_2
     try clear hfz27_3
     try clear hfz27_4
     try clear hfz31_0
     try clear hfz31_1
     try clear hfz31_2
     try clear hfz31_3
     try clear hfz31_4
     try clear hfz33_0
     try clear hfz33_1
     try clear hfz33_2
     try clear hfz33_3
     try clear hfz33_4
     try clear hfz35_0
     try clear hfz35_1
     try clear hfz35_2
     try clear hfz35_3
     try clear hfz35_4
     try clear hfz37_0
     try clear hfz37_1
     try clear hfz37_2
     try clear hfz37_3
     try clear hfz37_4
     try clear hfz39_0
     try clear hfz39_1
     try clear hfz39_2
     try clear hfz39_3
     try clear hfz39_4
     try clear hfz41_0
     try clear hfz41_1
     try clear hfz41_2
     try clear hfz41_3
     try clear hfz41_4
     try clear hfz42_0
     try clear hfz42_1
     try clear hfz42_2
     try clear hfz42_3
     try clear hfz42_4
     try clear hfz7_0
     try clear hfz7_1
     try clear hfz7_2
     try clear hfz7_3
     try clear hfz7_4
     try clear hfz9_0
     try clear hfz9_1
     try clear hfz9_2
     try clear hfz9_3
     try clear hfz9_4
     obtain ⟨kq, x81_28, rfl, HA, HJ28, BK198, HB⟩ := hcut
     cases kq with
     | zero => exact absurd HA.out (by simp [potsherdref12_MayNode.j0])
     | succ kj28 =>
      have H := HA.out; clear HA; simp only [potsherdref12_MayNode.j0] at H
      by_cases c43 : x81_28 = true
      ·
       subst c43
       have H1 : (some false) = some r := by rw [if_pos rfl] at H; exact H
       clear H; have H := H1; clear H1; obtain rfl := Option.some.inj H
       go_wp2
       go_ret
       exact ⟨by first | rfl | exact congrArg (fun b_ => Ending.returned (Value.bool b_)) HRET.out | (rw [HRET.out]) | (simp [errW_none, errW_some] <;> rfl) | (simp [*, errW_none, errW_some] <;> rfl), by repeat (first | (with_reducible first | exact HB.out | apply wA | apply wN | apply wD | refine wS ?_ GE198.out) | exact HB.out)⟩
      ·
       replace c43 := Bool.eq_false_iff.mpr c43; subst c43
       have H1 : (potsherdref12_MayNode.l0 kj28 l0_3 (l0_3.length : Int) 0 a0_0 a0_1 a0_2 l0_3 l0_4) = some r := by rw [if_neg (show ¬ (false = true) by decide)] at H; exact H
       clear H; have H := H1; clear H1; have H' := Aside0.mk H; clear H; have hcz44_0 : wc.cell? ⟨gb198, 0, none⟩ = some (.int .i64 a0_0) := (bC BK198.out 0).trans rfl; have hcz44_1 : wc.cell? ⟨gb198, 1, none⟩ = some (.int .i64 a0_1) := (bC BK198.out 1).trans rfl; have hcz44_2 : wc.cell? ⟨gb198, 2, none⟩ = some (.int .i64 a0_2) := (bC BK198.out 2).trans rfl; have hcz44_3 : wc.cell? ⟨gb198, 3, none⟩ = some (.slice A0_3 l0_3.length c0_3) := (bC BK198.out 3).trans rfl; have hcz44_4 : wc.cell? ⟨gb198, 4, none⟩ = some (.slice A0_4 l0_4.length c0_4) := (bC BK198.out 4).trans rfl; have hfz44_0 := bZ BK198.out 0; have hfz44_1 := bZ BK198.out 1; have hfz44_2 := bZ BK198.out 2; have hfz44_3 := bZ BK198.out 3; have hfz44_4 := bZ BK198.out 4
       go_wp2
       go_loopg [85] kj28 (fun kq v85 w' => ∃ (x85_2 : Int), v85 = .int .i64 x85_2 ∧ Aside0 (potsherdref12_MayNode.l0 kq l0_3 (l0_3.length : Int) x85_2 a0_0 a0_1 a0_2 l0_3 l0_4 = some r) ∧ Aside0 (kq ≤ kj28) ∧ Aside0 (w'.heap[gb198]? = some (.cells #[.int .i64 a0_0, .int .i64 a0_1, .int .i64 a0_2, (.slice A0_3 l0_3.length c0_3), (.slice A0_4 l0_4.length c0_4)] 28 (0, 0))) ∧ Aside0 (Below w.heap.size w w'))
       case atStart => exact ⟨(0), (by first | rfl | (simp; done) | (simp [*]; done)), H', ⟨Nat.le_refl _⟩, ⟨by (with_reducible repeat (first | refine bN ?_ _ | refine bD ?_ | refine bA ?_ _)); exact BK198.out⟩, ⟨by repeat (first | (with_reducible first | exact HB.out | apply wA | apply wN | apply wD | refine wS ?_ GE198.out) | exact HB.out)⟩⟩
       case round =>
        clear H'
        try clear c1
        try clear c2
        try clear c2b0
        try clear c2b1
        try clear p2
        try clear c3
        try clear c3b0
        try clear c3b1
        try clear c4
        try clear c4b0
        try clear c4b1
        try clear c5
        try clear c5b0
        try clear c5b1
        try clear c5b2
        try clear c14
        try clear c14b0
        try clear c14b1
        try clear c15
        try clear c15b0
        try clear c15b1
        try clear c16
        try clear c16b0
        try clear c16b1
        try clear c17
        try clear c17b0
        try clear c17b1
        try clear c17b2
        try clear c24
        try clear c28
        try clear c28b0
        try clear c28b1
        try clear c32
        try clear c32b0
        try clear c34
        try clear c34b0
        try clear c36
        try clear c36b0
        try clear c38
        try clear c38b0
        try clear c40
        try clear c40b0
        try clear c40b1
        try clear c43
        try clear hcz11_0
        try clear hcz11_1
        try clear hcz11_2
        try clear hcz11_3
        try clear hcz11_4
        try clear hcz13_0
        try clear hcz13_1
        try clear hcz13_2
        try clear hcz13_3
        try clear hcz13_4
        try clear hcz20_0
        try clear hcz20_1
        try clear hcz20_2
        try clear hcz20_3
        try clear hcz20_4
        try clear hcz23_0
        try clear hcz23_1
        try clear hcz23_2
        try clear hcz23_3
        try clear hcz23_4
        try clear hcz25_0
        try clear hcz25_1
        try clear hcz25_2
        try clear hcz25_3
        try clear hcz25_4
        try clear hcz27_0
        try clear hcz27_1
        try clear hcz27_2
        try clear hcz27_3
        try clear hcz27_4
        try clear hcz31_0
        try clear hcz31_1
        try clear hcz31_2
        try clear hcz31_3
        try clear hcz31_4
        try clear hcz33_0
        try clear hcz33_1
        try clear hcz33_2
        try clear hcz33_3
        try clear hcz33_4
        try clear hcz35_0
        try clear hcz35_1
        try clear hcz35_2
        try clear hcz35_3
        try clear hcz35_4
        try clear hcz37_0
        try clear hcz37_1
        try clear hcz37_2
        try clear hcz37_3
        try clear hcz37_4
        try clear hcz39_0
        try clear hcz39_1
        try clear hcz39_2
        try clear hcz39_3
        try clear hcz39_4
        try clear hcz41_0
        try clear hcz41_1
        try clear hcz41_2
        try clear hcz41_3
        try clear hcz41_4
        try clear hcz42_0
        try clear hcz42_1
        try clear hcz42_2
        try clear hcz42_3
        try clear hcz42_4
        try clear hcz44_0
        try clear hcz44_1
        try clear hcz44_2
        try clear hcz44_3
        try clear hcz44_4
        try clear hcz7_0
        try clear hcz7_1
        try clear hcz7_2
        try clear hcz7_3
        try clear hcz7_4
        try clear hcz9_0
        try clear hcz9_1
        try clear hcz9_2
        try clear hcz9_3
        try clear hcz9_4
        try clear hfz11_0
        try clear hfz11_1
        try clear hfz11_2
        try clear hfz11_3
        try clear hfz11_4
        try clear hfz13_0
        try clear hfz13_1
        try clear hfz13_2
        try clear hfz13_3
        try clear hfz13_4
        try clear hfz20_0
        try clear hfz20_1
        try clear hfz20_2
        try clear hfz20_3
        try clear hfz20_4
        try clear hfz23_0
        try clear hfz23_1
        try clear hfz23_2
        try clear hfz23_3
        try clear hfz23_4
        try clear hfz25_0
        try clear hfz25_1
        try clear hfz25_2
        try clear hfz25_3
        try clear hfz25_4
        try clear hfz27_0
        try clear hfz27_1
        try clear hfz27_2
        try clear hfz27_3
        try clear hfz27_4
        try clear hfz31_0
        try clear hfz31_1
        try clear hfz31_2
        try clear hfz31_3
        try clear hfz31_4
        try clear hfz33_0
        try clear hfz33_1
        try clear hfz33_2
        try clear hfz33_3
        try clear hfz33_4
        try clear hfz35_0
        try clear hfz35_1
        try clear hfz35_2
        try clear hfz35_3
        try clear hfz35_4
        try clear hfz37_0
        try clear hfz37_1
        try clear hfz37_2
        try clear hfz37_3
        try clear hfz37_4
        try clear hfz39_0
        try clear hfz39_1
        try clear hfz39_2
        try clear hfz39_3
        try clear hfz39_4
        try clear hfz41_0
        try clear hfz41_1
        try clear hfz41_2
        try clear hfz41_3
        try clear hfz41_4
        try clear hfz42_0
        try clear hfz42_1
        try clear hfz42_2
        try clear hfz42_3
        try clear hfz42_4
        try clear hfz44_0
        try clear hfz44_1
        try clear hfz44_2
        try clear hfz44_3
        try clear hfz44_4
        try clear hfz7_0
        try clear hfz7_1
        try clear hfz7_2
        try clear hfz7_3
        try clear hfz7_4
        try clear hfz9_0
        try clear hfz9_1
        try clear hfz9_2
        try clear hfz9_3
        try clear hfz9_4
        try clear p2
        obtain ⟨x85_2, rfl, HA, HK2, BK198, HB⟩ := hrel
        cases gk with
        | zero => exact absurd HA.out (by simp [potsherdref12_MayNode.l0])
        | succ k2 =>
         have H := HA.out; clear HA; simp only [potsherdref12_MayNode.l0] at H
         by_cases c45 : x85_2 < (l0_3.length : Int)
         ·
          rw [if_pos c45] at H; have c45b0 : decide (x85_2 < (l0_3.length : Int)) = true := decide_eq_true c45; clear c45
          by_cases c46 : 0 ≤ x85_2
          ·
           rw [if_pos c46] at H; have c46b0 : decide (0 ≤ x85_2) = true := decide_eq_true c46; clear c46
           by_cases c47 : x85_2 < (l0_3.length : Int)
           ·
            rw [if_pos c47] at H; have c47b0 : decide (x85_2 < (l0_3.length : Int)) = true := decide_eq_true c47; clear c47
            by_cases c48 : (rd l0_3 x85_2) < 0
            ·
             rw [if_pos c48] at H; have c48b0 : decide ((rd l0_3 x85_2) < 0) = true := decide_eq_true c48; clear c48; obtain rfl := Option.some.inj H; have p200 : 0 ≤ (x85_2 : Int) := of_decide_eq_true (by first | (with_reducible assumption) | assumption); have q200 : x85_2 < (l0_3.length : Int) := of_decide_eq_true (by first | (with_reducible assumption) | assumption); obtain ⟨ad200, e200, hx200_0⟩ := Kd.at_int HR0_3.out x85_2 p200 q200
             cases e200
             replace hx200_0 := (HB.out.cell (World.block_lt_of_cell? w _ hx200_0)).trans hx200_0; replace p200 := eq_true p200; replace q200 := eq_true q200
             go_wp2
             go_ret
             exact ⟨by first | rfl | exact congrArg (fun b_ => Ending.returned (Value.bool b_)) HRET.out | (rw [HRET.out]) | (simp [errW_none, errW_some] <;> rfl) | (simp [*, errW_none, errW_some] <;> rfl), by repeat (first | (with_reducible first | exact HB.out | apply wA | apply wN | apply wD | refine wS ?_ GE198.out) | exact HB.out)⟩
            ·
             rw [if_neg c48] at H; have c48b0 : decide ((rd l0_3 x85_2) < 0) = false := decide_eq_false c48; clear c48
             by_cases c49 : (rd l0_3 x85_2) > 1099511627776
             ·
              rw [if_pos c49] at H; have c49b0 : decide (1099511627776 < (rd l0_3 x85_2)) = true := decide_eq_true c49; clear c49; obtain rfl := Option.some.inj H; have p200 : 0 ≤ (x85_2 : Int) := of_decide_eq_true (by first | (with_reducible assumption) | assumption); have q200 : x85_2 < (l0_3.length : Int) := of_decide_eq_true (by first | (with_reducible assumption) | assumption); obtain ⟨ad200, e200, hx200_0⟩ := Kd.at_int HR0_3.out x85_2 p200 q200
              cases e200
              replace hx200_0 := (HB.out.cell (World.block_lt_of_cell? w _ hx200_0)).trans hx200_0; replace p200 := eq_true p200; replace q200 := eq_true q200
              go_wp2
              go_ret
              exact ⟨by first | rfl | exact congrArg (fun b_ => Ending.returned (Value.bool b_)) HRET.out | (rw [HRET.out]) | (simp [errW_none, errW_some] <;> rfl) | (simp [*, errW_none, errW_some] <;> rfl), by repeat (first | (with_reducible first | exact HB.out | apply wA | apply wN | apply wD | refine wS ?_ GE198.out) | exact HB.out)⟩
             ·
              rw [if_neg c49] at H; have c49b0 : decide (1099511627776 < (rd l0_3 x85_2)) = false := decide_eq_false c49; clear c49
              by_cases c50 : (rd l0_3 x85_2) = 0
              ·
               rw [if_pos c50] at H; have c50b0 : ((rd l0_3 x85_2) == 0) = true := beq_iff_eq.mpr c50; have c50b1 : ((rd l0_3 x85_2) != 0) = false := bne_eq_false_iff_eq.mpr c50; clear c50; have H' := Aside0.mk H; clear H; have p200 : 0 ≤ (x85_2 : Int) := of_decide_eq_true (by first | (with_reducible assumption) | assumption); have q200 : x85_2 < (l0_3.length : Int) := of_decide_eq_true (by first | (with_reducible assumption) | assumption); obtain ⟨ad200, e200, hx200_0⟩ := Kd.at_int HR0_3.out x85_2 p200 q200
               cases e200
               replace hx200_0 := (HB.out.cell (World.block_lt_of_cell? w _ hx200_0)).trans hx200_0; replace p200 := eq_true p200; replace q200 := eq_true q200
               go_wp2
               go_roundg k2
               case measure => have := HJ28.out; have := HK2.out; omega
               case rel => exact ⟨(wrap64 (x85_2 + 1)), (by first | rfl | (simp; done) | (simp [*]; done)), H', ⟨by have := HJ28.out; have := HK2.out; omega⟩, ⟨by (with_reducible repeat (first | refine bN ?_ _ | refine bD ?_ | refine bA ?_ _)); exact BK198.out⟩, ⟨by repeat (first | (with_reducible first | exact HB.out | apply wA | apply wN | apply wD | refine wS ?_ GE198.out) | exact HB.out)⟩⟩
              ·
               rw [if_neg c50] at H; have c50b0 : ((rd l0_3 x85_2) == 0) = false := beq_eq_false_iff_ne.mpr c50; have c50b1 : ((rd l0_3 x85_2) != 0) = true := bne_iff_ne.mpr c50
               by_cases c51 : (wrap64 (x85_2 * 16)) ≥ a0_2
               ·
                rw [if_pos c51] at H; have c51b0 : decide (a0_2 ≤ (wrap64 (x85_2 * 16))) = true := decide_eq_true c51; clear c51; obtain rfl := Option.some.inj H; have p200 : 0 ≤ (x85_2 : Int) := of_decide_eq_true (by first | (with_reducible assumption) | assumption); have q200 : x85_2 < (l0_3.length : Int) := of_decide_eq_true (by first | (with_reducible assumption) | assumption); obtain ⟨ad200, e200, hx200_0⟩ := Kd.at_int HR0_3.out x85_2 p200 q200
                cases e200
                replace hx200_0 := (HB.out.cell (World.block_lt_of_cell? w _ hx200_0)).trans hx200_0; replace p200 := eq_true p200; replace q200 := eq_true q200; have hcz52_0 : wr.cell? ⟨gb198, 0, none⟩ = some (.int .i64 a0_0) := (bC BK198.out 0).trans rfl; have hcz52_1 : wr.cell? ⟨gb198, 1, none⟩ = some (.int .i64 a0_1) := (bC BK198.out 1).trans rfl; have hcz52_2 : wr.cell? ⟨gb198, 2, none⟩ = some (.int .i64 a0_2) := (bC BK198.out 2).trans rfl; have hcz52_3 : wr.cell? ⟨gb198, 3, none⟩ = some (.slice (some ad200) l0_3.length c0_3) := (bC BK198.out 3).trans rfl; have hcz52_4 : wr.cell? ⟨gb198, 4, none⟩ = some (.slice A0_4 l0_4.length c0_4) := (bC BK198.out 4).trans rfl; have hfz52_0 := bZ BK198.out 0; have hfz52_1 := bZ BK198.out 1; have hfz52_2 := bZ BK198.out 2; have hfz52_3 := bZ BK198.out 3; have hfz52_4 := bZ BK198.out 4
                go_wp2
                go_ret
                exact ⟨by first | rfl | exact congrArg (fun b_ => Ending.returned (Value.bool b_)) HRET.out | (rw [HRET.out]) | (simp [errW_none, errW_some] <;> rfl) | (simp [*, errW_none, errW_some] <;> rfl), by repeat (first | (with_reducible first | exact HB.out | apply wA | apply wN | apply wD | refine wS ?_ GE198.out) | exact HB.out)⟩
               ·
                rw [if_neg c51] at H; have c51b0 : decide (a0_2 ≤ (wrap64 (x85_2 * 16))) = false := decide_eq_false c51; clear c51; have H' := Aside0.mk H; clear H; have p200 : 0 ≤ (x85_2 : Int) := of_decide_eq_true (by first | (with_reducible assumption) | assumption); have q200 : x85_2 < (l0_3.length : Int) := of_decide_eq_true (by first | (with_reducible assumption) | assumption); obtain ⟨ad200, e200, hx200_0⟩ := Kd.at_int HR0_3.out x85_2 p200 q200
                cases e200
                replace hx200_0 := (HB.out.cell (World.block_lt_of_cell? w _ hx200_0)).trans hx200_0; replace p200 := eq_true p200; replace q200 := eq_true q200; have hcz53_0 : wr.cell? ⟨gb198, 0, none⟩ = some (.int .i64 a0_0) := (bC BK198.out 0).trans rfl; have hcz53_1 : wr.cell? ⟨gb198, 1, none⟩ = some (.int .i64 a0_1) := (bC BK198.out 1).trans rfl; have hcz53_2 : wr.cell? ⟨gb198, 2, none⟩ = some (.int .i64 a0_2) := (bC BK198.out 2).trans rfl; have hcz53_3 : wr.cell? ⟨gb198, 3, none⟩ = some (.slice (some ad200) l0_3.length c0_3) := (bC BK198.out 3).trans rfl; have hcz53_4 : wr.cell? ⟨gb198, 4, none⟩ = some (.slice A0_4 l0_4.length c0_4) := (bC BK198.out 4).trans rfl; have hfz53_0 := bZ BK198.out 0; have hfz53_1 := bZ BK198.out 1; have hfz53_2 := bZ BK198.out 2; have hfz53_3 := bZ BK198.out 3; have hfz53_4 := bZ BK198.out 4
                go_wp2
                go_roundg k2
                case measure => have := HJ28.out; have := HK2.out; omega
                case rel => exact ⟨(wrap64 (x85_2 + 1)), (by first | rfl | (simp; done) | (simp [*]; done)), H', ⟨by have := HJ28.out; have := HK2.out; omega⟩, ⟨by (with_reducible repeat (first | refine bN ?_ _ | refine bD ?_ | refine bA ?_ _)); exact BK198.out⟩, ⟨by repeat (first | (with_reducible first | exact HB.out | apply wA | apply wN | apply wD | refine wS ?_ GE198.out) | exact HB.out)⟩⟩
           ·
            rw [if_neg c47] at H; exact absurd H (by simp)
          ·
           rw [if_neg c46] at H; exact absurd H (by simp)
         ·
          rw [if_neg c45] at H; have c45b0 : decide (x85_2 < (l0_3.length : Int)) = false := decide_eq_false c45; clear c45; obtain rfl := Option.some.inj H
          go_wp2
          go_ret
          exact ⟨by first | rfl | exact congrArg (fun b_ => Ending.returned (Value.bool b_)) HRET.out | (rw [HRET.out]) | (simp [errW_none, errW_some] <;> rfl) | (simp [*, errW_none, errW_some] <;> rfl), by repeat (first | (with_reducible first | exact HB.out | apply wA | apply wN | apply wD | refine wS ?_ GE198.out) | exact HB.out)⟩
   ·
    rw [if_neg c28] at H; have c28b0 : (a0_0 == 1) = false := beq_eq_false_iff_ne.mpr c28; have c28b1 : (a0_0 != 1) = true := bne_iff_ne.mpr c28; obtain rfl := Option.some.inj H
    go_enter Try.func24, Try.ntmps24
    go_wp2_with (first | ((with_reducible refine gate_dst (N := 1) rfl ?_); (try (refine gate_guard (by rfl) ?_; dsimp only)); refine box_event ?hg (N := 1) ?hd (cs := #[.int .i64 a0_0, .int .i64 a0_1, .int .i64 a0_2, .slice A0_3 l0_3.length c0_3, .slice A0_4 l0_4.length c0_4]) (t := 28) ?hr ?_; (case hd => rfl); (case hg => rfl); (case hr => first | (go_simp; done) | (go_simp; rfl)); intro gb198 hg w54 hbox hb; have n0_ := Aside0.mk (below_step (by repeat (first | (with_reducible first | exact HB.out | apply wA | apply wN | apply wD) | exact HB.out)) hb); have n1_ := Aside0.mk (hbox); have n2_ := Aside0.mk ((by rw [hg]; exact (below_size (by repeat (first | (with_reducible first | exact HB.out | apply wA | apply wN | apply wD) | exact HB.out))) : w.heap.size ≤ gb198)); have n3_ := Aside0.mk ((by rw [hg]; exact (below_size (by repeat (first | (with_reducible first | exact HB.out | apply wA | apply wN | apply wD) | exact HB.out))) : w.heap.size ≤ gb198)); clear HB; have HB := n0_; have BK198 := n1_; have GW198 := n2_; have GE198 := n3_; clear n0_ n1_ n2_ n3_; clear hb hbox hg; have hcz55_0 : w54.cell? ⟨gb198, 0, none⟩ = some (.int .i64 a0_0) := (bC BK198.out 0).trans rfl; have hcz55_1 : w54.cell? ⟨gb198, 1, none⟩ = some (.int .i64 a0_1) := (bC BK198.out 1).trans rfl; have hcz55_2 : w54.cell? ⟨gb198, 2, none⟩ = some (.int .i64 a0_2) := (bC BK198.out 2).trans rfl; have hcz55_3 : w54.cell? ⟨gb198, 3, none⟩ = some (.slice A0_3 l0_3.length c0_3) := (bC BK198.out 3).trans rfl; have hcz55_4 : w54.cell? ⟨gb198, 4, none⟩ = some (.slice A0_4 l0_4.length c0_4) := (bC BK198.out 4).trans rfl; have hfz55_0 := bZ BK198.out 0; have hfz55_1 := bZ BK198.out 1; have hfz55_2 := bZ BK198.out 2; have hfz55_3 := bZ BK198.out 3; have hfz55_4 := bZ BK198.out 4))
    go_ret
    exact ⟨by first | rfl | exact congrArg (fun b_ => Ending.returned (Value.bool b_)) HRET.out | (rw [HRET.out]) | (simp [errW_none, errW_some] <;> rfl) | (simp [*, errW_none, errW_some] <;> rfl), by repeat (first | (with_reducible first | exact HB.out | apply wA | apply wN | apply wD | refine wS ?_ GE198.out) | exact HB.out)⟩
end Go.Proofs.Ytkigiehkckjlhaa.PSums
