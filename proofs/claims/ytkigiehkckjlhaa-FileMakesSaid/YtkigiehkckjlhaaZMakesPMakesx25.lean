/- The Go functions that these laws reach, each as a Lean function with the same answers (a law itself where it answers true), and the proof that the code comes to them; conditions: those of each theorem. Laid by a program of this session over the print. -/
import Derived.Test.YtkigiehkckjlhaaZMakesPMakesx0
namespace Go.Proofs.Ytkigiehkckjlhaa.PMakes
open Go.RowKit Go.Proofs.YtkigiehkckjlhaaW.PrintWords Go.Proofs.YtkigiehkckjlhaaW.PrintLast Go.Proofs.YtkigiehkckjlhaaW.PrintMore
attribute [local go_sem] max2_int min2_int max_two min_two max_three min_three max_four min_four   -- for this text's walks alone
set_option linter.unusedVariables false
set_option linter.unusedSimpArgs false
open Go.Proofs.YtkigiehkckjlhaaW.PrintWords renaming blk_drewN → bN, blk_drew → bD, blk_alloc → bA, below_set → wS, below_alloc → wA, pw_below_drewN → wN, below_drew1 → wD, blk_below → bB, blk_far → bF, blk_cell → bC, blk_frozen → bZ
open List renaming setIfInBounds_toArray → lT, set_cons_zero → l0_, set_cons_succ → lS
def potsherdlaw20_light.l0 : Nat → List (S60) → Int → Int → Option (Bool)
 | 0, _, _, _ => none
 | k + 1, x5, x6, x7 => if x7 < x6 then (if 0 ≤ x7 then (if x7 < (x5.length : Int) then (if x7 ≥ 30 then (some false) else (if (((rd_T60 x5 x7).f5).length : Int) > 200 then (some false) else (potsherdlaw20_light.l0 k x5 x6 (wrap64 (x7 + 1))))) else (none)) else (none)) else (some true)
def potsherdlaw20_light.f (k : Nat) (l0 : List (S60)) : Option (Bool) := potsherdlaw20_light.l0 k l0 (l0.length : Int) 0
theorem potsherdlaw20_light.mono_l : ∀ k, (∀ y0 y1 y2, LeO (potsherdlaw20_light.l0 k y0 y1 y2) (potsherdlaw20_light.l0 (k + 1) y0 y1 y2))
 | 0 => fun _ _ _ r h => by simp [potsherdlaw20_light.l0] at h
 | k + 1 => by
  have ih0 := potsherdlaw20_light.mono_l k
  ·
   intro y0 y1 y2
   unfold potsherdlaw20_light.l0
   repeat' first
   | (with_reducible exact ih0 _ _ _)
   | (with_reducible exact LeO.refl _)
   | (with_reducible exact LeO.none _)
   | (with_reducible refine LeO.ite ?_ ?_)
   | (with_reducible refine LeO.bind ?_ (fun _ => ?_))
   | exact ih0 _ _ _
   | exact LeO.none _
   | refine LeO.ite ?_ ?_
   | refine LeO.bind ?_ (fun _ => ?_)
theorem potsherdlaw20_light.mono : ∀ a0 k, LeO (potsherdlaw20_light.f k a0) (potsherdlaw20_light.f (k + 1) a0) := by
 intro a0 k; have ih0 := potsherdlaw20_light.mono_l k
 unfold potsherdlaw20_light.f
 repeat' first
  | (with_reducible exact ih0 _ _ _)
  | (with_reducible exact LeO.refl _)
  | (with_reducible exact LeO.none _)
  | (with_reducible refine LeO.ite ?_ ?_)
  | (with_reducible refine LeO.bind ?_ (fun _ => ?_))
  | exact ih0 _ _ _
  | exact LeO.none _
  | refine LeO.ite ?_ ?_
  | refine LeO.bind ?_ (fun _ => ?_)
set_option maxHeartbeats 8000000 in
set_option maxRecDepth 100000 in
theorem potsherdlaw20_light.calls (k : Nat) (A0 : Option Addr) (c0 : Nat) (l0 : List (S60)) (r : Bool) (w : World) (hr0 : Kd.C k60 w A0 l0.length l0) (hc0 : l0.length ≤ c0) (h : potsherdlaw20_light.f k l0 = some r) :
 Calls Try.prog 35 #[.slice A0 l0.length c0] w fun e w' => e = .returned (.bool r) ∧ Below w.heap.size w w' := by
 have hu60 := Try.underlying60; have HR0 := Aside0.mk hr0; have HC0 := Aside0.mk hc0; clear hr0 hc0; have HB := Aside0.mk (Below.refl w.heap.size w); have H : (potsherdlaw20_light.l0 k l0 (l0.length : Int) 0) = some r := h; clear h; have H' := Aside0.mk H; clear H
 go_enter Try.func35, Try.ntmps35
 go_wp2
 go_loopg [7] k (fun kq v7 w' => ∃ (x7_1 : Int), v7 = .int .i64 x7_1 ∧ Aside0 (potsherdlaw20_light.l0 kq l0 (l0.length : Int) x7_1 = some r) ∧ Aside0 (kq ≤ k) ∧ Aside0 (Below w.heap.size w w'))
 case atStart => exact ⟨(0), (by first | rfl | (simp; done) | (simp [*]; done)), H', ⟨Nat.le_refl _⟩, ⟨by repeat (first | (with_reducible first | exact HB.out | apply wA | apply wN | apply wD) | exact HB.out)⟩⟩
 case round =>
  clear H'; obtain ⟨x7_1, rfl, HA, HK1, HB⟩ := hrel
  cases gk with
  | zero => exact absurd HA.out (by simp [potsherdlaw20_light.l0])
  | succ k1 =>
   have H := HA.out; clear HA; simp only [potsherdlaw20_light.l0] at H
   by_cases c2 : x7_1 < (l0.length : Int)
   ·
    rw [if_pos c2] at H; have c2b0 : decide (x7_1 < (l0.length : Int)) = true := decide_eq_true c2; clear c2
    by_cases c3 : 0 ≤ x7_1
    ·
     rw [if_pos c3] at H; have c3b0 : decide (0 ≤ x7_1) = true := decide_eq_true c3; clear c3
     by_cases c4 : x7_1 < (l0.length : Int)
     ·
      rw [if_pos c4] at H; have c4b0 : decide (x7_1 < (l0.length : Int)) = true := decide_eq_true c4; clear c4
      by_cases c5 : x7_1 ≥ 30
      ·
       rw [if_pos c5] at H; have c5b0 : decide (30 ≤ x7_1) = true := decide_eq_true c5; clear c5; obtain rfl := Option.some.inj H; have p482 : 0 ≤ (x7_1 : Int) := of_decide_eq_true (by first | (with_reducible assumption) | assumption); have q482 : x7_1 < (l0.length : Int) := of_decide_eq_true (by first | (with_reducible assumption) | assumption); obtain ⟨ad482, A482_5, c482_5, e482, hx482_0, hx482_1, hx482_2, hx482_3, hx482_4, hx482_5, hl482_5, hi482_5⟩ := at_T60 HR0.out x7_1 p482 q482
       cases e482
       replace hx482_0 := (HB.out.cell (World.block_lt_of_cell? w _ hx482_0)).trans hx482_0; replace hx482_1 := (HB.out.cell (World.block_lt_of_cell? w _ hx482_1)).trans hx482_1; replace hx482_2 := (HB.out.cell (World.block_lt_of_cell? w _ hx482_2)).trans hx482_2; replace hx482_3 := (HB.out.cell (World.block_lt_of_cell? w _ hx482_3)).trans hx482_3; replace hx482_4 := (HB.out.cell (World.block_lt_of_cell? w _ hx482_4)).trans hx482_4; replace hx482_5 := (HB.out.cell (World.block_lt_of_cell? w _ hx482_5)).trans hx482_5; have HR482_5 := Aside0.mk hi482_5; have HC482_5 := Aside0.mk hl482_5; clear hi482_5 hl482_5; replace p482 := eq_true p482; replace q482 := eq_true q482
       go_wp2_with (first | ((with_reducible refine gate_dst (N := 4) rfl ?_); (try (refine gate_guard (by rfl) ?_; dsimp only)); refine box_event ?hg (N := 4) ?hd (cs := #[.int .i64 0, .int .i64 0, .int .i64 0, .int .i64 0, .int .i64 0, .slice none 0 0]) (t := 60) ?hr ?_; (case hd => rfl); (case hg => rfl); (case hr => first | (go_simp; done) | (go_simp; rfl)); intro gb483 hg w6 hbox hb; have n0_ := Aside0.mk (below_step (by repeat (first | (with_reducible first | exact HB.out | apply wA | apply wN | apply wD) | exact HB.out)) hb); have n1_ := Aside0.mk (hbox); have n2_ := Aside0.mk ((by rw [hg]; exact (below_size (by repeat (first | (with_reducible first | exact HB.out | apply wA | apply wN | apply wD) | exact HB.out))) : w.heap.size ≤ gb483)); have n3_ := Aside0.mk ((by rw [hg]; exact (below_size (by repeat (first | (with_reducible first | exact HB.out | apply wA | apply wN | apply wD) | exact HB.out))) : w.heap.size ≤ gb483)); clear HB; have HB := n0_; have BK483 := n1_; have GW483 := n2_; have GE483 := n3_; clear n0_ n1_ n2_ n3_; clear hb hbox hg; have hcz7_0 : w6.cell? ⟨gb483, 0, none⟩ = some (.int .i64 0) := (bC BK483.out 0).trans rfl; have hcz7_1 : w6.cell? ⟨gb483, 1, none⟩ = some (.int .i64 0) := (bC BK483.out 1).trans rfl; have hcz7_2 : w6.cell? ⟨gb483, 2, none⟩ = some (.int .i64 0) := (bC BK483.out 2).trans rfl; have hcz7_3 : w6.cell? ⟨gb483, 3, none⟩ = some (.int .i64 0) := (bC BK483.out 3).trans rfl; have hcz7_4 : w6.cell? ⟨gb483, 4, none⟩ = some (.int .i64 0) := (bC BK483.out 4).trans rfl; have hcz7_5 : w6.cell? ⟨gb483, 5, none⟩ = some (.slice none 0 0) := (bC BK483.out 5).trans rfl; have hfz7_0 := bZ BK483.out 0; have hfz7_1 := bZ BK483.out 1; have hfz7_2 := bZ BK483.out 2; have hfz7_3 := bZ BK483.out 3; have hfz7_4 := bZ BK483.out 4; have hfz7_5 := bZ BK483.out 5))
       go_ret
       exact ⟨by first | rfl | exact congrArg (fun b_ => Ending.returned (Value.bool b_)) HRET.out | (rw [HRET.out]) | (simp [errW_none, errW_some] <;> rfl) | (simp [*, errW_none, errW_some] <;> rfl), by repeat (first | (with_reducible first | exact HB.out | apply wA | apply wN | apply wD | refine wS ?_ GE483.out) | exact HB.out)⟩
      ·
       rw [if_neg c5] at H; have c5b0 : decide (30 ≤ x7_1) = false := decide_eq_false c5; clear c5
       by_cases c8 : (((rd_T60 l0 x7_1).f5).length : Int) > 200
       ·
        rw [if_pos c8] at H; have c8b0 : decide (200 < (((rd_T60 l0 x7_1).f5).length : Int)) = true := decide_eq_true c8; have c8b1 : decide (200 < ((rd_T60 l0 x7_1).f5).length) = true := decide_eq_true (by omega); clear c8; obtain rfl := Option.some.inj H; have p482 : 0 ≤ (x7_1 : Int) := of_decide_eq_true (by first | (with_reducible assumption) | assumption); have q482 : x7_1 < (l0.length : Int) := of_decide_eq_true (by first | (with_reducible assumption) | assumption); obtain ⟨ad482, A482_5, c482_5, e482, hx482_0, hx482_1, hx482_2, hx482_3, hx482_4, hx482_5, hl482_5, hi482_5⟩ := at_T60 HR0.out x7_1 p482 q482
        cases e482
        replace hx482_0 := (HB.out.cell (World.block_lt_of_cell? w _ hx482_0)).trans hx482_0; replace hx482_1 := (HB.out.cell (World.block_lt_of_cell? w _ hx482_1)).trans hx482_1; replace hx482_2 := (HB.out.cell (World.block_lt_of_cell? w _ hx482_2)).trans hx482_2; replace hx482_3 := (HB.out.cell (World.block_lt_of_cell? w _ hx482_3)).trans hx482_3; replace hx482_4 := (HB.out.cell (World.block_lt_of_cell? w _ hx482_4)).trans hx482_4; replace hx482_5 := (HB.out.cell (World.block_lt_of_cell? w _ hx482_5)).trans hx482_5; have HR482_5 := Aside0.mk hi482_5; have HC482_5 := Aside0.mk hl482_5; clear hi482_5 hl482_5; replace p482 := eq_true p482; replace q482 := eq_true q482
        go_wp2_with (first | ((with_reducible refine gate_dst (N := 4) rfl ?_); (try (refine gate_guard (by rfl) ?_; dsimp only)); refine box_event ?hg (N := 4) ?hd (cs := #[.int .i64 0, .int .i64 0, .int .i64 0, .int .i64 0, .int .i64 0, .slice none 0 0]) (t := 60) ?hr ?_; (case hd => rfl); (case hg => rfl); (case hr => first | (go_simp; done) | (go_simp; rfl)); intro gb483 hg w9 hbox hb; have n0_ := Aside0.mk (below_step (by repeat (first | (with_reducible first | exact HB.out | apply wA | apply wN | apply wD) | exact HB.out)) hb); have n1_ := Aside0.mk (hbox); have n2_ := Aside0.mk ((by rw [hg]; exact (below_size (by repeat (first | (with_reducible first | exact HB.out | apply wA | apply wN | apply wD) | exact HB.out))) : w.heap.size ≤ gb483)); have n3_ := Aside0.mk ((by rw [hg]; exact (below_size (by repeat (first | (with_reducible first | exact HB.out | apply wA | apply wN | apply wD) | exact HB.out))) : w.heap.size ≤ gb483)); clear HB; have HB := n0_; have BK483 := n1_; have GW483 := n2_; have GE483 := n3_; clear n0_ n1_ n2_ n3_; clear hb hbox hg; have hcz10_0 : w9.cell? ⟨gb483, 0, none⟩ = some (.int .i64 0) := (bC BK483.out 0).trans rfl; have hcz10_1 : w9.cell? ⟨gb483, 1, none⟩ = some (.int .i64 0) := (bC BK483.out 1).trans rfl; have hcz10_2 : w9.cell? ⟨gb483, 2, none⟩ = some (.int .i64 0) := (bC BK483.out 2).trans rfl; have hcz10_3 : w9.cell? ⟨gb483, 3, none⟩ = some (.int .i64 0) := (bC BK483.out 3).trans rfl; have hcz10_4 : w9.cell? ⟨gb483, 4, none⟩ = some (.int .i64 0) := (bC BK483.out 4).trans rfl; have hcz10_5 : w9.cell? ⟨gb483, 5, none⟩ = some (.slice none 0 0) := (bC BK483.out 5).trans rfl; have hfz10_0 := bZ BK483.out 0; have hfz10_1 := bZ BK483.out 1; have hfz10_2 := bZ BK483.out 2; have hfz10_3 := bZ BK483.out 3; have hfz10_4 := bZ BK483.out 4; have hfz10_5 := bZ BK483.out 5))
        go_ret
        exact ⟨by first | rfl | exact congrArg (fun b_ => Ending.returned (Value.bool b_)) HRET.out | (rw [HRET.out]) | (simp [errW_none, errW_some] <;> rfl) | (simp [*, errW_none, errW_some] <;> rfl), by repeat (first | (with_reducible first | exact HB.out | apply wA | apply wN | apply wD | refine wS ?_ GE483.out) | exact HB.out)⟩
       ·
        rw [if_neg c8] at H; have c8b0 : decide (200 < (((rd_T60 l0 x7_1).f5).length : Int)) = false := decide_eq_false c8; have c8b1 : decide (200 < ((rd_T60 l0 x7_1).f5).length) = false := decide_eq_false (by omega); clear c8; have H' := Aside0.mk H; clear H; have p482 : 0 ≤ (x7_1 : Int) := of_decide_eq_true (by first | (with_reducible assumption) | assumption); have q482 : x7_1 < (l0.length : Int) := of_decide_eq_true (by first | (with_reducible assumption) | assumption); obtain ⟨ad482, A482_5, c482_5, e482, hx482_0, hx482_1, hx482_2, hx482_3, hx482_4, hx482_5, hl482_5, hi482_5⟩ := at_T60 HR0.out x7_1 p482 q482
        cases e482
        replace hx482_0 := (HB.out.cell (World.block_lt_of_cell? w _ hx482_0)).trans hx482_0; replace hx482_1 := (HB.out.cell (World.block_lt_of_cell? w _ hx482_1)).trans hx482_1; replace hx482_2 := (HB.out.cell (World.block_lt_of_cell? w _ hx482_2)).trans hx482_2; replace hx482_3 := (HB.out.cell (World.block_lt_of_cell? w _ hx482_3)).trans hx482_3; replace hx482_4 := (HB.out.cell (World.block_lt_of_cell? w _ hx482_4)).trans hx482_4; replace hx482_5 := (HB.out.cell (World.block_lt_of_cell? w _ hx482_5)).trans hx482_5; have HR482_5 := Aside0.mk hi482_5; have HC482_5 := Aside0.mk hl482_5; clear hi482_5 hl482_5; replace p482 := eq_true p482; replace q482 := eq_true q482
        go_wp2_with (first | ((with_reducible refine gate_dst (N := 4) rfl ?_); (try (refine gate_guard (by rfl) ?_; dsimp only)); refine box_event ?hg (N := 4) ?hd (cs := #[.int .i64 0, .int .i64 0, .int .i64 0, .int .i64 0, .int .i64 0, .slice none 0 0]) (t := 60) ?hr ?_; (case hd => rfl); (case hg => rfl); (case hr => first | (go_simp; done) | (go_simp; rfl)); intro gb483 hg w11 hbox hb; have n0_ := Aside0.mk (below_step (by repeat (first | (with_reducible first | exact HB.out | apply wA | apply wN | apply wD) | exact HB.out)) hb); have n1_ := Aside0.mk (hbox); have n2_ := Aside0.mk ((by rw [hg]; exact (below_size (by repeat (first | (with_reducible first | exact HB.out | apply wA | apply wN | apply wD) | exact HB.out))) : w.heap.size ≤ gb483)); have n3_ := Aside0.mk ((by rw [hg]; exact (below_size (by repeat (first | (with_reducible first | exact HB.out | apply wA | apply wN | apply wD) | exact HB.out))) : w.heap.size ≤ gb483)); clear HB; have HB := n0_; have BK483 := n1_; have GW483 := n2_; have GE483 := n3_; clear n0_ n1_ n2_ n3_; clear hb hbox hg; have hcz12_0 : w11.cell? ⟨gb483, 0, none⟩ = some (.int .i64 0) := (bC BK483.out 0).trans rfl; have hcz12_1 : w11.cell? ⟨gb483, 1, none⟩ = some (.int .i64 0) := (bC BK483.out 1).trans rfl; have hcz12_2 : w11.cell? ⟨gb483, 2, none⟩ = some (.int .i64 0) := (bC BK483.out 2).trans rfl; have hcz12_3 : w11.cell? ⟨gb483, 3, none⟩ = some (.int .i64 0) := (bC BK483.out 3).trans rfl; have hcz12_4 : w11.cell? ⟨gb483, 4, none⟩ = some (.int .i64 0) := (bC BK483.out 4).trans rfl; have hcz12_5 : w11.cell? ⟨gb483, 5, none⟩ = some (.slice none 0 0) := (bC BK483.out 5).trans rfl; have hfz12_0 := bZ BK483.out 0; have hfz12_1 := bZ BK483.out 1; have hfz12_2 := bZ BK483.out 2; have hfz12_3 := bZ BK483.out 3; have hfz12_4 := bZ BK483.out 4; have hfz12_5 := bZ BK483.out 5))
        go_roundg k1
        case measure => have := HK1.out; omega
        case rel => exact ⟨(wrap64 (x7_1 + 1)), (by first | rfl | (simp; done) | (simp [*]; done)), H', ⟨by have := HK1.out; omega⟩, ⟨by repeat (first | (with_reducible first | exact HB.out | apply wA | apply wN | apply wD | refine wS ?_ GE483.out) | exact HB.out)⟩⟩
     ·
      rw [if_neg c4] at H; exact absurd H (by simp)
    ·
     rw [if_neg c3] at H; exact absurd H (by simp)
   ·
    rw [if_neg c2] at H; have c2b0 : decide (x7_1 < (l0.length : Int)) = false := decide_eq_false c2; clear c2; obtain rfl := Option.some.inj H
    go_wp2
    go_ret
    exact ⟨by first | rfl | exact congrArg (fun b_ => Ending.returned (Value.bool b_)) HRET.out | (rw [HRET.out]) | (simp [errW_none, errW_some] <;> rfl) | (simp [*, errW_none, errW_some] <;> rfl), by repeat (first | (with_reducible first | exact HB.out | apply wA | apply wN | apply wD) | exact HB.out)⟩
end Go.Proofs.Ytkigiehkckjlhaa.PMakes
