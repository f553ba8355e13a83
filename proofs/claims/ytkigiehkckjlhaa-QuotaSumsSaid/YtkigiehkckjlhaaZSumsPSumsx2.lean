/- The Go functions that these laws reach, each as a Lean function with the same answers (a law itself where it answers true), and the proof that the code comes to them; conditions: those of each theorem. Laid by a program of this session over the print. -/
import Derived.Test.YtkigiehkckjlhaaZSumsPSumsx0
import Derived.Test.YtkigiehkckjlhaaZSumsPSumsx1
namespace Go.Proofs.Ytkigiehkckjlhaa.PSums
open Go.RowKit Go.Proofs.YtkigiehkckjlhaaW.PrintWords Go.Proofs.YtkigiehkckjlhaaW.PrintLast Go.Proofs.YtkigiehkckjlhaaW.PrintMore
attribute [local go_sem] max2_int min2_int max_two min_two max_three min_three max_four min_four   -- for this text's walks alone
set_option linter.unusedVariables false
set_option linter.unusedSimpArgs false
open Go.Proofs.YtkigiehkckjlhaaW.PrintWords renaming blk_drewN → bN, blk_drew → bD, blk_alloc → bA, below_set → wS, below_alloc → wA, pw_below_drewN → wN, below_drew1 → wD, blk_below → bB, blk_far → bF, blk_cell → bC, blk_frozen → bZ
open List renaming setIfInBounds_toArray → lT, set_cons_zero → l0_, set_cons_succ → lS
mutual
def node_file.j0 : Nat → Bool → Int → Int → Int → List Int → List (S78) → Option (Bool)
 | 0, _, _, _, _, _, _ => none
 | k + 1, x26, x110000, x110001, x110002, x110003, x110004 => if x26 = true then (some false) else (node_file.l0 k x110003 (x110003.length : Int) 0 x110000 x110001 x110002 x110003 x110004)
def node_file.l0 : Nat → List Int → Int → Int → Int → Int → Int → List Int → List (S78) → Option (Bool)
 | 0, _, _, _, _, _, _, _, _ => none
 | k + 1, x28, x29, x30, x110000, x110001, x110002, x110003, x110004 => if x30 < x29 then (if 0 ≤ x30 then (if x30 < (x28.length : Int) then ((node_within.f (rd x28 x30) 1099511627776).bind fun t113 => (if t113 = true then (if (wrap64 (x30 * 16)) ≥ x110002 then (if (rd x28 x30) = 0 then (node_file.l0 k x28 x29 (wrap64 (x30 + 1)) x110000 x110001 x110002 x110003 x110004) else (some false)) else (node_file.l0 k x28 x29 (wrap64 (x30 + 1)) x110000 x110001 x110002 x110003 x110004)) else (some false))) else (none)) else (none)) else (some true)
end
def node_file.f (k : Nat) (a0_0 : Int) (a0_1 : Int) (a0_2 : Int) (l0_3 : List Int) (l0_4 : List (S78)) : Option (Bool) := (node_within.f a0_1 120).bind fun t110 => (if t110 = true then ((node_within.f a0_2 80).bind fun t111 => (if t111 = true then (if (l0_3.length : Int) = 5 then (node_file.j0 k (decide ((l0_4.length : Int) > 0)) a0_0 a0_1 a0_2 l0_3 l0_4) else (node_file.j0 k true a0_0 a0_1 a0_2 l0_3 l0_4)) else (node_file.j0 k true a0_0 a0_1 a0_2 l0_3 l0_4))) else (node_file.j0 k true a0_0 a0_1 a0_2 l0_3 l0_4))
theorem node_file.mono_l : ∀ k, (∀ y0 y1 y2 y3 y4 y5, LeO (node_file.j0 k y0 y1 y2 y3 y4 y5) (node_file.j0 (k + 1) y0 y1 y2 y3 y4 y5)) ∧ (∀ y0 y1 y2 y3 y4 y5 y6 y7, LeO (node_file.l0 k y0 y1 y2 y3 y4 y5 y6 y7) (node_file.l0 (k + 1) y0 y1 y2 y3 y4 y5 y6 y7))
 | 0 => ⟨fun _ _ _ _ _ _ r h => by simp [node_file.j0] at h, fun _ _ _ _ _ _ _ _ r h => by simp [node_file.l0] at h⟩
 | k + 1 => by
  obtain ⟨ih0, ih1⟩ := node_file.mono_l k; refine ⟨?_, ?_⟩
  ·
   intro y0 y1 y2 y3 y4 y5
   unfold node_file.j0
   repeat' first
   | (with_reducible exact ih0 _ _ _ _ _ _)
   | (with_reducible exact ih1 _ _ _ _ _ _ _ _)
   | (with_reducible exact LeO.refl _)
   | (with_reducible exact LeO.none _)
   | (with_reducible refine LeO.ite ?_ ?_)
   | (with_reducible refine LeO.bind ?_ (fun _ => ?_))
   | exact ih0 _ _ _ _ _ _
   | exact ih1 _ _ _ _ _ _ _ _
   | exact LeO.none _
   | refine LeO.ite ?_ ?_
   | refine LeO.bind ?_ (fun _ => ?_)
  ·
   intro y0 y1 y2 y3 y4 y5 y6 y7
   unfold node_file.l0
   repeat' first
   | (with_reducible exact ih0 _ _ _ _ _ _)
   | (with_reducible exact ih1 _ _ _ _ _ _ _ _)
   | (with_reducible exact LeO.refl _)
   | (with_reducible exact LeO.none _)
   | (with_reducible refine LeO.ite ?_ ?_)
   | (with_reducible refine LeO.bind ?_ (fun _ => ?_))
   | exact ih0 _ _ _ _ _ _
   | exact ih1 _ _ _ _ _ _ _ _
   | exact LeO.none _
   | refine LeO.ite ?_ ?_
   | refine LeO.bind ?_ (fun _ => ?_)
theorem node_file.mono : ∀ a0 a1 a2 a3 a4 k, LeO (node_file.f k a0 a1 a2 a3 a4) (node_file.f (k + 1) a0 a1 a2 a3 a4) := by
 intro a0 a1 a2 a3 a4 k; obtain ⟨ih0, ih1⟩ := node_file.mono_l k
 unfold node_file.f
 repeat' first
  | (with_reducible exact ih0 _ _ _ _ _ _)
  | (with_reducible exact ih1 _ _ _ _ _ _ _ _)
  | (with_reducible exact LeO.refl _)
  | (with_reducible exact LeO.none _)
  | (with_reducible refine LeO.ite ?_ ?_)
  | (with_reducible refine LeO.bind ?_ (fun _ => ?_))
  | exact ih0 _ _ _ _ _ _
  | exact ih1 _ _ _ _ _ _ _ _
  | exact LeO.none _
  | refine LeO.ite ?_ ?_
  | refine LeO.bind ?_ (fun _ => ?_)
set_option maxHeartbeats 8000000 in
set_option maxRecDepth 100000 in
theorem node_file.calls (k : Nat) (a0_0 : Int) (a0_1 : Int) (a0_2 : Int) (A0_3 : Option Addr) (c0_3 : Nat) (l0_3 : List Int) (A0_4 : Option Addr) (c0_4 : Nat) (l0_4 : List (S78)) (r : Bool) (w : World) (hr0_3 : Kd.C (Kd.int .i64) w A0_3 l0_3.length l0_3) (hc0_3 : l0_3.length ≤ c0_3) (hr0_4 : Kd.C k78 w A0_4 l0_4.length l0_4) (hc0_4 : l0_4.length ≤ c0_4) (h : node_file.f k a0_0 a0_1 a0_2 l0_3 l0_4 = some r) :
 Calls Try.prog 67 #[.agg #[.int .i64 a0_0, .int .i64 a0_1, .int .i64 a0_2, .slice A0_3 l0_3.length c0_3, .slice A0_4 l0_4.length c0_4]] w fun e w' => e = .returned (.bool r) ∧ Below w.heap.size w w' := by
 have hu28 := Try.underlying28; have HR0_3 := Aside0.mk hr0_3; have HC0_3 := Aside0.mk hc0_3; clear hr0_3 hc0_3; have HR0_4 := Aside0.mk hr0_4; have HC0_4 := Aside0.mk hc0_4; clear hr0_4 hc0_4; have HB := Aside0.mk (Below.refl w.heap.size w); have H : ((node_within.f a0_1 120).bind fun t110 => (if t110 = true then ((node_within.f a0_2 80).bind fun t111 => (if t111 = true then (if (l0_3.length : Int) = 5 then (node_file.j0 k (decide ((l0_4.length : Int) > 0)) a0_0 a0_1 a0_2 l0_3 l0_4) else (node_file.j0 k true a0_0 a0_1 a0_2 l0_3 l0_4)) else (node_file.j0 k true a0_0 a0_1 a0_2 l0_3 l0_4))) else (node_file.j0 k true a0_0 a0_1 a0_2 l0_3 l0_4))) = some r := h; clear h; have HC2 := Aside0.mk H; clear H
 go_enter Try.func67, Try.ntmps67
 go_upto_region 1 with (first | ((with_reducible refine gate_dst (N := 1) rfl ?_); (try (refine gate_guard (by rfl) ?_; dsimp only)); refine box_event ?hg (N := 1) ?hd (cs := #[.int .i64 a0_0, .int .i64 a0_1, .int .i64 a0_2, .slice A0_3 l0_3.length c0_3, .slice A0_4 l0_4.length c0_4]) (t := 28) ?hr ?_; (case hd => rfl); (case hg => rfl); (case hr => first | (go_simp; done) | (go_simp; rfl)); intro gb109 hg w3 hbox hb; have n0_ := Aside0.mk (below_step (by repeat (first | (with_reducible first | exact HB.out | apply wA | apply wN | apply wD) | exact HB.out)) hb); have n1_ := Aside0.mk (hbox); have n2_ := Aside0.mk ((by rw [hg]; exact (below_size (by repeat (first | (with_reducible first | exact HB.out | apply wA | apply wN | apply wD) | exact HB.out))) : w.heap.size ≤ gb109)); have n3_ := Aside0.mk ((by rw [hg]; exact (below_size (by repeat (first | (with_reducible first | exact HB.out | apply wA | apply wN | apply wD) | exact HB.out))) : w.heap.size ≤ gb109)); clear HB; have HB := n0_; have BK109 := n1_; have GW109 := n2_; have GE109 := n3_; clear n0_ n1_ n2_ n3_; clear hb hbox hg))
 (try simp only [Act.put, lT, l0_, lS])
 go_cut [26] (fun v26 wc => ∃ (kq : Nat) (x26_1 : Bool), v26 = .bool x26_1 ∧ Aside0 (node_file.j0 kq x26_1 a0_0 a0_1 a0_2 l0_3 l0_4 = some r) ∧ Aside0 (kq ≤ k) ∧ Aside0 (wc.heap[gb109]? = some (.cells #[.int .i64 a0_0, .int .i64 a0_1, .int .i64 a0_2, (.slice A0_3 l0_3.length c0_3), (.slice A0_4 l0_4.length c0_4)] 28 (0, 0))) ∧ Aside0 (Below w.heap.size w wc))
 case first =>
  have H := HC2.out; clear HC2; replace H := Option.bind_eq_some_iff.mp H; obtain ⟨t110, A40, H⟩ := H; replace H : (if t110 = true then ((node_within.f a0_2 80).bind fun t111 => (if t111 = true then (if (l0_3.length : Int) = 5 then (node_file.j0 k (decide ((l0_4.length : Int) > 0)) a0_0 a0_1 a0_2 l0_3 l0_4) else (node_file.j0 k true a0_0 a0_1 a0_2 l0_3 l0_4)) else (node_file.j0 k true a0_0 a0_1 a0_2 l0_3 l0_4))) else (node_file.j0 k true a0_0 a0_1 a0_2 l0_3 l0_4)) = some r := H; have A4 := Aside0.mk A40; clear A40
  by_cases c5 : t110 = true
  ·
   subst c5
   have H1 : ((node_within.f a0_2 80).bind fun t111 => (if t111 = true then (if (l0_3.length : Int) = 5 then (node_file.j0 k (decide ((l0_4.length : Int) > 0)) a0_0 a0_1 a0_2 l0_3 l0_4) else (node_file.j0 k true a0_0 a0_1 a0_2 l0_3 l0_4)) else (node_file.j0 k true a0_0 a0_1 a0_2 l0_3 l0_4))) = some r := by rw [if_pos rfl] at H; exact H
   clear H; have H := H1; clear H1; replace H := Option.bind_eq_some_iff.mp H; obtain ⟨t111, A60, H⟩ := H; replace H : (if t111 = true then (if (l0_3.length : Int) = 5 then (node_file.j0 k (decide ((l0_4.length : Int) > 0)) a0_0 a0_1 a0_2 l0_3 l0_4) else (node_file.j0 k true a0_0 a0_1 a0_2 l0_3 l0_4)) else (node_file.j0 k true a0_0 a0_1 a0_2 l0_3 l0_4)) = some r := H; have A6 := Aside0.mk A60; clear A60
   by_cases c7 : t111 = true
   ·
    subst c7
    have H1 : (if (l0_3.length : Int) = 5 then (node_file.j0 k (decide ((l0_4.length : Int) > 0)) a0_0 a0_1 a0_2 l0_3 l0_4) else (node_file.j0 k true a0_0 a0_1 a0_2 l0_3 l0_4)) = some r := by rw [if_pos rfl] at H; exact H
    clear H; have H := H1; clear H1
    by_cases c8 : (l0_3.length : Int) = 5
    ·
     rw [if_pos c8] at H; have c8b0 : ((l0_3.length : Int) == 5) = true := beq_iff_eq.mpr c8; have c8b1 : ((l0_3.length : Int) != 5) = false := bne_eq_false_iff_eq.mpr c8; clear c8
     (first | rw [c8b0] | (simp only [i64_w, i32_w]; rw [c8b0]) | skip)
     have H' := Aside0.mk H; clear H; have hcz9_0 : w3.cell? ⟨gb109, 0, none⟩ = some (.int .i64 a0_0) := (bC BK109.out 0).trans rfl; have hcz9_1 : w3.cell? ⟨gb109, 1, none⟩ = some (.int .i64 a0_1) := (bC BK109.out 1).trans rfl; have hcz9_2 : w3.cell? ⟨gb109, 2, none⟩ = some (.int .i64 a0_2) := (bC BK109.out 2).trans rfl; have hcz9_3 : w3.cell? ⟨gb109, 3, none⟩ = some (.slice A0_3 l0_3.length c0_3) := (bC BK109.out 3).trans rfl; have hcz9_4 : w3.cell? ⟨gb109, 4, none⟩ = some (.slice A0_4 l0_4.length c0_4) := (bC BK109.out 4).trans rfl; have hfz9_0 := bZ BK109.out 0; have hfz9_1 := bZ BK109.out 1; have hfz9_2 := bZ BK109.out 2; have hfz9_3 := bZ BK109.out 3; have hfz9_4 := bZ BK109.out 4
     go_wp2_with (first | ((with_reducible refine gate_callee (f := 81) rfl ?_); refine goesL_ (some 7) rfl rfl Try.func81 (by kernel_rfl) rfl #[.int .i64 a0_1, .int .i64 120] rfl (by (try simp only [List.map_toArray, List.map_cons, List.map_nil]); first | done | rfl | (simp only [List.length_drop, List.length_take]; rfl)) ?_; (with_reducible refine (node_within.calls a0_1 120 true _ A4.out).mono ?_); rintro e w' ⟨rfl, ⟨nd, rfl⟩⟩; refine ⟨_, rfl, ?_⟩) | (go_at_call 81; (with_reducible refine (node_within.calls a0_2 80 true _ A6.out).mono ?_); rintro e w' ⟨rfl, ⟨nd, rfl⟩⟩))
     go_meet
     case rel => exact ⟨_, (decide ((l0_4.length : Int) > 0)), (by first | rfl | (simp; done) | (simp [*]; done)), H', ⟨by first | omega | exact Nat.le_refl _⟩, ⟨by (with_reducible repeat (first | refine bN ?_ _ | refine bD ?_ | refine bA ?_ _)); exact BK109.out⟩, ⟨by repeat (first | (with_reducible first | exact HB.out | apply wA | apply wN | apply wD | refine wS ?_ GE109.out) | exact HB.out)⟩⟩
    ·
     rw [if_neg c8] at H; have c8b0 : ((l0_3.length : Int) == 5) = false := beq_eq_false_iff_ne.mpr c8; have c8b1 : ((l0_3.length : Int) != 5) = true := bne_iff_ne.mpr c8
     (first | rw [c8b0] | (simp only [i64_w, i32_w]; rw [c8b0]) | skip)
     have H' := Aside0.mk H; clear H; have hcz10_0 : w3.cell? ⟨gb109, 0, none⟩ = some (.int .i64 a0_0) := (bC BK109.out 0).trans rfl; have hcz10_1 : w3.cell? ⟨gb109, 1, none⟩ = some (.int .i64 a0_1) := (bC BK109.out 1).trans rfl; have hcz10_2 : w3.cell? ⟨gb109, 2, none⟩ = some (.int .i64 a0_2) := (bC BK109.out 2).trans rfl; have hcz10_3 : w3.cell? ⟨gb109, 3, none⟩ = some (.slice A0_3 l0_3.length c0_3) := (bC BK109.out 3).trans rfl; have hcz10_4 : w3.cell? ⟨gb109, 4, none⟩ = some (.slice A0_4 l0_4.length c0_4) := (bC BK109.out 4).trans rfl; have hfz10_0 := bZ BK109.out 0; have hfz10_1 := bZ BK109.out 1; have hfz10_2 := bZ BK109.out 2; have hfz10_3 := bZ BK109.out 3; have hfz10_4 := bZ BK109.out 4
     go_wp2_with (first | ((with_reducible refine gate_callee (f := 81) rfl ?_); refine goesL_ (some 7) rfl rfl Try.func81 (by kernel_rfl) rfl #[.int .i64 a0_1, .int .i64 120] rfl (by (try simp only [List.map_toArray, List.map_cons, List.map_nil]); first | done | rfl | (simp only [List.length_drop, List.length_take]; rfl)) ?_; (with_reducible refine (node_within.calls a0_1 120 true _ A4.out).mono ?_); rintro e w' ⟨rfl, ⟨nd, rfl⟩⟩; refine ⟨_, rfl, ?_⟩) | (go_at_call 81; (with_reducible refine (node_within.calls a0_2 80 true _ A6.out).mono ?_); rintro e w' ⟨rfl, ⟨nd, rfl⟩⟩))
     go_meet
     case rel => exact ⟨_, (true), (by first | rfl | (simp; done) | (simp [*]; done)), H', ⟨by first | omega | exact Nat.le_refl _⟩, ⟨by (with_reducible repeat (first | refine bN ?_ _ | refine bD ?_ | refine bA ?_ _)); exact BK109.out⟩, ⟨by repeat (first | (with_reducible first | exact HB.out | apply wA | apply wN | apply wD | refine wS ?_ GE109.out) | exact HB.out)⟩⟩
   ·
    replace c7 := Bool.eq_false_iff.mpr c7; subst c7
    have H1 : (node_file.j0 k true a0_0 a0_1 a0_2 l0_3 l0_4) = some r := by rw [if_neg (show ¬ (false = true) by decide)] at H; exact H
    clear H; have H := H1; clear H1; have H' := Aside0.mk H; clear H; have hcz11_0 : w3.cell? ⟨gb109, 0, none⟩ = some (.int .i64 a0_0) := (bC BK109.out 0).trans rfl; have hcz11_1 : w3.cell? ⟨gb109, 1, none⟩ = some (.int .i64 a0_1) := (bC BK109.out 1).trans rfl; have hcz11_2 : w3.cell? ⟨gb109, 2, none⟩ = some (.int .i64 a0_2) := (bC BK109.out 2).trans rfl; have hcz11_3 : w3.cell? ⟨gb109, 3, none⟩ = some (.slice A0_3 l0_3.length c0_3) := (bC BK109.out 3).trans rfl; have hcz11_4 : w3.cell? ⟨gb109, 4, none⟩ = some (.slice A0_4 l0_4.length c0_4) := (bC BK109.out 4).trans rfl; have hfz11_0 := bZ BK109.out 0; have hfz11_1 := bZ BK109.out 1; have hfz11_2 := bZ BK109.out 2; have hfz11_3 := bZ BK109.out 3; have hfz11_4 := bZ BK109.out 4
    go_wp2_with (first | ((with_reducible refine gate_callee (f := 81) rfl ?_); refine goesL_ (some 7) rfl rfl Try.func81 (by kernel_rfl) rfl #[.int .i64 a0_1, .int .i64 120] rfl (by (try simp only [List.map_toArray, List.map_cons, List.map_nil]); first | done | rfl | (simp only [List.length_drop, List.length_take]; rfl)) ?_; (with_reducible refine (node_within.calls a0_1 120 true _ A4.out).mono ?_); rintro e w' ⟨rfl, ⟨nd, rfl⟩⟩; refine ⟨_, rfl, ?_⟩) | (go_at_call 81; (with_reducible refine (node_within.calls a0_2 80 false _ A6.out).mono ?_); rintro e w' ⟨rfl, ⟨nd, rfl⟩⟩))
    go_meet
    case rel => exact ⟨_, (true), (by first | rfl | (simp; done) | (simp [*]; done)), H', ⟨by first | omega | exact Nat.le_refl _⟩, ⟨by (with_reducible repeat (first | refine bN ?_ _ | refine bD ?_ | refine bA ?_ _)); exact BK109.out⟩, ⟨by repeat (first | (with_reducible first | exact HB.out | apply wA | apply wN | apply wD | refine wS ?_ GE109.out) | exact HB.out)⟩⟩
  ·
   replace c5 := Bool.eq_false_iff.mpr c5; subst c5
   have H1 : (node_file.j0 k true a0_0 a0_1 a0_2 l0_3 l0_4) = some r := by rw [if_neg (show ¬ (false = true) by decide)] at H; exact H
   clear H; have H := H1; clear H1; have H' := Aside0.mk H; clear H; have hcz12_0 : w3.cell? ⟨gb109, 0, none⟩ = some (.int .i64 a0_0) := (bC BK109.out 0).trans rfl; have hcz12_1 : w3.cell? ⟨gb109, 1, none⟩ = some (.int .i64 a0_1) := (bC BK109.out 1).trans rfl; have hcz12_2 : w3.cell? ⟨gb109, 2, none⟩ = some (.int .i64 a0_2) := (bC BK109.out 2).trans rfl; have hcz12_3 : w3.cell? ⟨gb109, 3, none⟩ = some (.slice A0_3 l0_3.length c0_3) := (bC BK109.out 3).trans rfl; have hcz12_4 : w3.cell? ⟨gb109, 4, none⟩ = some (.slice A0_4 l0_4.length c0_4) := (bC BK109.out 4).trans rfl; have hfz12_0 := bZ BK109.out 0; have hfz12_1 := bZ BK109.out 1; have hfz12_2 := bZ BK109.out 2; have hfz12_3 := bZ BK109.out 3; have hfz12_4 := bZ BK109.out 4
   go_wp2_with (first | ((with_reducible refine gate_callee (f := 81) rfl ?_); refine goesL_ (some 7) rfl rfl Try.func81 (by kernel_rfl) rfl #[.int .i64 a0_1, .int .i64 120] rfl (by (try simp only [List.map_toArray, List.map_cons, List.map_nil]); first | done | rfl | (simp only [List.length_drop, List.length_take]; rfl)) ?_; (with_reducible refine (node_within.calls a0_1 120 false _ A4.out).mono ?_); rintro e w' ⟨rfl, ⟨nd, rfl⟩⟩; refine ⟨_, rfl, ?_⟩))
   go_meet
   case rel => exact ⟨_, (true), (by first | rfl | (simp; done) | (simp [*]; done)), H', ⟨by first | omega | exact Nat.le_refl _⟩, ⟨by (with_reducible repeat (first | refine bN ?_ _ | refine bD ?_ | refine bA ?_ _)); exact BK109.out⟩, ⟨by repeat (first | (with_reducible first | exact HB.out | apply wA | apply wN | apply wD | refine wS ?_ GE109.out) | exact HB.out)⟩⟩
 case rest =>
  clear HC2
  try clear p2
  try clear c5
  try clear c6
  try clear c7
  try clear c8
  try clear c8b0
  try clear c8b1
  try clear hcz10_0
  try clear hcz10_1
  try clear hcz10_2
  try clear hcz10_3
  try clear hcz10_4
  try clear hcz11_0
  try clear hcz11_1
  try clear hcz11_2
  try clear hcz11_3
  try clear hcz11_4
  try clear hcz12_0
  try clear hcz12_1
  try clear hcz12_2
  try clear hcz12_3
  try clear hcz12_4
  try clear hcz9_0
  try clear hcz9_1
  try clear hcz9_2
  try clear hcz9_3
  try clear hcz9_4
  try clear hfz10_0
  try clear hfz10_1
  try clear hfz10_2
  try clear hfz10_3
  try clear hfz10_4
  try clear hfz11_0
  try clear hfz11_1
  try clear hfz11_2
  try clear hfz11_3
  try clear hfz11_4
  try clear hfz12_0
  try clear hfz12_1
  try clear hfz12_2
  try clear hfz12_3
  try clear hfz12_4
  try clear hfz9_0
  try clear hfz9_1
  try clear hfz9_2
  try clear hfz9_3
  try clear hfz9_4
  obtain ⟨kq, x26_1, rfl, HA, HJ1, BK109, HB⟩ := hcut
  cases kq with
  | zero => exact absurd HA.out (by simp [node_file.j0])
  | succ kj1 =>
   have H := HA.out; clear HA; simp only [node_file.j0] at H
   by_cases c13 : x26_1 = true
   ·
    subst c13
    have H1 : (some false) = some r := by rw [if_pos rfl] at H; exact H
    clear H; have H := H1; clear H1; obtain rfl := Option.some.inj H
    go_wp2
    go_ret
    exact ⟨by first | rfl | exact congrArg (fun b_ => Ending.returned (Value.bool b_)) HRET.out | (rw [HRET.out]) | (simp [errW_none, errW_some] <;> rfl) | (simp [*, errW_none, errW_some] <;> rfl), by repeat (first | (with_reducible first | exact HB.out | apply wA | apply wN | apply wD | refine wS ?_ GE109.out) | exact HB.out)⟩
   ·
    replace c13 := Bool.eq_false_iff.mpr c13; subst c13
    have H1 : (node_file.l0 kj1 l0_3 (l0_3.length : Int) 0 a0_0 a0_1 a0_2 l0_3 l0_4) = some r := by rw [if_neg (show ¬ (false = true) by decide)] at H; exact H
    clear H; have H := H1; clear H1; have H' := Aside0.mk H; clear H; have hcz14_0 : wc.cell? ⟨gb109, 0, none⟩ = some (.int .i64 a0_0) := (bC BK109.out 0).trans rfl; have hcz14_1 : wc.cell? ⟨gb109, 1, none⟩ = some (.int .i64 a0_1) := (bC BK109.out 1).trans rfl; have hcz14_2 : wc.cell? ⟨gb109, 2, none⟩ = some (.int .i64 a0_2) := (bC BK109.out 2).trans rfl; have hcz14_3 : wc.cell? ⟨gb109, 3, none⟩ = some (.slice A0_3 l0_3.length c0_3) := (bC BK109.out 3).trans rfl; have hcz14_4 : wc.cell? ⟨gb109, 4, none⟩ = some (.slice A0_4 l0_4.length c0_4) := (bC BK109.out 4).trans rfl; have hfz14_0 := bZ BK109.out 0; have hfz14_1 := bZ BK109.out 1; have hfz14_2 := bZ BK109.out 2; have hfz14_3 := bZ BK109.out 3; have hfz14_4 := bZ BK109.out 4
    go_wp2
    go_loopg [30] kj1 (fun kq v30 w' => ∃ (x30_2 : Int), v30 = .int .i64 x30_2 ∧ Aside0 (node_file.l0 kq l0_3 (l0_3.length : Int) x30_2 a0_0 a0_1 a0_2 l0_3 l0_4 = some r) ∧ Aside0 (kq ≤ kj1) ∧ Aside0 (w'.heap[gb109]? = some (.cells #[.int .i64 a0_0, .int .i64 a0_1, .int .i64 a0_2, (.slice A0_3 l0_3.length c0_3), (.slice A0_4 l0_4.length c0_4)] 28 (0, 0))) ∧ Aside0 (Below w.heap.size w w'))
    case atStart => exact ⟨(0), (by first | rfl | (simp; done) | (simp [*]; done)), H', ⟨Nat.le_refl _⟩, ⟨by (with_reducible repeat (first | refine bN ?_ _ | refine bD ?_ | refine bA ?_ _)); exact BK109.out⟩, ⟨by repeat (first | (with_reducible first | exact HB.out | apply wA | apply wN | apply wD | refine wS ?_ GE109.out) | exact HB.out)⟩⟩
    case round =>
     clear H'
     try clear c1
     try clear p2
     try clear c5
     try clear c6
     try clear c7
     try clear c8
     try clear c8b0
     try clear c8b1
     try clear c13
     try clear hcz10_0
     try clear hcz10_1
     try clear hcz10_2
     try clear hcz10_3
     try clear hcz10_4
     try clear hcz11_0
     try clear hcz11_1
     try clear hcz11_2
     try clear hcz11_3
     try clear hcz11_4
     try clear hcz12_0
     try clear hcz12_1
     try clear hcz12_2
     try clear hcz12_3
     try clear hcz12_4
     try clear hcz14_0
     try clear hcz14_1
     try clear hcz14_2
     try clear hcz14_3
     try clear hcz14_4
     try clear hcz9_0
     try clear hcz9_1
     try clear hcz9_2
     try clear hcz9_3
     try clear hcz9_4
     try clear hfz10_0
     try clear hfz10_1
     try clear hfz10_2
     try clear hfz10_3
     try clear hfz10_4
     try clear hfz11_0
     try clear hfz11_1
     try clear hfz11_2
     try clear hfz11_3
     try clear hfz11_4
     try clear hfz12_0
     try clear hfz12_1
     try clear hfz12_2
     try clear hfz12_3
     try clear hfz12_4
     try clear hfz14_0
     try clear hfz14_1
     try clear hfz14_2
     try clear hfz14_3
     try clear hfz14_4
     try clear hfz9_0
     try clear hfz9_1
     try clear hfz9_2
     try clear hfz9_3
     try clear hfz9_4
     try clear p2
     obtain ⟨x30_2, rfl, HA, HK2, BK109, HB⟩ := hrel
     cases gk with
     | zero => exact absurd HA.out (by simp [node_file.l0])
     | succ k2 =>
      have H := HA.out; clear HA; simp only [node_file.l0] at H
      by_cases c15 : x30_2 < (l0_3.length : Int)
      ·
       rw [if_pos c15] at H; have c15b0 : decide (x30_2 < (l0_3.length : Int)) = true := decide_eq_true c15; clear c15
       by_cases c16 : 0 ≤ x30_2
       ·
        rw [if_pos c16] at H; have c16b0 : decide (0 ≤ x30_2) = true := decide_eq_true c16; clear c16
        by_cases c17 : x30_2 < (l0_3.length : Int)
        ·
         rw [if_pos c17] at H; have c17b0 : decide (x30_2 < (l0_3.length : Int)) = true := decide_eq_true c17; clear c17; replace H := Option.bind_eq_some_iff.mp H; obtain ⟨t113, A180, H⟩ := H; replace H : (if t113 = true then (if (wrap64 (x30_2 * 16)) ≥ a0_2 then (if (rd l0_3 x30_2) = 0 then (node_file.l0 k2 l0_3 (l0_3.length : Int) (wrap64 (x30_2 + 1)) a0_0 a0_1 a0_2 l0_3 l0_4) else (some false)) else (node_file.l0 k2 l0_3 (l0_3.length : Int) (wrap64 (x30_2 + 1)) a0_0 a0_1 a0_2 l0_3 l0_4)) else (some false)) = some r := H; have A18 := Aside0.mk A180; clear A180
         by_cases c19 : t113 = true
         ·
          subst c19
          have H1 : (if (wrap64 (x30_2 * 16)) ≥ a0_2 then (if (rd l0_3 x30_2) = 0 then (node_file.l0 k2 l0_3 (l0_3.length : Int) (wrap64 (x30_2 + 1)) a0_0 a0_1 a0_2 l0_3 l0_4) else (some false)) else (node_file.l0 k2 l0_3 (l0_3.length : Int) (wrap64 (x30_2 + 1)) a0_0 a0_1 a0_2 l0_3 l0_4)) = some r := by rw [if_pos rfl] at H; exact H
          clear H; have H := H1; clear H1
          by_cases c20 : (wrap64 (x30_2 * 16)) ≥ a0_2
          ·
           rw [if_pos c20] at H; have c20b0 : decide (a0_2 ≤ (wrap64 (x30_2 * 16))) = true := decide_eq_true c20; clear c20
           by_cases c21 : (rd l0_3 x30_2) = 0
           ·
            rw [if_pos c21] at H; have c21b0 : ((rd l0_3 x30_2) == 0) = true := beq_iff_eq.mpr c21; have c21b1 : ((rd l0_3 x30_2) != 0) = false := bne_eq_false_iff_eq.mpr c21; clear c21; have H' := Aside0.mk H; clear H; have p112 : 0 ≤ (x30_2 : Int) := of_decide_eq_true (by first | (with_reducible assumption) | assumption); have q112 : x30_2 < (l0_3.length : Int) := of_decide_eq_true (by first | (with_reducible assumption) | assumption); obtain ⟨ad112, e112, hx112_0⟩ := Kd.at_int HR0_3.out x30_2 p112 q112
            cases e112
            replace hx112_0 := (HB.out.cell (World.block_lt_of_cell? w _ hx112_0)).trans hx112_0; replace p112 := eq_true p112; replace q112 := eq_true q112
            go_wp2_with (first | ((with_reducible refine gate_callee (f := 81) rfl ?_); refine goesL_ (some 36) rfl rfl Try.func81 (by kernel_rfl) rfl #[.int .i64 (rd l0_3 x30_2), .int .i64 1099511627776] rfl (by (try simp only [List.map_toArray, List.map_cons, List.map_nil]); first | done | rfl | (simp only [List.length_drop, List.length_take]; rfl)) ?_; (with_reducible refine (node_within.calls (rd l0_3 x30_2) 1099511627776 true _ A18.out).mono ?_); rintro e w' ⟨rfl, ⟨nd, rfl⟩⟩; refine ⟨_, rfl, ?_⟩; have hcz22_0 : wr.cell? ⟨gb109, 0, none⟩ = some (.int .i64 a0_0) := (bC BK109.out 0).trans rfl; have hcz22_1 : wr.cell? ⟨gb109, 1, none⟩ = some (.int .i64 a0_1) := (bC BK109.out 1).trans rfl; have hcz22_2 : wr.cell? ⟨gb109, 2, none⟩ = some (.int .i64 a0_2) := (bC BK109.out 2).trans rfl; have hcz22_3 : wr.cell? ⟨gb109, 3, none⟩ = some (.slice (some ad112) l0_3.length c0_3) := (bC BK109.out 3).trans rfl; have hcz22_4 : wr.cell? ⟨gb109, 4, none⟩ = some (.slice A0_4 l0_4.length c0_4) := (bC BK109.out 4).trans rfl; have hfz22_0 := bZ BK109.out 0; have hfz22_1 := bZ BK109.out 1; have hfz22_2 := bZ BK109.out 2; have hfz22_3 := bZ BK109.out 3; have hfz22_4 := bZ BK109.out 4))
            go_roundg k2
            case measure => have := HJ1.out; have := HK2.out; omega
            case rel => exact ⟨(wrap64 (x30_2 + 1)), (by first | rfl | (simp; done) | (simp [*]; done)), H', ⟨by have := HJ1.out; have := HK2.out; omega⟩, ⟨by (with_reducible repeat (first | refine bN ?_ _ | refine bD ?_ | refine bA ?_ _)); exact BK109.out⟩, ⟨by repeat (first | (with_reducible first | exact HB.out | apply wA | apply wN | apply wD | refine wS ?_ GE109.out) | exact HB.out)⟩⟩
           ·
            rw [if_neg c21] at H; have c21b0 : ((rd l0_3 x30_2) == 0) = false := beq_eq_false_iff_ne.mpr c21; have c21b1 : ((rd l0_3 x30_2) != 0) = true := bne_iff_ne.mpr c21; obtain rfl := Option.some.inj H; have p112 : 0 ≤ (x30_2 : Int) := of_decide_eq_true (by first | (with_reducible assumption) | assumption); have q112 : x30_2 < (l0_3.length : Int) := of_decide_eq_true (by first | (with_reducible assumption) | assumption); obtain ⟨ad112, e112, hx112_0⟩ := Kd.at_int HR0_3.out x30_2 p112 q112
            cases e112
            replace hx112_0 := (HB.out.cell (World.block_lt_of_cell? w _ hx112_0)).trans hx112_0; replace p112 := eq_true p112; replace q112 := eq_true q112
            go_wp2_with (first | ((with_reducible refine gate_callee (f := 81) rfl ?_); refine goesL_ (some 36) rfl rfl Try.func81 (by kernel_rfl) rfl #[.int .i64 (rd l0_3 x30_2), .int .i64 1099511627776] rfl (by (try simp only [List.map_toArray, List.map_cons, List.map_nil]); first | done | rfl | (simp only [List.length_drop, List.length_take]; rfl)) ?_; (with_reducible refine (node_within.calls (rd l0_3 x30_2) 1099511627776 true _ A18.out).mono ?_); rintro e w' ⟨rfl, ⟨nd, rfl⟩⟩; refine ⟨_, rfl, ?_⟩; have hcz23_0 : wr.cell? ⟨gb109, 0, none⟩ = some (.int .i64 a0_0) := (bC BK109.out 0).trans rfl; have hcz23_1 : wr.cell? ⟨gb109, 1, none⟩ = some (.int .i64 a0_1) := (bC BK109.out 1).trans rfl; have hcz23_2 : wr.cell? ⟨gb109, 2, none⟩ = some (.int .i64 a0_2) := (bC BK109.out 2).trans rfl; have hcz23_3 : wr.cell? ⟨gb109, 3, none⟩ = some (.slice (some ad112) l0_3.length c0_3) := (bC BK109.out 3).trans rfl; have hcz23_4 : wr.cell? ⟨gb109, 4, none⟩ = some (.slice A0_4 l0_4.length c0_4) := (bC BK109.out 4).trans rfl; have hfz23_0 := bZ BK109.out 0; have hfz23_1 := bZ BK109.out 1; have hfz23_2 := bZ BK109.out 2; have hfz23_3 := bZ BK109.out 3; have hfz23_4 := bZ BK109.out 4))
            go_ret
            exact ⟨by first | rfl | exact congrArg (fun b_ => Ending.returned (Value.bool b_)) HRET.out | (rw [HRET.out]) | (simp [errW_none, errW_some] <;> rfl) | (simp [*, errW_none, errW_some] <;> rfl), by repeat (first | (with_reducible first | exact HB.out | apply wA | apply wN | apply wD | refine wS ?_ GE109.out) | exact HB.out)⟩
          ·
           rw [if_neg c20] at H; have c20b0 : decide (a0_2 ≤ (wrap64 (x30_2 * 16))) = false := decide_eq_false c20; clear c20; have H' := Aside0.mk H; clear H; have p112 : 0 ≤ (x30_2 : Int) := of_decide_eq_true (by first | (with_reducible assumption) | assumption); have q112 : x30_2 < (l0_3.length : Int) := of_decide_eq_true (by first | (with_reducible assumption) | assumption); obtain ⟨ad112, e112, hx112_0⟩ := Kd.at_int HR0_3.out x30_2 p112 q112
           cases e112
           replace hx112_0 := (HB.out.cell (World.block_lt_of_cell? w _ hx112_0)).trans hx112_0; replace p112 := eq_true p112; replace q112 := eq_true q112
           go_wp2_with (first | ((with_reducible refine gate_callee (f := 81) rfl ?_); refine goesL_ (some 36) rfl rfl Try.func81 (by kernel_rfl) rfl #[.int .i64 (rd l0_3 x30_2), .int .i64 1099511627776] rfl (by (try simp only [List.map_toArray, List.map_cons, List.map_nil]); first | done | rfl | (simp only [List.length_drop, List.length_take]; rfl)) ?_; (with_reducible refine (node_within.calls (rd l0_3 x30_2) 1099511627776 true _ A18.out).mono ?_); rintro e w' ⟨rfl, ⟨nd, rfl⟩⟩; refine ⟨_, rfl, ?_⟩; have hcz24_0 : wr.cell? ⟨gb109, 0, none⟩ = some (.int .i64 a0_0) := (bC BK109.out 0).trans rfl; have hcz24_1 : wr.cell? ⟨gb109, 1, none⟩ = some (.int .i64 a0_1) := (bC BK109.out 1).trans rfl; have hcz24_2 : wr.cell? ⟨gb109, 2, none⟩ = some (.int .i64 a0_2) := (bC BK109.out 2).trans rfl; have hcz24_3 : wr.cell? ⟨gb109, 3, none⟩ = some (.slice (some ad112) l0_3.length c0_3) := (bC BK109.out 3).trans rfl; have hcz24_4 : wr.cell? ⟨gb109, 4, none⟩ = some (.slice A0_4 l0_4.length c0_4) := (bC BK109.out 4).trans rfl; have hfz24_0 := bZ BK109.out 0; have hfz24_1 := bZ BK109.out 1; have hfz24_2 := bZ BK109.out 2; have hfz24_3 := bZ BK109.out 3; have hfz24_4 := bZ BK109.out 4))
           go_roundg k2
           case measure => have := HJ1.out; have := HK2.out; omega
           case rel => exact ⟨(wrap64 (x30_2 + 1)), (by first | rfl | (simp; done) | (simp [*]; done)), H', ⟨by have := HJ1.out; have := HK2.out; omega⟩, ⟨by (with_reducible repeat (first | refine bN ?_ _ | refine bD ?_ | refine bA ?_ _)); exact BK109.out⟩, ⟨by repeat (first | (with_reducible first | exact HB.out | apply wA | apply wN | apply wD | refine wS ?_ GE109.out) | exact HB.out)⟩⟩
         ·
          replace c19 := Bool.eq_false_iff.mpr c19; subst c19
          have H1 : (some false) = some r := by rw [if_neg (show ¬ (false = true) by decide)] at H; exact H
          clear H; have H := H1; clear H1; obtain rfl := Option.some.inj H; have p112 : 0 ≤ (x30_2 : Int) := of_decide_eq_true (by first | (with_reducible assumption) | assumption); have q112 : x30_2 < (l0_3.length : Int) := of_decide_eq_true (by first | (with_reducible assumption) | assumption); obtain ⟨ad112, e112, hx112_0⟩ := Kd.at_int HR0_3.out x30_2 p112 q112
          cases e112
          replace hx112_0 := (HB.out.cell (World.block_lt_of_cell? w _ hx112_0)).trans hx112_0; replace p112 := eq_true p112; replace q112 := eq_true q112
          go_wp2_with (first | ((with_reducible refine gate_callee (f := 81) rfl ?_); refine goesL_ (some 36) rfl rfl Try.func81 (by kernel_rfl) rfl #[.int .i64 (rd l0_3 x30_2), .int .i64 1099511627776] rfl (by (try simp only [List.map_toArray, List.map_cons, List.map_nil]); first | done | rfl | (simp only [List.length_drop, List.length_take]; rfl)) ?_; (with_reducible refine (node_within.calls (rd l0_3 x30_2) 1099511627776 false _ A18.out).mono ?_); rintro e w' ⟨rfl, ⟨nd, rfl⟩⟩; refine ⟨_, rfl, ?_⟩))
          go_ret
          exact ⟨by first | rfl | exact congrArg (fun b_ => Ending.returned (Value.bool b_)) HRET.out | (rw [HRET.out]) | (simp [errW_none, errW_some] <;> rfl) | (simp [*, errW_none, errW_some] <;> rfl), by repeat (first | (with_reducible first | exact HB.out | apply wA | apply wN | apply wD | refine wS ?_ GE109.out) | exact HB.out)⟩
        ·
         rw [if_neg c17] at H; exact absurd H (by simp)
       ·
        rw [if_neg c16] at H; exact absurd H (by simp)
      ·
       rw [if_neg c15] at H; have c15b0 : decide (x30_2 < (l0_3.length : Int)) = false := decide_eq_false c15; clear c15; obtain rfl := Option.some.inj H
       go_wp2
       go_ret
       exact ⟨by first | rfl | exact congrArg (fun b_ => Ending.returned (Value.bool b_)) HRET.out | (rw [HRET.out]) | (simp [errW_none, errW_some] <;> rfl) | (simp [*, errW_none, errW_some] <;> rfl), by repeat (first | (with_reducible first | exact HB.out | apply wA | apply wN | apply wD | refine wS ?_ GE109.out) | exact HB.out)⟩
end Go.Proofs.Ytkigiehkckjlhaa.PSums
