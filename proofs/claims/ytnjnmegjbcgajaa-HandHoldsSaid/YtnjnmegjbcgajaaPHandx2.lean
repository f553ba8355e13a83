/- The Go functions that these laws reach, each as a Lean function with the same answers (a law itself where it answers true), and the proof that the code comes to them; conditions: those of each theorem. Laid by a program of this session over the print. -/
import Derived.Test.YtnjnmegjbcgajaaPHandx0
import Derived.Test.YtnjnmegjbcgajaaPHandx1
namespace Go.Proofs.Ytnjnmegjbcgajaa.PHand
open Go.RowKit Go.Proofs.YtnjnmegjbcgajaaW.PrintWords Go.Proofs.YtnjnmegjbcgajaaW.PrintLast Go.Proofs.YtnjnmegjbcgajaaW.PrintMore
attribute [local go_sem] max2_int min2_int max_two min_two max_three min_three max_four min_four   -- for this text's walks alone
set_option linter.unusedVariables false
set_option linter.unusedSimpArgs false
open Go.Proofs.YtnjnmegjbcgajaaW.PrintWords renaming blk_drewN → bN, blk_drew → bD, blk_alloc → bA, below_set → wS, below_alloc → wA, pw_below_drewN → wN, below_drew1 → wD, blk_below → bB, blk_far → bF, blk_cell → bC, blk_frozen → bZ
open List renaming setIfInBounds_toArray → lT, set_cons_zero → l0_, set_cons_succ → lS

/-! ### hand_Of: function 26 -/
def hand_Of.f (l0 : List Int) (a1 : Int) : Option (Int × Int) := (hand_off.f l0).bind fun t108 => (if t108 = true then (some (0, 1)) else (if a1 < 0 then (some (0, 15)) else (if a1 ≥ (l0.length : Int) then (some (0, 15)) else (if 0 ≤ a1 then (if a1 < (l0.length : Int) then (if (rd l0 a1) = (-1) then (some (0, 15)) else (some (rd l0 a1, 0))) else (none)) else (none)))))
set_option maxHeartbeats 8000000 in
set_option maxRecDepth 100000 in
theorem hand_Of.calls (A0 : Option Addr) (c0 : Nat) (l0 : List Int) (a1 : Int) (r1 : Int) (r2 : Int) (w : World) (hr0 : Kd.C (Kd.int .i64) w A0 l0.length l0) (hc0 : l0.length ≤ c0) (h : hand_Of.f l0 a1 = some (r1, r2)) :
 Calls Try.prog 26 #[.slice A0 l0.length c0, .int .i64 a1] w fun e w' => e = .returned (.tuple #[.int .i64 r1, .int .i64 r2]) ∧ Below w.heap.size w w' := by
 have HR0 := Aside0.mk hr0; have HC0 := Aside0.mk hc0; clear hr0 hc0; have HB := Aside0.mk (Below.refl w.heap.size w); have H : ((hand_off.f l0).bind fun t108 => (if t108 = true then (some (0, 1)) else (if a1 < 0 then (some (0, 15)) else (if a1 ≥ (l0.length : Int) then (some (0, 15)) else (if 0 ≤ a1 then (if a1 < (l0.length : Int) then (if (rd l0 a1) = (-1) then (some (0, 15)) else (some (rd l0 a1, 0))) else (none)) else (none)))))) = some (r1, r2) := h; clear h; replace H := Option.bind_eq_some_iff.mp H; obtain ⟨t108, A30, H⟩ := H; replace H : (if t108 = true then (some (0, 1)) else (if a1 < 0 then (some (0, 15)) else (if a1 ≥ (l0.length : Int) then (some (0, 15)) else (if 0 ≤ a1 then (if a1 < (l0.length : Int) then (if (rd l0 a1) = (-1) then (some (0, 15)) else (some (rd l0 a1, 0))) else (none)) else (none))))) = some (r1, r2) := H; have A3 := Aside0.mk A30; clear A30
 by_cases c4 : t108 = true
 ·
  subst c4
  have H1 : (some (0, 1)) = some (r1, r2) := by rw [if_pos rfl] at H; exact H
  clear H; have H := H1; clear H1; simp only [Option.some.injEq, Prod.mk.injEq] at H; obtain ⟨rfl, rfl⟩ := H
  go_enter Try.func26, Try.ntmps26
  go_wp2_with (first | ((with_reducible refine gate_callee (f := 36) rfl ?_); refine goesL_ (some 8) rfl rfl Try.func36 (by kernel_rfl) rfl #[.slice A0 l0.length c0] rfl (by (try simp only [List.map_toArray, List.map_cons, List.map_nil]); first | done | rfl | (simp only [List.length_drop, List.length_take]; rfl)) ?_; (with_reducible refine (hand_off.calls _ _ l0 true _ ?side1 ?side2 A3.out).mono ?_); (case side1 => repeat (first | exact HR0.out | (with_reducible refine Kd.C_alloc ?_ _) | (with_reducible refine Kd.C_drewN ?_ _) | (with_reducible refine Kd.C_drew ?_))); (case side2 => exact HC0.out); rintro e w5 ⟨rfl, hb⟩; refine ⟨_, rfl, ?_⟩; have n0_ := Aside0.mk (below_step (by repeat (first | (with_reducible first | exact HB.out | apply wA | apply wN | apply wD) | exact HB.out)) hb); clear HB; have HB := n0_; clear n0_; (try clear hb); (try clear hb2); (try clear hk); (try clear hi)))
  go_ret2
  exact ⟨by first | rfl | exact congrArg (fun b_ => Ending.returned (Value.bool b_)) HRET.out | (rw [HRET.out]) | (simp [errW_none, errW_some] <;> rfl) | (simp [*, errW_none, errW_some] <;> rfl), by repeat (first | (with_reducible first | exact HB.out | apply wA | apply wN | apply wD) | exact HB.out)⟩
 ·
  replace c4 := Bool.eq_false_iff.mpr c4; subst c4
  have H1 : (if a1 < 0 then (some (0, 15)) else (if a1 ≥ (l0.length : Int) then (some (0, 15)) else (if 0 ≤ a1 then (if a1 < (l0.length : Int) then (if (rd l0 a1) = (-1) then (some (0, 15)) else (some (rd l0 a1, 0))) else (none)) else (none)))) = some (r1, r2) := by rw [if_neg (show ¬ (false = true) by decide)] at H; exact H
  clear H; have H := H1; clear H1
  by_cases c6 : a1 < 0
  ·
   rw [if_pos c6] at H; have c6b0 : decide (a1 < 0) = true := decide_eq_true c6; clear c6; simp only [Option.some.injEq, Prod.mk.injEq] at H; obtain ⟨rfl, rfl⟩ := H
   go_enter Try.func26, Try.ntmps26
   go_wp2_with (first | ((with_reducible refine gate_callee (f := 36) rfl ?_); refine goesL_ (some 8) rfl rfl Try.func36 (by kernel_rfl) rfl #[.slice A0 l0.length c0] rfl (by (try simp only [List.map_toArray, List.map_cons, List.map_nil]); first | done | rfl | (simp only [List.length_drop, List.length_take]; rfl)) ?_; (with_reducible refine (hand_off.calls _ _ l0 false _ ?side1 ?side2 A3.out).mono ?_); (case side1 => repeat (first | exact HR0.out | (with_reducible refine Kd.C_alloc ?_ _) | (with_reducible refine Kd.C_drewN ?_ _) | (with_reducible refine Kd.C_drew ?_))); (case side2 => exact HC0.out); rintro e w7 ⟨rfl, hb⟩; refine ⟨_, rfl, ?_⟩; have n0_ := Aside0.mk (below_step (by repeat (first | (with_reducible first | exact HB.out | apply wA | apply wN | apply wD) | exact HB.out)) hb); clear HB; have HB := n0_; clear n0_; (try clear hb); (try clear hb2); (try clear hk); (try clear hi)))
   go_ret2
   exact ⟨by first | rfl | exact congrArg (fun b_ => Ending.returned (Value.bool b_)) HRET.out | (rw [HRET.out]) | (simp [errW_none, errW_some] <;> rfl) | (simp [*, errW_none, errW_some] <;> rfl), by repeat (first | (with_reducible first | exact HB.out | apply wA | apply wN | apply wD) | exact HB.out)⟩
  ·
   rw [if_neg c6] at H; have c6b0 : decide (a1 < 0) = false := decide_eq_false c6; clear c6
   by_cases c8 : a1 ≥ (l0.length : Int)
   ·
    rw [if_pos c8] at H; have c8b0 : decide ((l0.length : Int) ≤ a1) = true := decide_eq_true c8; clear c8; simp only [Option.some.injEq, Prod.mk.injEq] at H; obtain ⟨rfl, rfl⟩ := H
    go_enter Try.func26, Try.ntmps26
    go_wp2_with (first | ((with_reducible refine gate_callee (f := 36) rfl ?_); refine goesL_ (some 8) rfl rfl Try.func36 (by kernel_rfl) rfl #[.slice A0 l0.length c0] rfl (by (try simp only [List.map_toArray, List.map_cons, List.map_nil]); first | done | rfl | (simp only [List.length_drop, List.length_take]; rfl)) ?_; (with_reducible refine (hand_off.calls _ _ l0 false _ ?side1 ?side2 A3.out).mono ?_); (case side1 => repeat (first | exact HR0.out | (with_reducible refine Kd.C_alloc ?_ _) | (with_reducible refine Kd.C_drewN ?_ _) | (with_reducible refine Kd.C_drew ?_))); (case side2 => exact HC0.out); rintro e w9 ⟨rfl, hb⟩; refine ⟨_, rfl, ?_⟩; have n0_ := Aside0.mk (below_step (by repeat (first | (with_reducible first | exact HB.out | apply wA | apply wN | apply wD) | exact HB.out)) hb); clear HB; have HB := n0_; clear n0_; (try clear hb); (try clear hb2); (try clear hk); (try clear hi)))
    go_ret2
    exact ⟨by first | rfl | exact congrArg (fun b_ => Ending.returned (Value.bool b_)) HRET.out | (rw [HRET.out]) | (simp [errW_none, errW_some] <;> rfl) | (simp [*, errW_none, errW_some] <;> rfl), by repeat (first | (with_reducible first | exact HB.out | apply wA | apply wN | apply wD) | exact HB.out)⟩
   ·
    rw [if_neg c8] at H; have c8b0 : decide ((l0.length : Int) ≤ a1) = false := decide_eq_false c8; clear c8
    by_cases c10 : 0 ≤ a1
    ·
     rw [if_pos c10] at H; have c10b0 : decide (0 ≤ a1) = true := decide_eq_true c10; clear c10
     by_cases c11 : a1 < (l0.length : Int)
     ·
      rw [if_pos c11] at H; have c11b0 : decide (a1 < (l0.length : Int)) = true := decide_eq_true c11; clear c11
      by_cases c12 : (rd l0 a1) = (-1)
      ·
       rw [if_pos c12] at H; have c12b0 : ((rd l0 a1) == (-1)) = true := beq_iff_eq.mpr c12; have c12b1 : ((rd l0 a1) != (-1)) = false := bne_eq_false_iff_eq.mpr c12; clear c12; simp only [Option.some.injEq, Prod.mk.injEq] at H; obtain ⟨rfl, rfl⟩ := H
       go_enter Try.func26, Try.ntmps26
       go_wp2_with (first | ((with_reducible refine gate_callee (f := 36) rfl ?_); refine goesL_ (some 8) rfl rfl Try.func36 (by kernel_rfl) rfl #[.slice A0 l0.length c0] rfl (by (try simp only [List.map_toArray, List.map_cons, List.map_nil]); first | done | rfl | (simp only [List.length_drop, List.length_take]; rfl)) ?_; (with_reducible refine (hand_off.calls _ _ l0 false _ ?side1 ?side2 A3.out).mono ?_); (case side1 => repeat (first | exact HR0.out | (with_reducible refine Kd.C_alloc ?_ _) | (with_reducible refine Kd.C_drewN ?_ _) | (with_reducible refine Kd.C_drew ?_))); (case side2 => exact HC0.out); rintro e w13 ⟨rfl, hb⟩; refine ⟨_, rfl, ?_⟩; have n0_ := Aside0.mk (below_step (by repeat (first | (with_reducible first | exact HB.out | apply wA | apply wN | apply wD) | exact HB.out)) hb); clear HB; have HB := n0_; clear n0_; (try clear hb); (try clear hb2); (try clear hk); (try clear hi); have p109 : 0 ≤ (a1 : Int) := of_decide_eq_true (by first | (with_reducible assumption) | assumption); have q109 : a1 < (l0.length : Int) := of_decide_eq_true (by first | (with_reducible assumption) | assumption); obtain ⟨ad109, e109, hx109_0⟩ := Kd.at_int HR0.out a1 p109 q109; cases e109; replace hx109_0 := (HB.out.cell (World.block_lt_of_cell? w _ hx109_0)).trans hx109_0; replace p109 := eq_true p109; replace q109 := eq_true q109))
       go_ret2
       exact ⟨by first | rfl | exact congrArg (fun b_ => Ending.returned (Value.bool b_)) HRET.out | (rw [HRET.out]) | (simp [errW_none, errW_some] <;> rfl) | (simp [*, errW_none, errW_some] <;> rfl), by repeat (first | (with_reducible first | exact HB.out | apply wA | apply wN | apply wD) | exact HB.out)⟩
      ·
       rw [if_neg c12] at H; have c12b0 : ((rd l0 a1) == (-1)) = false := beq_eq_false_iff_ne.mpr c12; have c12b1 : ((rd l0 a1) != (-1)) = true := bne_iff_ne.mpr c12; simp only [Option.some.injEq, Prod.mk.injEq] at H; obtain ⟨rfl, rfl⟩ := H
       go_enter Try.func26, Try.ntmps26
       go_wp2_with (first | ((with_reducible refine gate_callee (f := 36) rfl ?_); refine goesL_ (some 8) rfl rfl Try.func36 (by kernel_rfl) rfl #[.slice A0 l0.length c0] rfl (by (try simp only [List.map_toArray, List.map_cons, List.map_nil]); first | done | rfl | (simp only [List.length_drop, List.length_take]; rfl)) ?_; (with_reducible refine (hand_off.calls _ _ l0 false _ ?side1 ?side2 A3.out).mono ?_); (case side1 => repeat (first | exact HR0.out | (with_reducible refine Kd.C_alloc ?_ _) | (with_reducible refine Kd.C_drewN ?_ _) | (with_reducible refine Kd.C_drew ?_))); (case side2 => exact HC0.out); rintro e w14 ⟨rfl, hb⟩; refine ⟨_, rfl, ?_⟩; have n0_ := Aside0.mk (below_step (by repeat (first | (with_reducible first | exact HB.out | apply wA | apply wN | apply wD) | exact HB.out)) hb); clear HB; have HB := n0_; clear n0_; (try clear hb); (try clear hb2); (try clear hk); (try clear hi); have p109 : 0 ≤ (a1 : Int) := of_decide_eq_true (by first | (with_reducible assumption) | assumption); have q109 : a1 < (l0.length : Int) := of_decide_eq_true (by first | (with_reducible assumption) | assumption); obtain ⟨ad109, e109, hx109_0⟩ := Kd.at_int HR0.out a1 p109 q109; cases e109; replace hx109_0 := (HB.out.cell (World.block_lt_of_cell? w _ hx109_0)).trans hx109_0; replace p109 := eq_true p109; replace q109 := eq_true q109; have p110 : 0 ≤ (a1 : Int) := of_decide_eq_true (by first | (with_reducible assumption) | assumption); have q110 : a1 < (l0.length : Int) := of_decide_eq_true (by first | (with_reducible assumption) | assumption); obtain ⟨ad110, e110, hx110_0⟩ := Kd.at_int HR0.out a1 p110 q110; obtain rfl : ad109 = ad110 := (by injection e110); replace hx110_0 := (HB.out.cell (World.block_lt_of_cell? w _ hx110_0)).trans hx110_0; replace p110 := eq_true p110; replace q110 := eq_true q110))
       go_ret2
       exact ⟨by first | rfl | exact congrArg (fun b_ => Ending.returned (Value.bool b_)) HRET.out | (rw [HRET.out]) | (simp [errW_none, errW_some] <;> rfl) | (simp [*, errW_none, errW_some] <;> rfl), by repeat (first | (with_reducible first | exact HB.out | apply wA | apply wN | apply wD) | exact HB.out)⟩
     ·
      rw [if_neg c11] at H; exact absurd H (by simp)
    ·
     rw [if_neg c10] at H; exact absurd H (by simp)

/-! ### hand_Close: function 24 -/
def hand_Close.f (l0 : List Int) (a1 : Int) : Option (List Int × Int × Int) := (hand_Of.f l0 a1).bind fun bt111 => (if bt111.2 = 0 then ((slices_Clone_int_int.f l0).bind fun t113 => (if 0 ≤ a1 then (if a1 < (t113.length : Int) then (some ((t113.set (a1 : Int).toNat (-1)), bt111.1, 0)) else (none)) else (none))) else (some (([] : List Int), 0, bt111.2)))
set_option maxHeartbeats 8000000 in
set_option maxRecDepth 100000 in
theorem hand_Close.calls (A0 : Option Addr) (c0 : Nat) (l0 : List Int) (a1 : Int) (r1 : List Int) (r2 : Int) (r3 : Int) (w : World) (hr0 : Kd.C (Kd.int .i64) w A0 l0.length l0) (hc0 : l0.length ≤ c0) (h : hand_Close.f l0 a1 = some (r1, r2, r3)) :
 Calls Try.prog 24 #[.slice A0 l0.length c0, .int .i64 a1] w fun e w' => ∃ v0_ : Value, e = .returned (.tuple #[v0_, .int .i64 r2, .int .i64 r3]) ∧ Kd.R (Kd.int .i64) 3 w' w.heap.size (fun _ => True) v0_ r1 ∧ Below w.heap.size w w' := by
 have HR0 := Aside0.mk hr0; have HC0 := Aside0.mk hc0; clear hr0 hc0; have HB := Aside0.mk (Below.refl w.heap.size w); have H : ((hand_Of.f l0 a1).bind fun bt111 => (if bt111.2 = 0 then ((slices_Clone_int_int.f l0).bind fun t113 => (if 0 ≤ a1 then (if a1 < (t113.length : Int) then (some ((t113.set (a1 : Int).toNat (-1)), bt111.1, 0)) else (none)) else (none))) else (some (([] : List Int), 0, bt111.2)))) = some (r1, r2, r3) := h; clear h; replace H := Option.bind_eq_some_iff.mp H; obtain ⟨⟨t111, t112⟩, A30, H⟩ := H; replace H : (if t112 = 0 then ((slices_Clone_int_int.f l0).bind fun t113 => (if 0 ≤ a1 then (if a1 < (t113.length : Int) then (some ((t113.set (a1 : Int).toNat (-1)), t111, 0)) else (none)) else (none))) else (some (([] : List Int), 0, t112))) = some (r1, r2, r3) := H; have A3 := Aside0.mk A30; clear A30
 by_cases c4 : t112 = 0
 ·
  rw [if_pos c4] at H; have c4b0 : (t112 == 0) = true := beq_iff_eq.mpr c4; have c4b1 : (t112 != 0) = false := bne_eq_false_iff_eq.mpr c4; clear c4; replace H := Option.bind_eq_some_iff.mp H; obtain ⟨t113, A50, H⟩ := H; replace H : (if 0 ≤ a1 then (if a1 < (t113.length : Int) then (some ((t113.set (a1 : Int).toNat (-1)), t111, 0)) else (none)) else (none)) = some (r1, r2, r3) := H; have A5 := Aside0.mk A50; clear A50
  by_cases c6 : 0 ≤ a1
  ·
   rw [if_pos c6] at H; have c6b0 : decide (0 ≤ a1) = true := decide_eq_true c6; clear c6
   by_cases c7 : a1 < (t113.length : Int)
   ·
    rw [if_pos c7] at H; have c7b0 : decide (a1 < (t113.length : Int)) = true := decide_eq_true c7; clear c7; obtain ⟨y116, hy116⟩ : ∃ y_ : List Int, y_ = (t113.set (a1 : Int).toNat (-1)) := ⟨_, rfl⟩
    replace H : (some (y116, t111, 0)) = some (r1, r2, r3) := by first | (rw [hy116]; with_reducible exact H) | (have H2_ := (Option.bind_some _ _).symm.trans H; rw [hy116]; with_reducible exact H2_) | (have H2_ := (Option.bind_some _ _).symm.trans H; with_reducible exact H2_) | with_reducible exact H | (rw [hy116]; exact H) | exact H
    have Ny116 := Aside0.mk hy116; clear hy116; simp only [Option.some.injEq, Prod.mk.injEq] at H; obtain ⟨rfl, rfl, rfl⟩ := H
    go_enter Try.func24, Try.ntmps24
    go_wp2_with (first | ((with_reducible refine gate_callee (f := 26) rfl ?_); refine goesL_ (some 13) rfl rfl Try.func26 (by kernel_rfl) rfl #[.slice A0 l0.length c0, .int .i64 a1] rfl (by (try simp only [List.map_toArray, List.map_cons, List.map_nil]); first | done | rfl | (simp only [List.length_drop, List.length_take]; rfl)) ?_; (with_reducible refine (hand_Of.calls _ _ l0 a1 t111 t112 _ ?side1 ?side2 A3.out).mono ?_); (case side1 => repeat (first | exact HR0.out | (with_reducible refine Kd.C_alloc ?_ _) | (with_reducible refine Kd.C_drewN ?_ _) | (with_reducible refine Kd.C_drew ?_))); (case side2 => exact HC0.out); rintro e w9 ⟨rfl, hb⟩; refine ⟨_, rfl, ?_⟩; have n0_ := Aside0.mk (below_step (by repeat (first | (with_reducible first | exact HB.out | apply wA | apply wN | apply wD) | exact HB.out)) hb); clear HB; have HB := n0_; clear n0_; (try clear hb); (try clear hb2); (try clear hk); (try clear hi)) | ((with_reducible refine gate_callee (f := 38) rfl ?_); refine goesL_ (some 20) rfl rfl Try.func38 (by kernel_rfl) rfl #[.slice A0 l0.length c0] rfl (by (try simp only [List.map_toArray, List.map_cons, List.map_nil]); first | done | rfl | (simp only [List.length_drop, List.length_take]; rfl)) ?_; (with_reducible refine (slices_Clone_int_int.calls _ _ l0 t113 _ ?side1 ?side2 A5.out).mono ?_); (case side1 => repeat (first | exact (Kd.C_below HR0.out HB.out) | (with_reducible refine Kd.C_alloc ?_ _) | (with_reducible refine Kd.C_drewN ?_ _) | (with_reducible refine Kd.C_drew ?_))); (case side2 => exact HC0.out); rintro e w10 ⟨v114, rfl, ho0, hb⟩; refine ⟨_, rfl, ?_⟩; have n0_ := Aside0.mk (Kd.R_lower ho0 (below_size (by repeat (first | (with_reducible first | exact HB.out | apply wA | apply wN | apply wD) | exact HB.out)))); have n1_ := Aside0.mk (below_step (by repeat (first | (with_reducible first | exact HB.out | apply wA | apply wN | apply wD) | exact HB.out)) hb); clear HB; have HO115 := n0_; have HB := n1_; clear n0_ n1_; (try clear hb); (try clear hb2); (try clear hk); (try clear hi); (try clear ho0); have p8 : 0 ≤ (a1 : Int) := of_decide_eq_true (by first | (with_reducible assumption) | assumption); have q8 : (a1 : Int) < ((t113.length : Int) : Int) := of_decide_eq_true (by first | (with_reducible assumption) | assumption); obtain ⟨go8, co8, eo8, gb8, gl8, cl8, HG8⟩ := Kd.R_form HO115.out (by omega); (first | cases eo8 | (injection eo8 with ea_ en_ ec_; (first | subst ea_ | (injection ea_ with ea_; subst ea_)); subst ec_; clear en_)); have GB8 := Aside0.mk gb8; have GG8 := Aside0.mk HG8; clear gb8 gl8 HG8; obtain ⟨hx8_0, hf8_0⟩ := Kd.R_celln 0 HO115.out (a1 : Int) p8 q8; replace p8 := eq_true p8; replace q8 := eq_true q8; obtain ⟨hy11_, hz11_⟩ := Kd.R_celln 0 HO115.out (a1 : Int) (of_decide_eq_true (by first | (with_reducible assumption) | assumption)) (of_decide_eq_true (by first | (with_reducible assumption) | assumption)); have HP11 := Kd.R_putg HO115.out (a1 : Int) (-1)) | ((with_reducible refine gate_store (t := 3) (p := 23) rfl ?_); refine store_event (t := 3) (p := 23) (v := ?vo_w12) (w1 := (w10.setCell ⟨go8, (a1 : Int).toNat, none⟩ (.int .i64 (-1)))) ?hg ?ho ?hn ?hr ?_; (case ho => rfl); (case hg => rfl); (case hn => rfl); (case hr => first | (go_simp; done) | (go_simp; rfl)); intro w12 hw; have hg : w10.grownBy w12 (some go8) := (by rw [hw]; exact HP11.2); have hp_ : Kd.R (Kd.int .i64) 3 w12 w.heap.size (fun _ => True) (.slice (some ⟨go8, 0, none⟩) t113.length co8) y116 := (by rw [hw, Ny116.out]; exact HP11.1); clear HP11; have n0_ := Aside0.mk (hp_); have n1_ := Aside0.mk ((by rw [hw]; exact wS (HB.out) GB8.out : Below w.heap.size w w12)); clear HO115; clear HB; have HO115 := n0_; have HB := n1_; clear n0_ n1_; clear hg hw hp_))
    go_ret3
    exact ⟨_, by first | rfl | exact congrArg (fun b_ => Ending.returned (Value.bool b_)) HRET.out | (rw [HRET.out]) | (simp [errW_none, errW_some] <;> rfl) | (simp [*, errW_none, errW_some] <;> rfl), by (with_reducible repeat (first | apply Kd.R_alloc | apply Kd.R_drewN | apply Kd.R_drew)); exact HO115.out, by repeat (first | (with_reducible first | exact HB.out | apply wA | apply wN | apply wD) | exact HB.out)⟩
   ·
    rw [if_neg c7] at H; exact absurd H (by simp)
  ·
   rw [if_neg c6] at H; exact absurd H (by simp)
 ·
  rw [if_neg c4] at H; have c4b0 : (t112 == 0) = false := beq_eq_false_iff_ne.mpr c4; have c4b1 : (t112 != 0) = true := bne_iff_ne.mpr c4; simp only [Option.some.injEq, Prod.mk.injEq] at H; obtain ⟨rfl, rfl, rfl⟩ := H
  go_enter Try.func24, Try.ntmps24
  go_wp2_with (first | ((with_reducible refine gate_callee (f := 26) rfl ?_); refine goesL_ (some 13) rfl rfl Try.func26 (by kernel_rfl) rfl #[.slice A0 l0.length c0, .int .i64 a1] rfl (by (try simp only [List.map_toArray, List.map_cons, List.map_nil]); first | done | rfl | (simp only [List.length_drop, List.length_take]; rfl)) ?_; (with_reducible refine (hand_Of.calls _ _ l0 a1 t111 t112 _ ?side1 ?side2 A3.out).mono ?_); (case side1 => repeat (first | exact HR0.out | (with_reducible refine Kd.C_alloc ?_ _) | (with_reducible refine Kd.C_drewN ?_ _) | (with_reducible refine Kd.C_drew ?_))); (case side2 => exact HC0.out); rintro e w13 ⟨rfl, hb⟩; refine ⟨_, rfl, ?_⟩; have n0_ := Aside0.mk (below_step (by repeat (first | (with_reducible first | exact HB.out | apply wA | apply wN | apply wD) | exact HB.out)) hb); clear HB; have HB := n0_; clear n0_; (try clear hb); (try clear hb2); (try clear hk); (try clear hi)))
  go_ret3
  exact ⟨_, by first | rfl | exact congrArg (fun b_ => Ending.returned (Value.bool b_)) HRET.out | (rw [HRET.out]) | (simp [errW_none, errW_some] <;> rfl) | (simp [*, errW_none, errW_some] <;> rfl), by first | exact Kd.R_nil _ _ _ _ _ | exact Kd.N_nil _ _ _ _ _ | exact Kd.V_nil _ _ _ _ _ | exact Kd.Q_nil _ _ _ _ _ | exact Kd.S_nil _ _ _ _ _, by repeat (first | (with_reducible first | exact HB.out | apply wA | apply wN | apply wD) | exact HB.out)⟩

/-! ### hand_Held: function 28 -/
def hand_Held.l0 : Nat → List Bool → List Int → Int → Int → Option (List Bool)
 | 0, _, _, _, _ => none
 | k + 1, x3, x9, x10, x11 => if x11 < x10 then (if 0 ≤ x11 then (if x11 < (x9.length : Int) then (if (rd x9 x11) = (-1) then (hand_Held.l0 k x3 x9 x10 (wrap64 (x11 + 1))) else (if 0 ≤ (rd x9 x11) then (if (rd x9 x11) < (x3.length : Int) then (hand_Held.l0 k (x3.set ((rd x9 x11) : Int).toNat true) x9 x10 (wrap64 (x11 + 1))) else (none)) else (none))) else (none)) else (none)) else (some x3)
def hand_Held.f (k : Nat) (l0 : List Int) : Option (List Bool) := (hand_off.f l0).bind fun t117 => (if t117 = true then (some ([] : List Bool)) else (if 12 ≤ 281474976710656 then (hand_Held.l0 k (List.replicate 12 false) l0 (l0.length : Int) 0) else (none)))
theorem hand_Held.mono_l : ∀ k, (∀ y0 y1 y2 y3, LeO (hand_Held.l0 k y0 y1 y2 y3) (hand_Held.l0 (k + 1) y0 y1 y2 y3))
 | 0 => fun _ _ _ _ r h => by simp [hand_Held.l0] at h
 | k + 1 => by
  have ih0 := hand_Held.mono_l k
  ·
   intro y0 y1 y2 y3
   unfold hand_Held.l0
   repeat' first
   | (with_reducible exact ih0 _ _ _ _)
   | (with_reducible exact LeO.refl _)
   | (with_reducible exact LeO.none _)
   | (with_reducible refine LeO.ite ?_ ?_)
   | (with_reducible refine LeO.bind ?_ (fun _ => ?_))
   | exact ih0 _ _ _ _
   | exact LeO.none _
   | refine LeO.ite ?_ ?_
   | refine LeO.bind ?_ (fun _ => ?_)
theorem hand_Held.mono : ∀ a0 k, LeO (hand_Held.f k a0) (hand_Held.f (k + 1) a0) := by
 intro a0 k; have ih0 := hand_Held.mono_l k
 unfold hand_Held.f
 repeat' first
  | (with_reducible exact ih0 _ _ _ _)
  | (with_reducible exact LeO.refl _)
  | (with_reducible exact LeO.none _)
  | (with_reducible refine LeO.ite ?_ ?_)
  | (with_reducible refine LeO.bind ?_ (fun _ => ?_))
  | exact ih0 _ _ _ _
  | exact LeO.none _
  | refine LeO.ite ?_ ?_
  | refine LeO.bind ?_ (fun _ => ?_)
set_option maxHeartbeats 8000000 in
set_option maxRecDepth 100000 in
theorem hand_Held.calls (k : Nat) (A0 : Option Addr) (c0 : Nat) (l0 : List Int) (r : List Bool) (w : World) (hr0 : Kd.C (Kd.int .i64) w A0 l0.length l0) (hc0 : l0.length ≤ c0) (h : hand_Held.f k l0 = some r) :
 Calls Try.prog 28 #[.slice A0 l0.length c0] w fun e w' => ∃ v0_ : Value, e = .returned (v0_) ∧ Kd.R Kd.bool 4 w' w.heap.size (fun _ => True) v0_ r ∧ Below w.heap.size w w' := by
 have HR0 := Aside0.mk hr0; have HC0 := Aside0.mk hc0; clear hr0 hc0; have HB := Aside0.mk (Below.refl w.heap.size w); have H : ((hand_off.f l0).bind fun t117 => (if t117 = true then (some ([] : List Bool)) else (if 12 ≤ 281474976710656 then (hand_Held.l0 k (List.replicate 12 false) l0 (l0.length : Int) 0) else (none)))) = some r := h; clear h; replace H := Option.bind_eq_some_iff.mp H; obtain ⟨t117, A20, H⟩ := H; replace H : (if t117 = true then (some ([] : List Bool)) else (if 12 ≤ 281474976710656 then (hand_Held.l0 k (List.replicate 12 false) l0 (l0.length : Int) 0) else (none))) = some r := H; have A2 := Aside0.mk A20; clear A20
 by_cases c3 : t117 = true
 ·
  subst c3
  have H1 : (some ([] : List Bool)) = some r := by rw [if_pos rfl] at H; exact H
  clear H; have H := H1; clear H1; obtain rfl := Option.some.inj H
  go_enter Try.func28, Try.ntmps28
  go_wp2_with (first | ((with_reducible refine gate_callee (f := 36) rfl ?_); refine goesL_ (some 7) rfl rfl Try.func36 (by kernel_rfl) rfl #[.slice A0 l0.length c0] rfl (by (try simp only [List.map_toArray, List.map_cons, List.map_nil]); first | done | rfl | (simp only [List.length_drop, List.length_take]; rfl)) ?_; (with_reducible refine (hand_off.calls _ _ l0 true _ ?side1 ?side2 A2.out).mono ?_); (case side1 => repeat (first | exact HR0.out | (with_reducible refine Kd.C_alloc ?_ _) | (with_reducible refine Kd.C_drewN ?_ _) | (with_reducible refine Kd.C_drew ?_))); (case side2 => exact HC0.out); rintro e w4 ⟨rfl, hb⟩; refine ⟨_, rfl, ?_⟩; have n0_ := Aside0.mk (below_step (by repeat (first | (with_reducible first | exact HB.out | apply wA | apply wN | apply wD) | exact HB.out)) hb); clear HB; have HB := n0_; clear n0_; (try clear hb); (try clear hb2); (try clear hk); (try clear hi)))
  go_ret
  exact ⟨_, by first | rfl | exact congrArg (fun b_ => Ending.returned (Value.bool b_)) HRET.out | (rw [HRET.out]) | (simp [errW_none, errW_some] <;> rfl) | (simp [*, errW_none, errW_some] <;> rfl), by first | exact Kd.R_nil _ _ _ _ _ | exact Kd.N_nil _ _ _ _ _ | exact Kd.V_nil _ _ _ _ _ | exact Kd.Q_nil _ _ _ _ _ | exact Kd.S_nil _ _ _ _ _, by repeat (first | (with_reducible first | exact HB.out | apply wA | apply wN | apply wD) | exact HB.out)⟩
 ·
  replace c3 := Bool.eq_false_iff.mpr c3; subst c3
  have H1 : (if 12 ≤ 281474976710656 then (hand_Held.l0 k (List.replicate 12 false) l0 (l0.length : Int) 0) else (none)) = some r := by rw [if_neg (show ¬ (false = true) by decide)] at H; exact H
  clear H; have H := H1; clear H1
  by_cases c5 : 12 ≤ 281474976710656
  ·
   rw [if_pos c5] at H; have c5b0 := eq_true c5; have c5b1 : decide (12 ≤ 281474976710656) = true := decide_eq_true c5; clear c5; obtain ⟨y118, hy118⟩ : ∃ y_ : List Bool, y_ = (List.replicate 12 false) := ⟨_, rfl⟩
   replace H : (hand_Held.l0 k y118 l0 (l0.length : Int) 0) = some r := by first | (rw [hy118]; with_reducible exact H) | (have H2_ := (Option.bind_some _ _).symm.trans H; rw [hy118]; with_reducible exact H2_) | (have H2_ := (Option.bind_some _ _).symm.trans H; with_reducible exact H2_) | with_reducible exact H | (rw [hy118]; exact H) | exact H
   have Ny118 := Aside0.mk hy118; clear hy118; have H' := Aside0.mk H; clear H
   go_enter Try.func28, Try.ntmps28
   go_wp2_with (first | ((with_reducible refine gate_callee (f := 36) rfl ?_); refine goesL_ (some 7) rfl rfl Try.func36 (by kernel_rfl) rfl #[.slice A0 l0.length c0] rfl (by (try simp only [List.map_toArray, List.map_cons, List.map_nil]); first | done | rfl | (simp only [List.length_drop, List.length_take]; rfl)) ?_; (with_reducible refine (hand_off.calls _ _ l0 false _ ?side1 ?side2 A2.out).mono ?_); (case side1 => repeat (first | exact HR0.out | (with_reducible refine Kd.C_alloc ?_ _) | (with_reducible refine Kd.C_drewN ?_ _) | (with_reducible refine Kd.C_drew ?_))); (case side2 => exact HC0.out); rintro e w6 ⟨rfl, hb⟩; refine ⟨_, rfl, ?_⟩; have n0_ := Aside0.mk (below_step (by repeat (first | (with_reducible first | exact HB.out | apply wA | apply wN | apply wD) | exact HB.out)) hb); clear HB; have HB := n0_; clear n0_; (try clear hb); (try clear hb2); (try clear hk); (try clear hi)) | ((with_reducible refine gate_dst (N := 8) rfl ?_); refine Kd.R_make Kd.bool _ 4 rfl (N := 8) rfl 47 _ _ rfl 12 rfl rfl Try.underlying47 (.bool false) 1 info4 rfl (by decide) (by omega) false (ok := fun _ => True) (okp := fun _ => True) rfl (fun _ hk => hk) trivial (by omega) (by omega) (Below.refl _ _) (Nat.le_refl _) ?_; intro v119 w7 ho8 hb hg_ hnew_; clear hg_ hnew_; (first | rw [← Ny118.out] at ho8 | (simp only [Int.reduceToNat] at ho8; rw [← Ny118.out] at ho8)); have n0_ := Aside0.mk (Kd.R_lower ho8 (below_size (by repeat (first | (with_reducible first | exact HB.out | apply wA | apply wN | apply wD) | exact HB.out)))); have n1_ := Aside0.mk (below_step (by repeat (first | (with_reducible first | exact HB.out | apply wA | apply wN | apply wD) | exact HB.out)) hb); clear HB; have HO120 := n0_; have HB := n1_; clear n0_ n1_; clear hb ho8))
   go_loopg [11] k (fun kq v11 w' => ∃ (x3_1 : List Bool) (x11_1 : Int), v11 = .int .i64 x11_1 ∧ Aside0 (hand_Held.l0 kq x3_1 l0 (l0.length : Int) x11_1 = some r) ∧ Aside0 (kq ≤ k) ∧ Aside0 (Kd.R Kd.bool 4 w' w.heap.size (fun _ => True) v119 x3_1) ∧ Aside0 (Below w.heap.size w w'))
   case atStart => exact ⟨(y118), (0), (by first | rfl | (simp; done) | (simp [*]; done)), H', ⟨Nat.le_refl _⟩, ⟨by (with_reducible repeat (first | apply Kd.R_alloc | apply Kd.R_drewN | apply Kd.R_drew)); exact HO120.out⟩, ⟨by repeat (first | (with_reducible first | exact HB.out | apply wA | apply wN | apply wD) | exact HB.out)⟩⟩
   case round =>
    clear H'
    try clear c2
    try clear p2
    try clear c3
    try clear c5
    try clear c5b0
    try clear c5b1
    obtain ⟨x3_1, x11_1, rfl, HA, HK1, HO_3, HB⟩ := hrel
    cases gk with
    | zero => exact absurd HA.out (by simp [hand_Held.l0])
    | succ k1 =>
     have H := HA.out; clear HA; simp only [hand_Held.l0] at H
     by_cases c9 : x11_1 < (l0.length : Int)
     ·
      rw [if_pos c9] at H; have c9b0 : decide (x11_1 < (l0.length : Int)) = true := decide_eq_true c9; clear c9
      by_cases c10 : 0 ≤ x11_1
      ·
       rw [if_pos c10] at H; have c10b0 : decide (0 ≤ x11_1) = true := decide_eq_true c10; clear c10
       by_cases c11 : x11_1 < (l0.length : Int)
       ·
        rw [if_pos c11] at H; have c11b0 : decide (x11_1 < (l0.length : Int)) = true := decide_eq_true c11; clear c11
        by_cases c12 : (rd l0 x11_1) = (-1)
        ·
         rw [if_pos c12] at H; have c12b0 : ((rd l0 x11_1) == (-1)) = true := beq_iff_eq.mpr c12; have c12b1 : ((rd l0 x11_1) != (-1)) = false := bne_eq_false_iff_eq.mpr c12; clear c12; have H' := Aside0.mk H; clear H; have p121 : 0 ≤ (x11_1 : Int) := of_decide_eq_true (by first | (with_reducible assumption) | assumption); have q121 : x11_1 < (l0.length : Int) := of_decide_eq_true (by first | (with_reducible assumption) | assumption); obtain ⟨ad121, e121, hx121_0⟩ := Kd.at_int HR0.out x11_1 p121 q121
         cases e121
         replace hx121_0 := (HB.out.cell (World.block_lt_of_cell? w _ hx121_0)).trans hx121_0; replace p121 := eq_true p121; replace q121 := eq_true q121
         go_wp2
         go_roundg k1
         case measure => have := HK1.out; omega
         case rel => exact ⟨(x3_1), (wrap64 (x11_1 + 1)), (by first | rfl | (simp; done) | (simp [*]; done)), H', ⟨by have := HK1.out; omega⟩, ⟨by (with_reducible repeat (first | apply Kd.R_alloc | apply Kd.R_drewN | apply Kd.R_drew)); exact HO_3.out⟩, ⟨by repeat (first | (with_reducible first | exact HB.out | apply wA | apply wN | apply wD) | exact HB.out)⟩⟩
        ·
         rw [if_neg c12] at H; have c12b0 : ((rd l0 x11_1) == (-1)) = false := beq_eq_false_iff_ne.mpr c12; have c12b1 : ((rd l0 x11_1) != (-1)) = true := bne_iff_ne.mpr c12
         by_cases c13 : 0 ≤ (rd l0 x11_1)
         ·
          rw [if_pos c13] at H; have c13b0 : decide (0 ≤ (rd l0 x11_1)) = true := decide_eq_true c13; clear c13
          by_cases c14 : (rd l0 x11_1) < (x3_1.length : Int)
          ·
           rw [if_pos c14] at H; have c14b0 : decide ((rd l0 x11_1) < (x3_1.length : Int)) = true := decide_eq_true c14; clear c14; obtain ⟨y122, hy122⟩ : ∃ y_ : List Bool, y_ = (x3_1.set ((rd l0 x11_1) : Int).toNat true) := ⟨_, rfl⟩
           replace H : (hand_Held.l0 k1 y122 l0 (l0.length : Int) (wrap64 (x11_1 + 1))) = some r := by first | (rw [hy122]; with_reducible exact H) | (have H2_ := (Option.bind_some _ _).symm.trans H; rw [hy122]; with_reducible exact H2_) | (have H2_ := (Option.bind_some _ _).symm.trans H; with_reducible exact H2_) | with_reducible exact H | (rw [hy122]; exact H) | exact H
           have Ny122 := Aside0.mk hy122; clear hy122; have H' := Aside0.mk H; clear H; have p121 : 0 ≤ (x11_1 : Int) := of_decide_eq_true (by first | (with_reducible assumption) | assumption); have q121 : x11_1 < (l0.length : Int) := of_decide_eq_true (by first | (with_reducible assumption) | assumption); obtain ⟨ad121, e121, hx121_0⟩ := Kd.at_int HR0.out x11_1 p121 q121
           cases e121
           replace hx121_0 := (HB.out.cell (World.block_lt_of_cell? w _ hx121_0)).trans hx121_0; replace p121 := eq_true p121; replace q121 := eq_true q121; have p15 : 0 ≤ ((rd l0 x11_1) : Int) := of_decide_eq_true (by first | (with_reducible assumption) | assumption); have q15 : ((rd l0 x11_1) : Int) < ((x3_1.length : Int) : Int) := of_decide_eq_true (by first | (with_reducible assumption) | assumption); obtain ⟨go15, co15, eo15, gb15, gl15, cl15, HG15⟩ := Kd.R_form HO_3.out (by omega)
           (first | cases eo15 | (injection eo15 with ea_ en_ ec_; (first | subst ea_ | (injection ea_ with ea_; subst ea_)); subst ec_; clear en_))
           have GB15 := Aside0.mk gb15; have GG15 := Aside0.mk HG15; clear gb15 gl15 HG15; obtain ⟨hx15_0, hf15_0⟩ := Kd.R_celln false HO_3.out ((rd l0 x11_1) : Int) p15 q15; replace p15 := eq_true p15; replace q15 := eq_true q15; have HP16 := Kd.R_putg HO_3.out ((rd l0 x11_1) : Int) true
           go_wp2_with (first | ((with_reducible refine gate_store (t := 4) (p := 19) rfl ?_); refine store_event (t := 4) (p := 19) (v := ?vo_w17) (w1 := (wr.setCell ⟨go15, ((rd l0 x11_1) : Int).toNat, none⟩ (.bool true))) ?hg ?ho ?hn ?hr ?_; (case ho => rfl); (case hg => rfl); (case hn => rfl); (case hr => first | (go_simp; done) | (go_simp; rfl)); intro w17 hw; have hg : wr.grownBy w17 (some go15) := (by rw [hw]; exact HP16.2); have hp_ : Kd.R Kd.bool 4 w17 w.heap.size (fun _ => True) (.slice (some ⟨go15, 0, none⟩) x3_1.length co15) y122 := (by rw [hw, Ny122.out]; exact HP16.1); clear HP16; have n0_ := Aside0.mk (hp_); have n1_ := Aside0.mk ((by rw [hw]; exact wS (HB.out) GB15.out : Below w.heap.size w w17)); clear HO_3; clear HB; have HO_3 := n0_; have HB := n1_; clear n0_ n1_; clear hg hw hp_))
           go_roundg k1
           case measure => have := HK1.out; omega
           case rel => exact ⟨(y122), (wrap64 (x11_1 + 1)), (by first | rfl | (simp; done) | (simp [*]; done)), H', ⟨by have := HK1.out; omega⟩, ⟨by (with_reducible repeat (first | apply Kd.R_alloc | apply Kd.R_drewN | apply Kd.R_drew)); exact HO_3.out⟩, ⟨by repeat (first | (with_reducible first | exact HB.out | apply wA | apply wN | apply wD) | exact HB.out)⟩⟩
          ·
           rw [if_neg c14] at H; exact absurd H (by simp)
         ·
          rw [if_neg c13] at H; exact absurd H (by simp)
       ·
        rw [if_neg c11] at H; exact absurd H (by simp)
      ·
       rw [if_neg c10] at H; exact absurd H (by simp)
     ·
      rw [if_neg c9] at H; have c9b0 : decide (x11_1 < (l0.length : Int)) = false := decide_eq_false c9; clear c9; obtain rfl := Option.some.inj H
      go_wp2
      go_ret
      exact ⟨_, by first | rfl | exact congrArg (fun b_ => Ending.returned (Value.bool b_)) HRET.out | (rw [HRET.out]) | (simp [errW_none, errW_some] <;> rfl) | (simp [*, errW_none, errW_some] <;> rfl), by (with_reducible repeat (first | apply Kd.R_alloc | apply Kd.R_drewN | apply Kd.R_drew)); exact HO_3.out, by repeat (first | (with_reducible first | exact HB.out | apply wA | apply wN | apply wD) | exact HB.out)⟩
  ·
   rw [if_neg c5] at H; exact absurd H (by simp)

/-! ### bits_Mul32: function 46 -/
def bits_Mul32.f (a0 : Int) (a1 : Int) : Option (Int × Int) := some (((IntKind.u64.wrap ((IntKind.u64.wrap (a0)) * (IntKind.u64.wrap (a1)))) / 4294967296) % 4294967296, (IntKind.u64.wrap ((IntKind.u64.wrap (a0)) * (IntKind.u64.wrap (a1)))) % 4294967296)
set_option maxHeartbeats 8000000 in
set_option maxRecDepth 100000 in
theorem bits_Mul32.calls (a0 : Int) (a1 : Int) (r1 : Int) (r2 : Int) (w : World) (h : bits_Mul32.f a0 a1 = some (r1, r2)) :
 Calls Try.prog 46 #[.int .u32 a0, .int .u32 a1] w fun e w' => e = .returned (.tuple #[.int .u32 r1, .int .u32 r2]) ∧ Drawn0 w w' := by
 have H : (some (((IntKind.u64.wrap ((IntKind.u64.wrap (a0)) * (IntKind.u64.wrap (a1)))) / 4294967296) % 4294967296, (IntKind.u64.wrap ((IntKind.u64.wrap (a0)) * (IntKind.u64.wrap (a1)))) % 4294967296)) = some (r1, r2) := h; clear h; simp only [Option.some.injEq, Prod.mk.injEq] at H; obtain ⟨rfl, rfl⟩ := H
 go_enter Try.func46, Try.ntmps46
 go_wp2
 go_ret2
 exact ⟨by first | rfl | (simp; done) | (simp [*]; done), by repeat (first | exact Drawn0.refl _ | apply Drawn0.step)⟩

/-! ### bits_Mul64: function 47 -/
def bits_Mul64.f (a0 : Int) (a1 : Int) : Option (Int × Int) := some (IntKind.u64.wrap ((IntKind.u64.wrap ((IntKind.u64.wrap ((a0 / 4294967296) * (a1 / 4294967296))) + ((IntKind.u64.wrap ((IntKind.u64.wrap ((a0 / 4294967296) * (Go.bits .and .u64 a1 4294967295))) + ((IntKind.u64.wrap ((Go.bits .and .u64 a0 4294967295) * (Go.bits .and .u64 a1 4294967295))) / 4294967296))) / 4294967296))) + ((IntKind.u64.wrap ((Go.bits .and .u64 (IntKind.u64.wrap ((IntKind.u64.wrap ((a0 / 4294967296) * (Go.bits .and .u64 a1 4294967295))) + ((IntKind.u64.wrap ((Go.bits .and .u64 a0 4294967295) * (Go.bits .and .u64 a1 4294967295))) / 4294967296))) 4294967295) + (IntKind.u64.wrap ((Go.bits .and .u64 a0 4294967295) * (a1 / 4294967296))))) / 4294967296)), IntKind.u64.wrap (a0 * a1))
set_option maxHeartbeats 8000000 in
set_option maxRecDepth 100000 in
theorem bits_Mul64.calls (a0 : Int) (a1 : Int) (r1 : Int) (r2 : Int) (w : World) (h : bits_Mul64.f a0 a1 = some (r1, r2)) :
 Calls Try.prog 47 #[.int .u64 a0, .int .u64 a1] w fun e w' => e = .returned (.tuple #[.int .u64 r1, .int .u64 r2]) ∧ Drawn0 w w' := by
 have H : (some (IntKind.u64.wrap ((IntKind.u64.wrap ((IntKind.u64.wrap ((a0 / 4294967296) * (a1 / 4294967296))) + ((IntKind.u64.wrap ((IntKind.u64.wrap ((a0 / 4294967296) * (Go.bits .and .u64 a1 4294967295))) + ((IntKind.u64.wrap ((Go.bits .and .u64 a0 4294967295) * (Go.bits .and .u64 a1 4294967295))) / 4294967296))) / 4294967296))) + ((IntKind.u64.wrap ((Go.bits .and .u64 (IntKind.u64.wrap ((IntKind.u64.wrap ((a0 / 4294967296) * (Go.bits .and .u64 a1 4294967295))) + ((IntKind.u64.wrap ((Go.bits .and .u64 a0 4294967295) * (Go.bits .and .u64 a1 4294967295))) / 4294967296))) 4294967295) + (IntKind.u64.wrap ((Go.bits .and .u64 a0 4294967295) * (a1 / 4294967296))))) / 4294967296)), IntKind.u64.wrap (a0 * a1))) = some (r1, r2) := h; clear h; simp only [Option.some.injEq, Prod.mk.injEq] at H; obtain ⟨rfl, rfl⟩ := H
 go_enter Try.func47, Try.ntmps47
 go_wp2
 go_ret2
 exact ⟨by first | rfl | (simp; done) | (simp [*]; done), by repeat (first | exact Drawn0.refl _ | apply Drawn0.step)⟩

/-! ### bits_Mul: function 44 -/
def bits_Mul.f (a0 : Int) (a1 : Int) : Option (Int × Int) := (bits_Mul64.f a0 a1).bind fun bt123 => (some (bt123.1, bt123.2))
set_option maxHeartbeats 8000000 in
set_option maxRecDepth 100000 in
theorem bits_Mul.calls (a0 : Int) (a1 : Int) (r1 : Int) (r2 : Int) (w : World) (h : bits_Mul.f a0 a1 = some (r1, r2)) :
 Calls Try.prog 44 #[.int .u64 a0, .int .u64 a1] w fun e w' => e = .returned (.tuple #[.int .u64 r1, .int .u64 r2]) ∧ Drawn0 w w' := by
 have H : ((bits_Mul64.f a0 a1).bind fun bt123 => (some (bt123.1, bt123.2))) = some (r1, r2) := h; clear h; replace H := Option.bind_eq_some_iff.mp H; obtain ⟨⟨t123, t124⟩, A30, H⟩ := H; replace H : (some (t123, t124)) = some (r1, r2) := H; have A3 := Aside0.mk A30; clear A30; simp only [Option.some.injEq, Prod.mk.injEq] at H; obtain ⟨rfl, rfl⟩ := H
 go_enter Try.func44, Try.ntmps44
 go_wp2_with (first | ((with_reducible refine gate_callee (f := 47) rfl ?_); refine goesL_ (some 25) rfl rfl Try.func47 (by kernel_rfl) rfl #[.int .u64 a0, .int .u64 a1] rfl (by (try simp only [List.map_toArray, List.map_cons, List.map_nil]); first | done | rfl | (simp only [List.length_drop, List.length_take]; rfl)) ?_; (with_reducible refine (bits_Mul64.calls a0 a1 t123 t124 _ A3.out).mono ?_); rintro e w' ⟨rfl, ⟨nd, rfl⟩⟩; refine ⟨_, rfl, ?_⟩))
 go_ret2
 exact ⟨by first | rfl | (simp; done) | (simp [*]; done), by repeat (first | exact Drawn0.refl _ | apply Drawn0.step)⟩

-- NOT PRINTED: function 40 (slices_Repeat_int_int)

/-! ### hand_New: function 31 -/
/-- The first cells of a row known whole. -/
theorem copy_src {w : World} {g t : Nat} {L : List Value} (h : w.heap[g]? = some (.cells L.toArray t (0, 0))) (cs : List Value) (hcs : ∃ r, L = cs ++ r) :
 ∀ j v, cs[j]? = some v → w.drew.cell? ((⟨g, 0, none⟩ : Addr).add j) = some v := by
 obtain ⟨r, rfl⟩ := hcs; intro j v hj; have hd : w.drew.heap[g]? = some (.cells (cs ++ r).toArray t (0, 0)) := h; have hlt : j < cs.length := (List.getElem?_eq_some_iff.1 hj).1
 have e : (⟨g, 0, none⟩ : Addr).add j = ⟨g, j, none⟩ := by unfold Addr.add; split <;> simp_all
 rw [e]; simp only [World.cell?, hd]
 simp [List.getElem?_append_left hlt, hj]
theorem mul14 : bits_Mul.f 1 4 = some (0, 4) := by decide +kernel
set_option maxHeartbeats 4000000 in
theorem repeat_walk (g : Nat) (w : World) (hg : w.cell? ⟨g, 0, none⟩ = some (.int .i64 (-1))) :
 Calls Try.prog 40 #[.slice (some ⟨g, 0, none⟩) 1 1, .int .i64 4] w fun e w' => ∃ gb, e = .returned (.slice (some ⟨gb, 0, none⟩) 4 4) ∧ w.heap.size ≤ gb ∧ w'.heap[gb]? = some (.cells #[.int .i64 (-1), .int .i64 (-1), .int .i64 (-1), .int .i64 (-1)] 3 (0, 0)) ∧ Below w.heap.size w w' := by
 have hlt : g < w.heap.size := World.block_lt_of_cell? w _ hg; have hu41 := Try.underlying41; have HG := Aside0.mk hg; clear hg
 obtain ⟨ti, hti, htz⟩ : ∃ ti, Try.prog.info? 3 = some ti ∧ (ti.zero, ti.size, ti.bytes) = (some (Value.int IntKind.i64 0), 1, 8) := by
  have h := info3
  cases hq : Try.prog.info? 3 with
  | none => rw [hq] at h; cases h
  | some ti => rw [hq] at h; exact ⟨ti, rfl, Option.some.inj h⟩
 simp only [Prod.mk.injEq] at htz
 have hmk : ∀ W : World, (Instr.makeSlice 41 (.int .i64 4) (.int .i64 4)).run Try.prog W = .ok (.slice (some ⟨W.heap.size, 0, none⟩) 4 4) (W.alloc (.cells #[.int .i64 0, .int .i64 0, .int .i64 0, .int .i64 0] 3)) := fun W => by
  have := run_make W 41 3 ti (.int .i64 0) Try.underlying41 hti htz.1 .i64 .i64 4 4 (by decide) (by decide) (by rw [htz.2.2]; decide) (by decide)
  rw [htz.2.1] at this; exact this.trans (by rw [show madeCells (Value.int .i64 0).cells (Int.toNat 4 * 1) = #[.int .i64 0, .int .i64 0, .int .i64 0, .int .i64 0] from by first | (simp [madeCells, Value.cells]; done) | (simp [madeCells, Value.cells, Array.range]; done) | (apply Array.ext' ; simp [madeCells, Value.cells, List.range, List.range.loop])]; rfl)
 clear hti htz
 go_enter Try.func40, Try.ntmps40
 go_upto_region 7 with (first | (go_at_call 44; refine (bits_Mul.calls 1 4 0 4 _ mul14).mono ?_; rintro e w' ⟨rfl, nd1, rfl⟩))
 have HB := Aside0.mk (show Below w.heap.size w ((w.drewN nd1).alloc (.cells #[.int .i64 0, .int .i64 0, .int .i64 0, .int .i64 0] 3)) from by repeat (first | exact Below.refl _ _ | apply wA | apply wN))
 have HC := Aside0.mk (show ((w.drewN nd1).alloc (.cells #[.int .i64 0, .int .i64 0, .int .i64 0, .int .i64 0] 3)).heap[w.heap.size]? = some (.cells [Value.int .i64 0, .int .i64 0, .int .i64 0, .int .i64 0].toArray 3 (0, 0)) from by
  have e : (w.drewN nd1).heap = w.heap := by simp
  show ((w.drewN nd1).heap.push _)[w.heap.size]? = _
  rw [e]; simp)
 have HX := Aside0.mk ((HB.out.cell (p := ⟨g, 0, none⟩) hlt).trans HG.out); generalize (w.drewN nd1).alloc (.cells #[.int .i64 0, .int .i64 0, .int .i64 0, .int .i64 0] 3) = W1 at HB HC HX ⊢
 go_wp2_with ((with_reducible refine gate_builtin (b := .copy) (xs := #[.tmp 31, .tmp 32]) rfl ?_); go_loud (refine wpList_copy_splice rfl _ _ 41 41 rfl 3 Try.underlying41 (by rfl) (some ⟨w.heap.size, 0, none⟩) (some ⟨g, 0, none⟩) 4 4 1 1 rfl rfl w.heap.size 0 _ 3 HC.out [.int .i64 (-1)] rfl ?pos (by decide) ?one w.heap.size w HB.out (Nat.le_refl _) ?_); (case pos => intro _; refine ⟨rfl, _, rfl, fun j v hj => ?_⟩; cases j with | zero => (cases hj; exact HX.out) | succ j => cases hj); (case one => simp [Value.oneCell']); intro W2 HC2 HB2)
 have HC := Aside0.mk (show W2.heap[w.heap.size]? = some (.cells [Value.int .i64 (-1), .int .i64 0, .int .i64 0, .int .i64 0].toArray 3 (0, 0)) from HC2); have HB := Aside0.mk HB2; clear HC2 HB2
 go_loopg [8] 4 (fun gk v8 w' => ∃ n : Nat, ∃ L : List Value, v8 = .int .i64 n ∧ ((n = 1 ∧ L = [.int .i64 (-1), .int .i64 0, .int .i64 0, .int .i64 0]) ∨ (n = 2 ∧ L = [.int .i64 (-1), .int .i64 (-1), .int .i64 0, .int .i64 0]) ∨ (n = 4 ∧ L = [.int .i64 (-1), .int .i64 (-1), .int .i64 (-1), .int .i64 (-1)])) ∧ 4 - n ≤ gk ∧ Aside0 (w'.heap[w.heap.size]? = some (.cells L.toArray 3 (0, 0))) ∧ Aside0 (Below w.heap.size w w'))
 case atStart => exact ⟨1, _, rfl, Or.inl ⟨rfl, rfl⟩, by omega, HC, HB⟩
 case round =>
  obtain ⟨n, L, rfl, hn, hm, HC, HB⟩ := hrel
  rcases hn with ⟨rfl, rfl⟩ | ⟨rfl, rfl⟩ | ⟨rfl, rfl⟩
  ·
   go_upto_region 9 with (fail)
   go_region_held3 (fun _ => True) (trivial) (((refine step_copy_splice rfl (.tmp 41) (.tmp 44) 41 41 rfl 3 Try.underlying41 (by rfl) (some ⟨w.heap.size, 1, none⟩) (some ⟨w.heap.size, 0, none⟩) 3 3 1 4 (by rfl) (by rfl) w.heap.size 1 _ 3 HC.out [.int .i64 (-1)] rfl (fun _ => ⟨rfl, _, rfl, copy_src HC.out _ (by simp)⟩) (by decide) (by simp [Value.oneCell']) w.heap.size w (wD HB.out) (Nat.le_refl _) ?_); intro W3 HC3 HB3))
   have HC := Aside0.mk (show W3.heap[w.heap.size]? = some (.cells [Value.int .i64 (-1), .int .i64 (-1), .int .i64 0, .int .i64 0].toArray 3 (0, 0)) from HC3); have HB := Aside0.mk HB3; clear HC3 HB3
   go_wp2
   go_roundg 2
   case measure => omega
   case rel => exact ⟨2, _, rfl, Or.inr (Or.inl ⟨rfl, rfl⟩), by omega, HC, HB⟩
  ·
   go_upto_region 9 with (fail)
   go_region_held3 (fun _ => True) (trivial) (((refine step_copy_splice rfl (.tmp 41) (.tmp 44) 41 41 rfl 3 Try.underlying41 (by rfl) (some ⟨w.heap.size, 2, none⟩) (some ⟨w.heap.size, 0, none⟩) 2 2 2 4 (by rfl) (by rfl) w.heap.size 2 _ 3 HC.out [.int .i64 (-1), .int .i64 (-1)] rfl (fun _ => ⟨rfl, _, rfl, copy_src HC.out _ (by simp)⟩) (by decide) (by simp [Value.oneCell']) w.heap.size w (wD HB.out) (Nat.le_refl _) ?_); intro W3 HC3 HB3))
   have HC := Aside0.mk (show W3.heap[w.heap.size]? = some (.cells [Value.int .i64 (-1), .int .i64 (-1), .int .i64 (-1), .int .i64 (-1)].toArray 3 (0, 0)) from HC3); have HB := Aside0.mk HB3; clear HC3 HB3
   go_wp2
   go_roundg 0
   case measure => omega
   case rel => exact ⟨4, _, rfl, Or.inr (Or.inr ⟨rfl, rfl⟩), by omega, HC, HB⟩
  ·
   go_wp2
   go_ret
   exact ⟨_, rfl, Nat.le_refl _, HC.out, HB.out⟩
set_option maxHeartbeats 4000000 in
/-- New handles: the walk. -/
theorem new_walk (w : World) : Calls Try.prog 31 #[] w fun e w' => ∃ v0_ : Value, e = .returned (v0_) ∧ Kd.R (Kd.int .i64) 3 w' w.heap.size (fun _ => True) v0_ [-1, -1, -1, -1] ∧ Below w.heap.size w w' := by
 have hcon := Aside0.mk (fun (W : World) (g : Nat) (hg : W.cell? ⟨g, 0, none⟩ = some (.int .i64 (-1))) => repeat_walk g W hg)
 go_enter Try.func31, Try.ntmps31
 go_wp2_with (go_at_call 40; refine (hcon.out _ w.heap.size (by simp)).mono ?_; rintro e w' ⟨gb, rfl, hge, hcell, hb⟩)
 go_ret
 refine ⟨_, rfl, ?_, ?_⟩
 ·
  refine Kd.R_of_own (enc := Value.int .i64) (h1 := fun _ => rfl) ?_ (fun _ _ => trivial); exact ⟨rfl, Or.inr ⟨gb, 4, _, rfl, by have := hge; simp at this; omega, hcell, by decide, by decide, rfl, rfl⟩⟩
 ·
  exact ((Below.refl _ w).alloc (Nat.le_refl _) _).trans (hb.mono (by simp))

def hand_New.f  : Option (List Int) := some [-1, -1, -1, -1]
theorem hand_New.calls  (r : List Int) (w : World) (h : hand_New.f  = some r) :
 Calls Try.prog 31 #[] w fun e w' => ∃ v0_ : Value, e = .returned (v0_) ∧ Kd.R (Kd.int .i64) 3 w' w.heap.size (fun _ => True) v0_ r ∧ Below w.heap.size w w' := by
 obtain rfl := Option.some.inj h; exact new_walk w

end Go.Proofs.Ytnjnmegjbcgajaa.PHand
