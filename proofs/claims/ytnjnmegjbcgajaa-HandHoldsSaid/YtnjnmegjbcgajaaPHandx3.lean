/- The Go functions that these laws reach, each as a Lean function with the same answers (a law itself where it answers true), and the proof that the code comes to them; conditions: those of each theorem. Laid by a program of this session over the print. -/
import Derived.Test.YtnjnmegjbcgajaaPHandx0
import Derived.Test.YtnjnmegjbcgajaaPHandx1
import Derived.Test.YtnjnmegjbcgajaaPHandx2
namespace Go.Proofs.Ytnjnmegjbcgajaa.PHand
open Go.RowKit Go.Proofs.YtnjnmegjbcgajaaW.PrintWords Go.Proofs.YtnjnmegjbcgajaaW.PrintLast Go.Proofs.YtnjnmegjbcgajaaW.PrintMore
attribute [local go_sem] max2_int min2_int max_two min_two max_three min_three max_four min_four   -- for this text's walks alone
set_option linter.unusedVariables false
set_option linter.unusedSimpArgs false
open Go.Proofs.YtnjnmegjbcgajaaW.PrintWords renaming blk_drewN → bN, blk_drew → bD, blk_alloc → bA, below_set → wS, below_alloc → wA, pw_below_drewN → wN, below_drew1 → wD, blk_below → bB, blk_far → bF, blk_cell → bC, blk_frozen → bZ
open List renaming setIfInBounds_toArray → lT, set_cons_zero → l0_, set_cons_succ → lS

/-! ### potsherdlaw21_awake: function 21 -/
def potsherdlaw21_awake.f (k : Nat)  : Option (Bool) := (hand_New.f).bind fun t130 => ((hand_Open.f k t130 3).bind fun bt133 => ((hand_Open.f k bt133.1 3).bind fun bt138 => ((hand_Close.f bt138.1 0).bind fun bt143 => ((hand_Held.f k bt143.1).bind fun t148 => (if bt133.2.2 = 0 then (if bt133.2.1 = 0 then (if bt138.2.2 = 0 then (if bt138.2.1 = 1 then (if bt143.2.2 = 0 then (if bt143.2.1 = 3 then (if (t148.length : Int) = 12 then (if 3 < (t148.length : Int) then (if rdOf false t148 3 = true then (if 0 < (t148.length : Int) then (some (!(rdOf false t148 0))) else (none)) else (some false)) else (none)) else (some false)) else (some false)) else (some false)) else (some false)) else (some false)) else (some false)) else (some false))))))
theorem potsherdlaw21_awake.mono : ∀ k, LeO (potsherdlaw21_awake.f k ) (potsherdlaw21_awake.f (k + 1) ) := by
 intro  k
 unfold potsherdlaw21_awake.f
 repeat' first
  | (with_reducible exact hand_Held.mono _ _)
  | (with_reducible exact hand_Open.mono _ _ _)
  | (with_reducible exact LeO.refl _)
  | (with_reducible exact LeO.none _)
  | (with_reducible refine LeO.ite ?_ ?_)
  | (with_reducible refine LeO.bind ?_ (fun _ => ?_))
  | exact hand_Held.mono _ _
  | exact hand_Open.mono _ _ _
  | exact LeO.none _
  | refine LeO.ite ?_ ?_
  | refine LeO.bind ?_ (fun _ => ?_)
set_option maxHeartbeats 8000000 in
set_option maxRecDepth 100000 in
theorem potsherdlaw21_awake.callsT (k : Nat)  (w : World) (h : potsherdlaw21_awake.f k  = some true) :
 Calls Try.prog 21 #[] w fun e w' => e = .returned (.bool true) ∧ Below w.heap.size w w' := by
 have HB := Aside0.mk (Below.refl w.heap.size w); have H : ((hand_New.f).bind fun t130 => ((hand_Open.f k t130 3).bind fun bt133 => ((hand_Open.f k bt133.1 3).bind fun bt138 => ((hand_Close.f bt138.1 0).bind fun bt143 => ((hand_Held.f k bt143.1).bind fun t148 => (if bt133.2.2 = 0 then (if bt133.2.1 = 0 then (if bt138.2.2 = 0 then (if bt138.2.1 = 1 then (if bt143.2.2 = 0 then (if bt143.2.1 = 3 then (if (t148.length : Int) = 12 then (if 3 < (t148.length : Int) then (if rdOf false t148 3 = true then (if 0 < (t148.length : Int) then (some (!(rdOf false t148 0))) else (none)) else (some false)) else (none)) else (some false)) else (some false)) else (some false)) else (some false)) else (some false)) else (some false)) else (some false))))))) = some true := h; clear h; replace H := Option.bind_eq_some_iff.mp H; obtain ⟨t130, A10, H⟩ := H; replace H : ((hand_Open.f k t130 3).bind fun bt133 => ((hand_Open.f k bt133.1 3).bind fun bt138 => ((hand_Close.f bt138.1 0).bind fun bt143 => ((hand_Held.f k bt143.1).bind fun t148 => (if bt133.2.2 = 0 then (if bt133.2.1 = 0 then (if bt138.2.2 = 0 then (if bt138.2.1 = 1 then (if bt143.2.2 = 0 then (if bt143.2.1 = 3 then (if (t148.length : Int) = 12 then (if 3 < (t148.length : Int) then (if rdOf false t148 3 = true then (if 0 < (t148.length : Int) then (some (!(rdOf false t148 0))) else (none)) else (some false)) else (none)) else (some false)) else (some false)) else (some false)) else (some false)) else (some false)) else (some false)) else (some false)))))) = some true := H; have A1 := Aside0.mk A10; clear A10; replace H := Option.bind_eq_some_iff.mp H; obtain ⟨⟨t133, t134, t135⟩, A20, H⟩ := H; replace H : ((hand_Open.f k t133 3).bind fun bt138 => ((hand_Close.f bt138.1 0).bind fun bt143 => ((hand_Held.f k bt143.1).bind fun t148 => (if t135 = 0 then (if t134 = 0 then (if bt138.2.2 = 0 then (if bt138.2.1 = 1 then (if bt143.2.2 = 0 then (if bt143.2.1 = 3 then (if (t148.length : Int) = 12 then (if 3 < (t148.length : Int) then (if rdOf false t148 3 = true then (if 0 < (t148.length : Int) then (some (!(rdOf false t148 0))) else (none)) else (some false)) else (none)) else (some false)) else (some false)) else (some false)) else (some false)) else (some false)) else (some false)) else (some false))))) = some true := H; have A2 := Aside0.mk A20; clear A20; replace H := Option.bind_eq_some_iff.mp H; obtain ⟨⟨t138, t139, t140⟩, A30, H⟩ := H; replace H : ((hand_Close.f t138 0).bind fun bt143 => ((hand_Held.f k bt143.1).bind fun t148 => (if t135 = 0 then (if t134 = 0 then (if t140 = 0 then (if t139 = 1 then (if bt143.2.2 = 0 then (if bt143.2.1 = 3 then (if (t148.length : Int) = 12 then (if 3 < (t148.length : Int) then (if rdOf false t148 3 = true then (if 0 < (t148.length : Int) then (some (!(rdOf false t148 0))) else (none)) else (some false)) else (none)) else (some false)) else (some false)) else (some false)) else (some false)) else (some false)) else (some false)) else (some false)))) = some true := H; have A3 := Aside0.mk A30; clear A30; replace H := Option.bind_eq_some_iff.mp H; obtain ⟨⟨t143, t144, t145⟩, A40, H⟩ := H; replace H : ((hand_Held.f k t143).bind fun t148 => (if t135 = 0 then (if t134 = 0 then (if t140 = 0 then (if t139 = 1 then (if t145 = 0 then (if t144 = 3 then (if (t148.length : Int) = 12 then (if 3 < (t148.length : Int) then (if rdOf false t148 3 = true then (if 0 < (t148.length : Int) then (some (!(rdOf false t148 0))) else (none)) else (some false)) else (none)) else (some false)) else (some false)) else (some false)) else (some false)) else (some false)) else (some false)) else (some false))) = some true := H; have A4 := Aside0.mk A40; clear A40; replace H := Option.bind_eq_some_iff.mp H; obtain ⟨t148, A50, H⟩ := H; replace H : (if t135 = 0 then (if t134 = 0 then (if t140 = 0 then (if t139 = 1 then (if t145 = 0 then (if t144 = 3 then (if (t148.length : Int) = 12 then (if 3 < (t148.length : Int) then (if rdOf false t148 3 = true then (if 0 < (t148.length : Int) then (some (!(rdOf false t148 0))) else (none)) else (some false)) else (none)) else (some false)) else (some false)) else (some false)) else (some false)) else (some false)) else (some false)) else (some false)) = some true := H; have A5 := Aside0.mk A50; clear A50
 by_cases c6 : t135 = 0
 ·
  rw [if_pos c6] at H; have c6b0 : (t135 == 0) = true := beq_iff_eq.mpr c6; have c6b1 : (t135 != 0) = false := bne_eq_false_iff_eq.mpr c6; clear c6
  by_cases c7 : t134 = 0
  ·
   rw [if_pos c7] at H; have c7b0 : (t134 == 0) = true := beq_iff_eq.mpr c7; have c7b1 : (t134 != 0) = false := bne_eq_false_iff_eq.mpr c7; clear c7
   by_cases c8 : t140 = 0
   ·
    rw [if_pos c8] at H; have c8b0 : (t140 == 0) = true := beq_iff_eq.mpr c8; have c8b1 : (t140 != 0) = false := bne_eq_false_iff_eq.mpr c8; clear c8
    by_cases c9 : t139 = 1
    ·
     rw [if_pos c9] at H; have c9b0 : (t139 == 1) = true := beq_iff_eq.mpr c9; have c9b1 : (t139 != 1) = false := bne_eq_false_iff_eq.mpr c9; clear c9
     by_cases c10 : t145 = 0
     ·
      rw [if_pos c10] at H; have c10b0 : (t145 == 0) = true := beq_iff_eq.mpr c10; have c10b1 : (t145 != 0) = false := bne_eq_false_iff_eq.mpr c10; clear c10
      by_cases c11 : t144 = 3
      ·
       rw [if_pos c11] at H; have c11b0 : (t144 == 3) = true := beq_iff_eq.mpr c11; have c11b1 : (t144 != 3) = false := bne_eq_false_iff_eq.mpr c11; clear c11
       by_cases c12 : (t148.length : Int) = 12
       ·
        rw [if_pos c12] at H; have c12b0 : ((t148.length : Int) == 12) = true := beq_iff_eq.mpr c12; have c12b1 : ((t148.length : Int) != 12) = false := bne_eq_false_iff_eq.mpr c12; clear c12
        by_cases c13 : 3 < (t148.length : Int)
        ·
         rw [if_pos c13] at H; have c13b0 : decide (3 < (t148.length : Int)) = true := decide_eq_true c13; have c13b1 : decide (3 < t148.length) = true := decide_eq_true (by omega); clear c13; obtain ⟨bq14, hbq14⟩ : ∃ b_ : Bool, b_ = (rdOf false t148 3) := ⟨_, rfl⟩
         replace H : (if bq14 = true then (if 0 < (t148.length : Int) then (some (!(rdOf false t148 0))) else (none)) else (some false)) = some true := by rw [← hbq14] at H; exact H
         have Nbq14 := Aside0.mk hbq14; clear hbq14
         by_cases c15 : bq14 = true
         ·
          subst c15
          have H1 : (if 0 < (t148.length : Int) then (some (!(rdOf false t148 0))) else (none)) = some true := by rw [if_pos rfl] at H; exact H
          clear H; have H := H1; clear H1
          by_cases c16 : 0 < (t148.length : Int)
          ·
           rw [if_pos c16] at H; have c16b0 : decide (0 < (t148.length : Int)) = true := decide_eq_true c16; have c16b1 : decide (0 < t148.length) = true := decide_eq_true (by omega); clear c16; have HRET := Aside0.mk (Option.some.inj H); clear H
           go_enter Try.func21, Try.ntmps21
           go_wp2_with (first | ((with_reducible refine gate_callee (f := 31) rfl ?_); refine goesL_ (some 12) rfl rfl Try.func31 (by kernel_rfl) rfl #[] rfl (by (try simp only [List.map_toArray, List.map_cons, List.map_nil]); first | done | rfl | (simp only [List.length_drop, List.length_take]; rfl)) ?_; (with_reducible refine (hand_New.calls  t130 _ A1.out).mono ?_); rintro e w17 ⟨v131, rfl, ho0, hb⟩; refine ⟨_, rfl, ?_⟩; have n0_ := Aside0.mk (Kd.R_lower ho0 (below_size (by repeat (first | (with_reducible first | exact HB.out | apply wA | apply wN | apply wD) | exact HB.out)))); have n1_ := Aside0.mk (below_step (by repeat (first | (with_reducible first | exact HB.out | apply wA | apply wN | apply wD) | exact HB.out)) hb); clear HB; have HO132 := n0_; have HB := n1_; clear n0_ n1_; (try clear hb); (try clear hb2); (try clear hk); (try clear hi); (try clear ho0); obtain ⟨Ao18, co18, eo18⟩ := Kd.R_slice HO132.out; subst eo18) | ((with_reducible refine gate_callee (f := 22) rfl ?_); refine goesL_ (some 13) rfl rfl Try.func22 (by kernel_rfl) rfl #[.slice Ao18 t130.length co18, .int .i64 3] rfl (by (try simp only [List.map_toArray, List.map_cons, List.map_nil]); first | done | rfl | (simp only [List.length_drop, List.length_take]; rfl)) ?_; (with_reducible refine (hand_Open.calls k _ _ t130 3 t133 t134 t135 _ ?side1 ?side2 A2.out).mono ?_); (case side1 => repeat (first | exact (Kd.R_reads' HO132.out).2.2 | (with_reducible refine Kd.C_alloc ?_ _) | (with_reducible refine Kd.C_drewN ?_ _) | (with_reducible refine Kd.C_drew ?_))); (case side2 => exact (Kd.R_reads' HO132.out).2.1); rintro e w19 ⟨v136, rfl, ho0, hb⟩; refine ⟨_, rfl, ?_⟩; have n0_ := Aside0.mk (Kd.R_elder' (by (with_reducible repeat (first | apply Kd.R_alloc | apply Kd.R_drewN | apply Kd.R_drew)); exact HO132.out) (Kd.R_base ho0) hb); have n1_ := Aside0.mk (Kd.R_lower (Kd.R_new' ho0 (Kd.R_lt (by (with_reducible repeat (first | apply Kd.R_alloc | apply Kd.R_drewN | apply Kd.R_drew)); exact HO132.out))) (below_size (by repeat (first | (with_reducible first | exact HB.out | apply wA | apply wN | apply wD) | exact HB.out)))); have n2_ := Aside0.mk (below_step (by repeat (first | (with_reducible first | exact HB.out | apply wA | apply wN | apply wD) | exact HB.out)) hb); clear HO132; clear HB; have HO132 := n0_; have HO137 := n1_; have HB := n2_; clear n0_ n1_ n2_; (try clear hb); (try clear hb2); (try clear hk); (try clear hi); (try clear ho0); obtain ⟨Ao20, co20, eo20⟩ := Kd.R_slice HO137.out; subst eo20) | ((with_reducible refine gate_callee (f := 22) rfl ?_); refine goesL_ (some 19) rfl rfl Try.func22 (by kernel_rfl) rfl #[.slice Ao20 t133.length co20, .int .i64 3] rfl (by (try simp only [List.map_toArray, List.map_cons, List.map_nil]); first | done | rfl | (simp only [List.length_drop, List.length_take]; rfl)) ?_; (with_reducible refine (hand_Open.calls k _ _ t133 3 t138 t139 t140 _ ?side1 ?side2 A3.out).mono ?_); (case side1 => repeat (first | exact (Kd.R_reads' HO137.out).2.2 | (with_reducible refine Kd.C_alloc ?_ _) | (with_reducible refine Kd.C_drewN ?_ _) | (with_reducible refine Kd.C_drew ?_))); (case side2 => exact (Kd.R_reads' HO137.out).2.1); rintro e w21 ⟨v141, rfl, ho0, hb⟩; refine ⟨_, rfl, ?_⟩; have n0_ := Aside0.mk (Kd.R_elder' (by (with_reducible repeat (first | apply Kd.R_alloc | apply Kd.R_drewN | apply Kd.R_drew)); exact HO132.out) (Kd.R_base ho0) hb); have n1_ := Aside0.mk (Kd.R_elder' (by (with_reducible repeat (first | apply Kd.R_alloc | apply Kd.R_drewN | apply Kd.R_drew)); exact HO137.out) (Kd.R_base ho0) hb); have n2_ := Aside0.mk (Kd.R_lower (Kd.R_new' (Kd.R_new' ho0 (Kd.R_lt (by (with_reducible repeat (first | apply Kd.R_alloc | apply Kd.R_drewN | apply Kd.R_drew)); exact HO132.out))) (Kd.R_lt (by (with_reducible repeat (first | apply Kd.R_alloc | apply Kd.R_drewN | apply Kd.R_drew)); exact HO137.out))) (below_size (by repeat (first | (with_reducible first | exact HB.out | apply wA | apply wN | apply wD) | exact HB.out)))); have n3_ := Aside0.mk (below_step (by repeat (first | (with_reducible first | exact HB.out | apply wA | apply wN | apply wD) | exact HB.out)) hb); clear HO132; clear HO137; clear HB; have HO132 := n0_; have HO137 := n1_; have HO142 := n2_; have HB := n3_; clear n0_ n1_ n2_ n3_; (try clear hb); (try clear hb2); (try clear hk); (try clear hi); (try clear ho0); obtain ⟨Ao22, co22, eo22⟩ := Kd.R_slice HO142.out; subst eo22) | ((with_reducible refine gate_callee (f := 24) rfl ?_); refine goesL_ (some 25) rfl rfl Try.func24 (by kernel_rfl) rfl #[.slice Ao22 t138.length co22, .int .i64 0] rfl (by (try simp only [List.map_toArray, List.map_cons, List.map_nil]); first | done | rfl | (simp only [List.length_drop, List.length_take]; rfl)) ?_; (with_reducible refine (hand_Close.calls _ _ t138 0 t143 t144 t145 _ ?side1 ?side2 A4.out).mono ?_); (case side1 => repeat (first | exact (Kd.R_reads' HO142.out).2.2 | (with_reducible refine Kd.C_alloc ?_ _) | (with_reducible refine Kd.C_drewN ?_ _) | (with_reducible refine Kd.C_drew ?_))); (case side2 => exact (Kd.R_reads' HO142.out).2.1); rintro e w23 ⟨v146, rfl, ho0, hb⟩; refine ⟨_, rfl, ?_⟩; have n0_ := Aside0.mk (Kd.R_elder' (by (with_reducible repeat (first | apply Kd.R_alloc | apply Kd.R_drewN | apply Kd.R_drew)); exact HO132.out) (Kd.R_base ho0) hb); have n1_ := Aside0.mk (Kd.R_elder' (by (with_reducible repeat (first | apply Kd.R_alloc | apply Kd.R_drewN | apply Kd.R_drew)); exact HO137.out) (Kd.R_base ho0) hb); have n2_ := Aside0.mk (Kd.R_elder' (by (with_reducible repeat (first | apply Kd.R_alloc | apply Kd.R_drewN | apply Kd.R_drew)); exact HO142.out) (Kd.R_base ho0) hb); have n3_ := Aside0.mk (Kd.R_lower (Kd.R_new' (Kd.R_new' (Kd.R_new' ho0 (Kd.R_lt (by (with_reducible repeat (first | apply Kd.R_alloc | apply Kd.R_drewN | apply Kd.R_drew)); exact HO132.out))) (Kd.R_lt (by (with_reducible repeat (first | apply Kd.R_alloc | apply Kd.R_drewN | apply Kd.R_drew)); exact HO137.out))) (Kd.R_lt (by (with_reducible repeat (first | apply Kd.R_alloc | apply Kd.R_drewN | apply Kd.R_drew)); exact HO142.out))) (below_size (by repeat (first | (with_reducible first | exact HB.out | apply wA | apply wN | apply wD) | exact HB.out)))); have n4_ := Aside0.mk (below_step (by repeat (first | (with_reducible first | exact HB.out | apply wA | apply wN | apply wD) | exact HB.out)) hb); clear HO132; clear HO137; clear HO142; clear HB; have HO132 := n0_; have HO137 := n1_; have HO142 := n2_; have HO147 := n3_; have HB := n4_; clear n0_ n1_ n2_ n3_ n4_; (try clear hb); (try clear hb2); (try clear hk); (try clear hi); (try clear ho0); obtain ⟨Ao24, co24, eo24⟩ := Kd.R_slice HO147.out; subst eo24) | ((with_reducible refine gate_callee (f := 28) rfl ?_); refine goesL_ (some 30) rfl rfl Try.func28 (by kernel_rfl) rfl #[.slice Ao24 t143.length co24] rfl (by (try simp only [List.map_toArray, List.map_cons, List.map_nil]); first | done | rfl | (simp only [List.length_drop, List.length_take]; rfl)) ?_; (with_reducible refine (hand_Held.calls k _ _ t143 t148 _ ?side1 ?side2 A5.out).mono ?_); (case side1 => repeat (first | exact (Kd.R_reads' HO147.out).2.2 | (with_reducible refine Kd.C_alloc ?_ _) | (with_reducible refine Kd.C_drewN ?_ _) | (with_reducible refine Kd.C_drew ?_))); (case side2 => exact (Kd.R_reads' HO147.out).2.1); rintro e w25 ⟨v149, rfl, ho0, hb⟩; refine ⟨_, rfl, ?_⟩; have n0_ := Aside0.mk (Kd.R_below (by (with_reducible repeat (first | apply Kd.R_alloc | apply Kd.R_drewN | apply Kd.R_drew)); exact HO132.out) hb); have n1_ := Aside0.mk (Kd.R_below (by (with_reducible repeat (first | apply Kd.R_alloc | apply Kd.R_drewN | apply Kd.R_drew)); exact HO137.out) hb); have n2_ := Aside0.mk (Kd.R_below (by (with_reducible repeat (first | apply Kd.R_alloc | apply Kd.R_drewN | apply Kd.R_drew)); exact HO142.out) hb); have n3_ := Aside0.mk (Kd.R_below (by (with_reducible repeat (first | apply Kd.R_alloc | apply Kd.R_drewN | apply Kd.R_drew)); exact HO147.out) hb); have n4_ := Aside0.mk (Kd.R_lower ho0 (below_size (by repeat (first | (with_reducible first | exact HB.out | apply wA | apply wN | apply wD) | exact HB.out)))); have n5_ := Aside0.mk (below_step (by repeat (first | (with_reducible first | exact HB.out | apply wA | apply wN | apply wD) | exact HB.out)) hb); clear HO132; clear HO137; clear HO142; clear HO147; clear HB; have HO132 := n0_; have HO137 := n1_; have HO142 := n2_; have HO147 := n3_; have HO150 := n4_; have HB := n5_; clear n0_ n1_ n2_ n3_ n4_ n5_; (try clear hb); (try clear hb2); (try clear hk); (try clear hi); (try clear ho0); obtain ⟨Ao26, co26, eo26⟩ := Kd.R_slice HO150.out; subst eo26; have p151 : 0 ≤ (3 : Int) := (by omega); have q151 : 3 < (t148.length : Int) := of_decide_eq_true (by first | (with_reducible assumption) | assumption); obtain ⟨ad151, e151, hx151_0⟩ := Kd.at_bool (Kd.R_reads' HO150.out).2.2 3 p151 q151; (try rw [← Nbq14.out] at hx151_0); cases e151; (try simp only [show (3 : Int).toNat = 3 from rfl, Nat.reduceMul, Nat.reduceEqDiff, Go.Addr.add, ↓reduceIte] at hx151_0); have qi151 : (3 < t148.length) = True := eq_true (by omega); (try rw [show ((3 : Int)).toNat = 3 from rfl] at hx151_0); replace p151 := eq_true p151; replace q151 := eq_true q151; have p152 : 0 ≤ (0 : Int) := (by omega); have q152 : 0 < (t148.length : Int) := of_decide_eq_true (by first | (with_reducible assumption) | assumption); obtain ⟨ad152, e152, hx152_0⟩ := Kd.at_bool (Kd.R_reads' HO150.out).2.2 0 p152 q152; (try rw [← Nbq14.out] at hx152_0); obtain rfl : ad151 = ad152 := (by injection e152); have qi152 : (0 < t148.length) = True := eq_true (by omega); (try rw [show ((0 : Int)).toNat = 0 from rfl] at hx152_0); (try rw [Addr.add_zero'] at hx152_0); replace p152 := eq_true p152; replace q152 := eq_true q152))
           go_ret
           exact ⟨by first | rfl | exact congrArg (fun b_ => Ending.returned (Value.bool b_)) HRET.out | (rw [HRET.out]) | (simp [errW_none, errW_some] <;> rfl) | (simp [*, errW_none, errW_some] <;> rfl), by repeat (first | (with_reducible first | exact HB.out | apply wA | apply wN | apply wD) | exact HB.out)⟩
          ·
           rw [if_neg c16] at H; exact absurd H (by simp)
         ·
          replace c15 := Bool.eq_false_iff.mpr c15; subst c15
          have H1 : (some false) = some true := by rw [if_neg (show ¬ (false = true) by decide)] at H; exact H
          clear H; have H := H1; clear H1; exact absurd H (by simp)
        ·
         rw [if_neg c13] at H; exact absurd H (by simp)
       ·
        rw [if_neg c12] at H; have c12b0 : ((t148.length : Int) == 12) = false := beq_eq_false_iff_ne.mpr c12; have c12b1 : ((t148.length : Int) != 12) = true := bne_iff_ne.mpr c12; exact absurd H (by simp)
      ·
       rw [if_neg c11] at H; have c11b0 : (t144 == 3) = false := beq_eq_false_iff_ne.mpr c11; have c11b1 : (t144 != 3) = true := bne_iff_ne.mpr c11; exact absurd H (by simp)
     ·
      rw [if_neg c10] at H; have c10b0 : (t145 == 0) = false := beq_eq_false_iff_ne.mpr c10; have c10b1 : (t145 != 0) = true := bne_iff_ne.mpr c10; exact absurd H (by simp)
    ·
     rw [if_neg c9] at H; have c9b0 : (t139 == 1) = false := beq_eq_false_iff_ne.mpr c9; have c9b1 : (t139 != 1) = true := bne_iff_ne.mpr c9; exact absurd H (by simp)
   ·
    rw [if_neg c8] at H; have c8b0 : (t140 == 0) = false := beq_eq_false_iff_ne.mpr c8; have c8b1 : (t140 != 0) = true := bne_iff_ne.mpr c8; exact absurd H (by simp)
  ·
   rw [if_neg c7] at H; have c7b0 : (t134 == 0) = false := beq_eq_false_iff_ne.mpr c7; have c7b1 : (t134 != 0) = true := bne_iff_ne.mpr c7; exact absurd H (by simp)
 ·
  rw [if_neg c6] at H; have c6b0 : (t135 == 0) = false := beq_eq_false_iff_ne.mpr c6; have c6b1 : (t135 != 0) = true := bne_iff_ne.mpr c6; exact absurd H (by simp)
theorem potsherdlaw21_awake.only (k : Nat) (r : Bool) (h : potsherdlaw21_awake.f k  = some r) : r = true := by
 have h1 : potsherdlaw21_awake.f 30 = some true := by decide +kernel
 have h2 := at_rounds potsherdlaw21_awake.mono (Nat.le_max_left k 30) h; have h3 := at_rounds potsherdlaw21_awake.mono (Nat.le_max_right k 30) h1; rw [h2] at h3; exact Option.some.inj h3
theorem potsherdlaw21_awake.calls (k : Nat) (r : Bool) (w : World) (h : potsherdlaw21_awake.f k  = some r) :
 Calls Try.prog 21 #[] w fun e w' => e = .returned (.bool r) ∧ Below w.heap.size w w' := by
 obtain rfl := potsherdlaw21_awake.only k r h; exact potsherdlaw21_awake.callsT k w h

/-! ### potsherdref12_mayHands: function 39 -/
def potsherdref12_mayHands.l0 : Nat → List Int → List Int → Int → Int → Option (Bool)
 | 0, _, _, _, _ => none
 | k + 1, x0, x5, x6, x7 => if x7 < x6 then (if 0 ≤ x7 then (if x7 < (x5.length : Int) then (if (rd x5 x7) < (-1) then (some false) else (if (rd x5 x7) ≥ 12 then (some false) else (potsherdref12_mayHands.l0 k x0 x5 x6 (wrap64 (x7 + 1))))) else (none)) else (none)) else (some ((x0.length : Int) == 4))
def potsherdref12_mayHands.f (k : Nat) (l0 : List Int) : Option (Bool) := potsherdref12_mayHands.l0 k l0 l0 (l0.length : Int) 0
theorem potsherdref12_mayHands.mono_l : ∀ k, (∀ y0 y1 y2 y3, LeO (potsherdref12_mayHands.l0 k y0 y1 y2 y3) (potsherdref12_mayHands.l0 (k + 1) y0 y1 y2 y3))
 | 0 => fun _ _ _ _ r h => by simp [potsherdref12_mayHands.l0] at h
 | k + 1 => by
  have ih0 := potsherdref12_mayHands.mono_l k
  ·
   intro y0 y1 y2 y3
   unfold potsherdref12_mayHands.l0
   repeat' first
   | (with_reducible exact ih0 _ _ _ _)
   | (with_reducible exact LeO.refl _)
   | (with_reducible exact LeO.none _)
   | (with_reducible refine LeO.ite ?_ ?_)
   | (with_reducible refine LeO.bind ?_ (fun _ => ?_))
   | exact ih0 _ _ _ _
   | exact LeO.none _
   | refine LeO.ite ?_ ?_
   | refine LeO.bind ?_ (fun _ => ?_)
theorem potsherdref12_mayHands.mono : ∀ a0 k, LeO (potsherdref12_mayHands.f k a0) (potsherdref12_mayHands.f (k + 1) a0) := by
 intro a0 k; have ih0 := potsherdref12_mayHands.mono_l k
 unfold potsherdref12_mayHands.f
 repeat' first
  | (with_reducible exact ih0 _ _ _ _)
  | (with_reducible exact LeO.refl _)
  | (with_reducible exact LeO.none _)
  | (with_reducible refine LeO.ite ?_ ?_)
  | (with_reducible refine LeO.bind ?_ (fun _ => ?_))
  | exact ih0 _ _ _ _
  | exact LeO.none _
  | refine LeO.ite ?_ ?_
  | refine LeO.bind ?_ (fun _ => ?_)
set_option maxHeartbeats 8000000 in
set_option maxRecDepth 100000 in
theorem potsherdref12_mayHands.calls (k : Nat) (A0 : Option Addr) (c0 : Nat) (l0 : List Int) (r : Bool) (w : World) (hr0 : Kd.C (Kd.int .i64) w A0 l0.length l0) (hc0 : l0.length ≤ c0) (h : potsherdref12_mayHands.f k l0 = some r) :
 Calls Try.prog 39 #[.slice A0 l0.length c0] w fun e w' => e = .returned (.bool r) ∧ Drawn0 w w' := by
 have HR0 := Aside0.mk hr0; have HC0 := Aside0.mk hc0; clear hr0 hc0; have H : (potsherdref12_mayHands.l0 k l0 l0 (l0.length : Int) 0) = some r := h; clear h; have H' := Aside0.mk H; clear H
 go_enter Try.func39, Try.ntmps39
 go_wp2
 go_loopg [7] k (fun kq v7 w' => ∃ (x7_1 : Int), v7 = .int .i64 x7_1 ∧ Aside0 (potsherdref12_mayHands.l0 kq l0 l0 (l0.length : Int) x7_1 = some r) ∧ Aside0 (kq ≤ k) ∧ Drawn0 w w')
 case atStart => exact ⟨(0), (by first | rfl | (simp; done) | (simp [*]; done)), H', ⟨Nat.le_refl _⟩, by repeat (first | exact Drawn0.refl _ | apply Drawn0.step)⟩
 case round =>
  clear H'; obtain ⟨x7_1, rfl, HA, HK1, ⟨m1, rfl⟩⟩ := hrel
  cases gk with
  | zero => exact absurd HA.out (by simp [potsherdref12_mayHands.l0])
  | succ k1 =>
   have H := HA.out; clear HA; simp only [potsherdref12_mayHands.l0] at H
   by_cases c2 : x7_1 < (l0.length : Int)
   ·
    rw [if_pos c2] at H; have c2b0 : decide (x7_1 < (l0.length : Int)) = true := decide_eq_true c2; clear c2
    by_cases c3 : 0 ≤ x7_1
    ·
     rw [if_pos c3] at H; have c3b0 : decide (0 ≤ x7_1) = true := decide_eq_true c3; clear c3
     by_cases c4 : x7_1 < (l0.length : Int)
     ·
      rw [if_pos c4] at H; have c4b0 : decide (x7_1 < (l0.length : Int)) = true := decide_eq_true c4; clear c4
      by_cases c5 : (rd l0 x7_1) < (-1)
      ·
       rw [if_pos c5] at H; have c5b0 : decide ((rd l0 x7_1) < (-1)) = true := decide_eq_true c5; clear c5; obtain rfl := Option.some.inj H; have p153 : 0 ≤ (x7_1 : Int) := of_decide_eq_true (by first | (with_reducible assumption) | assumption); have q153 : x7_1 < (l0.length : Int) := of_decide_eq_true (by first | (with_reducible assumption) | assumption); obtain ⟨ad153, e153, hx153_0⟩ := Kd.at_int HR0.out x7_1 p153 q153
       cases e153
       replace p153 := eq_true p153; replace q153 := eq_true q153
       go_wp2
       go_ret
       exact ⟨by first | rfl | (simp; done) | (simp [*]; done), by repeat (first | exact Drawn0.refl _ | apply Drawn0.step)⟩
      ·
       rw [if_neg c5] at H; have c5b0 : decide ((rd l0 x7_1) < (-1)) = false := decide_eq_false c5; clear c5
       by_cases c6 : (rd l0 x7_1) ≥ 12
       ·
        rw [if_pos c6] at H; have c6b0 : decide (12 ≤ (rd l0 x7_1)) = true := decide_eq_true c6; clear c6; obtain rfl := Option.some.inj H; have p153 : 0 ≤ (x7_1 : Int) := of_decide_eq_true (by first | (with_reducible assumption) | assumption); have q153 : x7_1 < (l0.length : Int) := of_decide_eq_true (by first | (with_reducible assumption) | assumption); obtain ⟨ad153, e153, hx153_0⟩ := Kd.at_int HR0.out x7_1 p153 q153
        cases e153
        replace p153 := eq_true p153; replace q153 := eq_true q153
        go_wp2
        go_ret
        exact ⟨by first | rfl | (simp; done) | (simp [*]; done), by repeat (first | exact Drawn0.refl _ | apply Drawn0.step)⟩
       ·
        rw [if_neg c6] at H; have c6b0 : decide (12 ≤ (rd l0 x7_1)) = false := decide_eq_false c6; clear c6; have H' := Aside0.mk H; clear H; have p153 : 0 ≤ (x7_1 : Int) := of_decide_eq_true (by first | (with_reducible assumption) | assumption); have q153 : x7_1 < (l0.length : Int) := of_decide_eq_true (by first | (with_reducible assumption) | assumption); obtain ⟨ad153, e153, hx153_0⟩ := Kd.at_int HR0.out x7_1 p153 q153
        cases e153
        replace p153 := eq_true p153; replace q153 := eq_true q153
        go_wp2
        go_roundg k1
        case measure => have := HK1.out; omega
        case rel => exact ⟨(wrap64 (x7_1 + 1)), (by first | rfl | (simp; done) | (simp [*]; done)), H', ⟨by have := HK1.out; omega⟩, by repeat (first | exact Drawn0.refl _ | apply Drawn0.step)⟩
     ·
      rw [if_neg c4] at H; exact absurd H (by simp)
    ·
     rw [if_neg c3] at H; exact absurd H (by simp)
   ·
    rw [if_neg c2] at H; have c2b0 : decide (x7_1 < (l0.length : Int)) = false := decide_eq_false c2; clear c2; obtain rfl := Option.some.inj H
    go_wp2
    go_ret
    exact ⟨by first | rfl | (simp; done) | (simp [*]; done), by repeat (first | exact Drawn0.refl _ | apply Drawn0.step)⟩

end Go.Proofs.Ytnjnmegjbcgajaa.PHand
