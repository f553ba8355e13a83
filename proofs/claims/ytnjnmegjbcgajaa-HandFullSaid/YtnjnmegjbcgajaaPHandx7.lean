/- The Go functions that these laws reach, each as a Lean function with the same answers (a law itself where it answers true), and the proof that the code comes to them; conditions: those of each theorem. Laid by a program of this session over the print. -/
import Derived.Test.YtnjnmegjbcgajaaPHandx0
import Derived.Test.YtnjnmegjbcgajaaPHandx1
import Derived.Test.YtnjnmegjbcgajaaPHandx2
import Derived.Test.YtnjnmegjbcgajaaPHandx3
namespace Go.Proofs.Ytnjnmegjbcgajaa.PHand
open Go.RowKit Go.Proofs.YtnjnmegjbcgajaaW.PrintWords Go.Proofs.YtnjnmegjbcgajaaW.PrintLast Go.Proofs.YtnjnmegjbcgajaaW.PrintMore
attribute [local go_sem] max2_int min2_int max_two min_two max_three min_three max_four min_four   -- for this text's walks alone
set_option linter.unusedVariables false
set_option linter.unusedSimpArgs false
open Go.Proofs.YtnjnmegjbcgajaaW.PrintWords renaming blk_drewN → bN, blk_drew → bD, blk_alloc → bA, below_set → wS, below_alloc → wA, pw_below_drewN → wN, below_drew1 → wD, blk_below → bB, blk_far → bF, blk_cell → bC, blk_frozen → bZ
open List renaming setIfInBounds_toArray → lT, set_cons_zero → l0_, set_cons_succ → lS

/-! ### potsherdlaw21_HandFull: function 9 -/
def potsherdlaw21_HandFull.l0 : Nat → Int → Int → List Int → Int → Option (Bool)
 | 0, _, _, _, _ => none
 | k + 1, x0, x1, x5, x30 => if x30 < 4 then ((hand_Open.f k x5 x0).bind fun bt226 => (if bt226.2.2 = 0 then (if bt226.2.1 = x30 then (potsherdlaw21_HandFull.l0 k x0 x1 bt226.1 (wrap64 (x30 + 1))) else (some false)) else (some false))) else ((hand_Open.f k x5 x0).bind fun bt231 => ((hand_Close.f x5 x1).bind fun bt236 => ((hand_Of.f bt236.1 x1).bind fun bt241 => ((hand_Open.f k bt236.1 0).bind fun bt243 => (if bt231.2.2 = 15 then (if bt236.2.2 = 0 then (if bt236.2.1 = x0 then (if bt241.2 = 15 then (if bt243.2.2 = 0 then (if bt243.2.1 = x1 then ((potsherdlaw21_awake.f k).bind fun t248 => (some t248)) else (some false)) else (some false)) else (some false)) else (some false)) else (some false)) else (some false))))))
def potsherdlaw21_HandFull.f (k : Nat) (a0 : Int) (a1 : Int) : Option (Bool) := (hand_New.f).bind fun t223 => (potsherdlaw21_HandFull.l0 k (wrap64 (Int.tmod (IntKind.u64.wrap (a0)) 12)) (wrap64 (Int.tmod (IntKind.u64.wrap (a1)) 4)) t223 0)
theorem potsherdlaw21_HandFull.mono_l : ∀ k, (∀ y0 y1 y2 y3, LeO (potsherdlaw21_HandFull.l0 k y0 y1 y2 y3) (potsherdlaw21_HandFull.l0 (k + 1) y0 y1 y2 y3))
 | 0 => fun _ _ _ _ r h => by simp [potsherdlaw21_HandFull.l0] at h
 | k + 1 => by
  have ih0 := potsherdlaw21_HandFull.mono_l k
  ·
   intro y0 y1 y2 y3
   unfold potsherdlaw21_HandFull.l0
   repeat' first
   | (with_reducible exact ih0 _ _ _ _)
   | (with_reducible exact hand_Open.mono _ _ _)
   | (with_reducible exact potsherdlaw21_awake.mono _)
   | (with_reducible exact LeO.refl _)
   | (with_reducible exact LeO.none _)
   | (with_reducible refine LeO.ite ?_ ?_)
   | (with_reducible refine LeO.bind ?_ (fun _ => ?_))
   | exact ih0 _ _ _ _
   | exact hand_Open.mono _ _ _
   | exact potsherdlaw21_awake.mono _
   | exact LeO.none _
   | refine LeO.ite ?_ ?_
   | refine LeO.bind ?_ (fun _ => ?_)
theorem potsherdlaw21_HandFull.mono : ∀ a0 a1 k, LeO (potsherdlaw21_HandFull.f k a0 a1) (potsherdlaw21_HandFull.f (k + 1) a0 a1) := by
 intro a0 a1 k; have ih0 := potsherdlaw21_HandFull.mono_l k
 unfold potsherdlaw21_HandFull.f
 repeat' first
  | (with_reducible exact ih0 _ _ _ _)
  | (with_reducible exact hand_Open.mono _ _ _)
  | (with_reducible exact potsherdlaw21_awake.mono _)
  | (with_reducible exact LeO.refl _)
  | (with_reducible exact LeO.none _)
  | (with_reducible refine LeO.ite ?_ ?_)
  | (with_reducible refine LeO.bind ?_ (fun _ => ?_))
  | exact ih0 _ _ _ _
  | exact hand_Open.mono _ _ _
  | exact potsherdlaw21_awake.mono _
  | exact LeO.none _
  | refine LeO.ite ?_ ?_
  | refine LeO.bind ?_ (fun _ => ?_)
set_option maxHeartbeats 8000000 in
set_option maxRecDepth 100000 in
theorem potsherdlaw21_HandFull.calls (k : Nat) (a0 : Int) (a1 : Int) (w : World) (h : potsherdlaw21_HandFull.f k a0 a1 = some true) :
 Calls Try.prog 9 #[.int .i64 a0, .int .i64 a1] w fun e w' => e = .returned (.bool true) ∧ Below w.heap.size w w' := by
 have HB := Aside0.mk (Below.refl w.heap.size w); have H : ((hand_New.f).bind fun t223 => (potsherdlaw21_HandFull.l0 k (wrap64 (Int.tmod (IntKind.u64.wrap (a0)) 12)) (wrap64 (Int.tmod (IntKind.u64.wrap (a1)) 4)) t223 0)) = some true := h; clear h; replace H := Option.bind_eq_some_iff.mp H; obtain ⟨t223, A30, H⟩ := H; replace H : (potsherdlaw21_HandFull.l0 k (wrap64 (Int.tmod (IntKind.u64.wrap (a0)) 12)) (wrap64 (Int.tmod (IntKind.u64.wrap (a1)) 4)) t223 0) = some true := H; have A3 := Aside0.mk A30; clear A30; have H' := Aside0.mk H; clear H
 go_enter Try.func9, Try.ntmps9
 go_wp2_with (first | ((with_reducible refine gate_callee (f := 31) rfl ?_); refine goesL_ (some 29) rfl rfl Try.func31 (by kernel_rfl) rfl #[] rfl (by (try simp only [List.map_toArray, List.map_cons, List.map_nil]); first | done | rfl | (simp only [List.length_drop, List.length_take]; rfl)) ?_; (with_reducible refine (hand_New.calls  t223 _ A3.out).mono ?_); rintro e w4 ⟨v224, rfl, ho0, hb⟩; refine ⟨_, rfl, ?_⟩; have n0_ := Aside0.mk (Kd.R_lower ho0 (below_size (by repeat (first | (with_reducible first | exact HB.out | apply wA | apply wN | apply wD) | exact HB.out)))); have n1_ := Aside0.mk (below_step (by repeat (first | (with_reducible first | exact HB.out | apply wA | apply wN | apply wD) | exact HB.out)) hb); clear HB; have HO225 := n0_; have HB := n1_; clear n0_ n1_; (try clear hb); (try clear hb2); (try clear hk); (try clear hi); (try clear ho0)))
 go_loopg [5, 30] k (fun kq v5 v30 w' => ∃ (x5_1 : List Int) (x30_1 : Int), v30 = .int .i64 x30_1 ∧ Aside0 (potsherdlaw21_HandFull.l0 kq (wrap64 (Int.tmod (IntKind.u64.wrap (a0)) 12)) (wrap64 (Int.tmod (IntKind.u64.wrap (a1)) 4)) x5_1 x30_1 = some true) ∧ Aside0 (kq ≤ k) ∧ Aside0 (Kd.R (Kd.int .i64) 3 w' w.heap.size (fun _ => True) v5 x5_1) ∧ Aside0 (Below w.heap.size w w'))
 case atStart => exact ⟨(t223), (0), (by first | rfl | (simp; done) | (simp [*]; done)), H', ⟨Nat.le_refl _⟩, ⟨by (with_reducible repeat (first | apply Kd.R_alloc | apply Kd.R_drewN | apply Kd.R_drew)); exact HO225.out⟩, ⟨by repeat (first | (with_reducible first | exact HB.out | apply wA | apply wN | apply wD) | exact HB.out)⟩⟩
 case round =>
  clear H'
  try clear p2
  try clear c3
  obtain ⟨x5_1, x30_1, rfl, HA, HK1, HO_5, HB⟩ := hrel
  cases gk with
  | zero => exact absurd HA.out (by simp [potsherdlaw21_HandFull.l0])
  | succ k1 =>
   have H := HA.out; clear HA; simp only [potsherdlaw21_HandFull.l0] at H
   by_cases c5 : x30_1 < 4
   ·
    rw [if_pos c5] at H; have c5b0 : decide (x30_1 < 4) = true := decide_eq_true c5; clear c5; replace H := Option.bind_eq_some_iff.mp H; obtain ⟨⟨t226, t227, t228⟩, A60, H⟩ := H; replace H : (if t228 = 0 then (if t227 = x30_1 then (potsherdlaw21_HandFull.l0 k1 (wrap64 (Int.tmod (IntKind.u64.wrap (a0)) 12)) (wrap64 (Int.tmod (IntKind.u64.wrap (a1)) 4)) t226 (wrap64 (x30_1 + 1))) else (some false)) else (some false)) = some true := H; have A6 := Aside0.mk A60; clear A60
    by_cases c7 : t228 = 0
    ·
     rw [if_pos c7] at H; have c7b0 : (t228 == 0) = true := beq_iff_eq.mpr c7; have c7b1 : (t228 != 0) = false := bne_eq_false_iff_eq.mpr c7; clear c7
     by_cases c8 : t227 = x30_1
     ·
      rw [if_pos c8] at H; have c8b0 : (t227 == x30_1) = true := beq_iff_eq.mpr c8; have c8b1 : (t227 != x30_1) = false := bne_eq_false_iff_eq.mpr c8; clear c8; have H' := Aside0.mk H; clear H; obtain ⟨Ao9, co9, eo9⟩ := Kd.R_slice HO_5.out; subst eo9
      go_wp2_with (first | ((with_reducible refine gate_callee (f := 22) rfl ?_); refine goesL_ (some 36) rfl rfl Try.func22 (by kernel_rfl) rfl #[.slice Ao9 x5_1.length co9, .int .i64 (wrap64 (Int.tmod (IntKind.u64.wrap (a0)) 12))] rfl (by (try simp only [List.map_toArray, List.map_cons, List.map_nil]); first | done | rfl | (simp only [List.length_drop, List.length_take]; rfl)) ?_; (with_reducible refine (hand_Open.calls k1 _ _ x5_1 (wrap64 (Int.tmod (IntKind.u64.wrap (a0)) 12)) t226 t227 t228 _ ?side1 ?side2 A6.out).mono ?_); (case side1 => repeat (first | exact (Kd.R_reads' HO_5.out).2.2 | (with_reducible refine Kd.C_alloc ?_ _) | (with_reducible refine Kd.C_drewN ?_ _) | (with_reducible refine Kd.C_drew ?_))); (case side2 => exact (Kd.R_reads' HO_5.out).2.1); rintro e w10 ⟨v229, rfl, ho0, hb⟩; refine ⟨_, rfl, ?_⟩; have n0_ := Aside0.mk (Kd.R_elder' (by (with_reducible repeat (first | apply Kd.R_alloc | apply Kd.R_drewN | apply Kd.R_drew)); exact HO_5.out) (Kd.R_base ho0) hb); have n1_ := Aside0.mk (Kd.R_lower (Kd.R_new' ho0 (Kd.R_lt (by (with_reducible repeat (first | apply Kd.R_alloc | apply Kd.R_drewN | apply Kd.R_drew)); exact HO_5.out))) (below_size (by repeat (first | (with_reducible first | exact HB.out | apply wA | apply wN | apply wD) | exact HB.out)))); have n2_ := Aside0.mk (below_step (by repeat (first | (with_reducible first | exact HB.out | apply wA | apply wN | apply wD) | exact HB.out)) hb); clear HO_5; clear HB; have HO_5 := n0_; have HO230 := n1_; have HB := n2_; clear n0_ n1_ n2_; (try clear hb); (try clear hb2); (try clear hk); (try clear hi); (try clear ho0)))
      go_roundg k1
      case measure => have := HK1.out; omega
      case rel => exact ⟨(t226), (wrap64 (x30_1 + 1)), (by first | rfl | (simp; done) | (simp [*]; done)), H', ⟨by have := HK1.out; omega⟩, ⟨by (with_reducible repeat (first | apply Kd.R_alloc | apply Kd.R_drewN | apply Kd.R_drew)); exact Kd.R_mono HO230.out (fun _ hk => trivial)⟩, ⟨by repeat (first | (with_reducible first | exact HB.out | apply wA | apply wN | apply wD) | exact HB.out)⟩⟩
     ·
      rw [if_neg c8] at H; have c8b0 : (t227 == x30_1) = false := beq_eq_false_iff_ne.mpr c8; have c8b1 : (t227 != x30_1) = true := bne_iff_ne.mpr c8; exact absurd H (by simp)
    ·
     rw [if_neg c7] at H; have c7b0 : (t228 == 0) = false := beq_eq_false_iff_ne.mpr c7; have c7b1 : (t228 != 0) = true := bne_iff_ne.mpr c7; exact absurd H (by simp)
   ·
    rw [if_neg c5] at H; have c5b0 : decide (x30_1 < 4) = false := decide_eq_false c5; clear c5; replace H := Option.bind_eq_some_iff.mp H; obtain ⟨⟨t231, t232, t233⟩, A110, H⟩ := H; replace H : ((hand_Close.f x5_1 (wrap64 (Int.tmod (IntKind.u64.wrap (a1)) 4))).bind fun bt236 => ((hand_Of.f bt236.1 (wrap64 (Int.tmod (IntKind.u64.wrap (a1)) 4))).bind fun bt241 => ((hand_Open.f k1 bt236.1 0).bind fun bt243 => (if t233 = 15 then (if bt236.2.2 = 0 then (if bt236.2.1 = (wrap64 (Int.tmod (IntKind.u64.wrap (a0)) 12)) then (if bt241.2 = 15 then (if bt243.2.2 = 0 then (if bt243.2.1 = (wrap64 (Int.tmod (IntKind.u64.wrap (a1)) 4)) then ((potsherdlaw21_awake.f k1).bind fun t248 => (some t248)) else (some false)) else (some false)) else (some false)) else (some false)) else (some false)) else (some false))))) = some true := H; have A11 := Aside0.mk A110; clear A110; replace H := Option.bind_eq_some_iff.mp H; obtain ⟨⟨t236, t237, t238⟩, A120, H⟩ := H; replace H : ((hand_Of.f t236 (wrap64 (Int.tmod (IntKind.u64.wrap (a1)) 4))).bind fun bt241 => ((hand_Open.f k1 t236 0).bind fun bt243 => (if t233 = 15 then (if t238 = 0 then (if t237 = (wrap64 (Int.tmod (IntKind.u64.wrap (a0)) 12)) then (if bt241.2 = 15 then (if bt243.2.2 = 0 then (if bt243.2.1 = (wrap64 (Int.tmod (IntKind.u64.wrap (a1)) 4)) then ((potsherdlaw21_awake.f k1).bind fun t248 => (some t248)) else (some false)) else (some false)) else (some false)) else (some false)) else (some false)) else (some false)))) = some true := H; have A12 := Aside0.mk A120; clear A120; replace H := Option.bind_eq_some_iff.mp H; obtain ⟨⟨t241, t242⟩, A130, H⟩ := H; replace H : ((hand_Open.f k1 t236 0).bind fun bt243 => (if t233 = 15 then (if t238 = 0 then (if t237 = (wrap64 (Int.tmod (IntKind.u64.wrap (a0)) 12)) then (if t242 = 15 then (if bt243.2.2 = 0 then (if bt243.2.1 = (wrap64 (Int.tmod (IntKind.u64.wrap (a1)) 4)) then ((potsherdlaw21_awake.f k1).bind fun t248 => (some t248)) else (some false)) else (some false)) else (some false)) else (some false)) else (some false)) else (some false))) = some true := H; have A13 := Aside0.mk A130; clear A130; replace H := Option.bind_eq_some_iff.mp H; obtain ⟨⟨t243, t244, t245⟩, A140, H⟩ := H; replace H : (if t233 = 15 then (if t238 = 0 then (if t237 = (wrap64 (Int.tmod (IntKind.u64.wrap (a0)) 12)) then (if t242 = 15 then (if t245 = 0 then (if t244 = (wrap64 (Int.tmod (IntKind.u64.wrap (a1)) 4)) then ((potsherdlaw21_awake.f k1).bind fun t248 => (some t248)) else (some false)) else (some false)) else (some false)) else (some false)) else (some false)) else (some false)) = some true := H; have A14 := Aside0.mk A140; clear A140
    by_cases c15 : t233 = 15
    ·
     rw [if_pos c15] at H; have c15b0 : (t233 == 15) = true := beq_iff_eq.mpr c15; have c15b1 : (t233 != 15) = false := bne_eq_false_iff_eq.mpr c15; clear c15
     by_cases c16 : t238 = 0
     ·
      rw [if_pos c16] at H; have c16b0 : (t238 == 0) = true := beq_iff_eq.mpr c16; have c16b1 : (t238 != 0) = false := bne_eq_false_iff_eq.mpr c16; clear c16
      by_cases c17 : t237 = (wrap64 (Int.tmod (IntKind.u64.wrap (a0)) 12))
      ·
       rw [if_pos c17] at H; have c17b0 : (t237 == (wrap64 (Int.tmod (IntKind.u64.wrap (a0)) 12))) = true := beq_iff_eq.mpr c17; have c17b1 : (t237 != (wrap64 (Int.tmod (IntKind.u64.wrap (a0)) 12))) = false := bne_eq_false_iff_eq.mpr c17; clear c17
       by_cases c18 : t242 = 15
       ·
        rw [if_pos c18] at H; have c18b0 : (t242 == 15) = true := beq_iff_eq.mpr c18; have c18b1 : (t242 != 15) = false := bne_eq_false_iff_eq.mpr c18; clear c18
        by_cases c19 : t245 = 0
        ·
         rw [if_pos c19] at H; have c19b0 : (t245 == 0) = true := beq_iff_eq.mpr c19; have c19b1 : (t245 != 0) = false := bne_eq_false_iff_eq.mpr c19; clear c19
         by_cases c20 : t244 = (wrap64 (Int.tmod (IntKind.u64.wrap (a1)) 4))
         ·
          rw [if_pos c20] at H; have c20b0 : (t244 == (wrap64 (Int.tmod (IntKind.u64.wrap (a1)) 4))) = true := beq_iff_eq.mpr c20; have c20b1 : (t244 != (wrap64 (Int.tmod (IntKind.u64.wrap (a1)) 4))) = false := bne_eq_false_iff_eq.mpr c20; clear c20; replace H := Option.bind_eq_some_iff.mp H; obtain ⟨t248, A210, H⟩ := H; replace H : (some t248) = some true := H; have A21 := Aside0.mk A210; clear A210; have HRET := Aside0.mk (Option.some.inj H); clear H; obtain ⟨Ao22, co22, eo22⟩ := Kd.R_slice HO_5.out; subst eo22
          go_wp2_with (first | ((with_reducible refine gate_callee (f := 22) rfl ?_); refine goesL_ (some 52) rfl rfl Try.func22 (by kernel_rfl) rfl #[.slice Ao22 x5_1.length co22, .int .i64 (wrap64 (Int.tmod (IntKind.u64.wrap (a0)) 12))] rfl (by (try simp only [List.map_toArray, List.map_cons, List.map_nil]); first | done | rfl | (simp only [List.length_drop, List.length_take]; rfl)) ?_; (with_reducible refine (hand_Open.calls k1 _ _ x5_1 (wrap64 (Int.tmod (IntKind.u64.wrap (a0)) 12)) t231 t232 t233 _ ?side1 ?side2 A11.out).mono ?_); (case side1 => repeat (first | exact (Kd.R_reads' HO_5.out).2.2 | (with_reducible refine Kd.C_alloc ?_ _) | (with_reducible refine Kd.C_drewN ?_ _) | (with_reducible refine Kd.C_drew ?_))); (case side2 => exact (Kd.R_reads' HO_5.out).2.1); rintro e w23 ⟨v234, rfl, ho0, hb⟩; refine ⟨_, rfl, ?_⟩; have n0_ := Aside0.mk (Kd.R_elder' (by (with_reducible repeat (first | apply Kd.R_alloc | apply Kd.R_drewN | apply Kd.R_drew)); exact HO_5.out) (Kd.R_base ho0) hb); have n1_ := Aside0.mk (Kd.R_lower (Kd.R_new' ho0 (Kd.R_lt (by (with_reducible repeat (first | apply Kd.R_alloc | apply Kd.R_drewN | apply Kd.R_drew)); exact HO_5.out))) (below_size (by repeat (first | (with_reducible first | exact HB.out | apply wA | apply wN | apply wD) | exact HB.out)))); have n2_ := Aside0.mk (below_step (by repeat (first | (with_reducible first | exact HB.out | apply wA | apply wN | apply wD) | exact HB.out)) hb); clear HO_5; clear HB; have HO_5 := n0_; have HO235 := n1_; have HB := n2_; clear n0_ n1_ n2_; (try clear hb); (try clear hb2); (try clear hk); (try clear hi); (try clear ho0)) | ((with_reducible refine gate_callee (f := 24) rfl ?_); refine goesL_ (some 59) rfl rfl Try.func24 (by kernel_rfl) rfl #[.slice Ao22 x5_1.length co22, .int .i64 (wrap64 (Int.tmod (IntKind.u64.wrap (a1)) 4))] rfl (by (try simp only [List.map_toArray, List.map_cons, List.map_nil]); first | done | rfl | (simp only [List.length_drop, List.length_take]; rfl)) ?_; (with_reducible refine (hand_Close.calls _ _ x5_1 (wrap64 (Int.tmod (IntKind.u64.wrap (a1)) 4)) t236 t237 t238 _ ?side1 ?side2 A12.out).mono ?_); (case side1 => repeat (first | exact (Kd.R_reads' HO_5.out).2.2 | (with_reducible refine Kd.C_alloc ?_ _) | (with_reducible refine Kd.C_drewN ?_ _) | (with_reducible refine Kd.C_drew ?_))); (case side2 => exact (Kd.R_reads' HO_5.out).2.1); rintro e w24 ⟨v239, rfl, ho0, hb⟩; refine ⟨_, rfl, ?_⟩; have n0_ := Aside0.mk (Kd.R_elder' (by (with_reducible repeat (first | apply Kd.R_alloc | apply Kd.R_drewN | apply Kd.R_drew)); exact HO_5.out) (Kd.R_base ho0) hb); have n1_ := Aside0.mk (Kd.R_elder' (by (with_reducible repeat (first | apply Kd.R_alloc | apply Kd.R_drewN | apply Kd.R_drew)); exact HO235.out) (Kd.R_base ho0) hb); have n2_ := Aside0.mk (Kd.R_lower (Kd.R_new' (Kd.R_new' ho0 (Kd.R_lt (by (with_reducible repeat (first | apply Kd.R_alloc | apply Kd.R_drewN | apply Kd.R_drew)); exact HO_5.out))) (Kd.R_lt (by (with_reducible repeat (first | apply Kd.R_alloc | apply Kd.R_drewN | apply Kd.R_drew)); exact HO235.out))) (below_size (by repeat (first | (with_reducible first | exact HB.out | apply wA | apply wN | apply wD) | exact HB.out)))); have n3_ := Aside0.mk (below_step (by repeat (first | (with_reducible first | exact HB.out | apply wA | apply wN | apply wD) | exact HB.out)) hb); clear HO_5; clear HO235; clear HB; have HO_5 := n0_; have HO235 := n1_; have HO240 := n2_; have HB := n3_; clear n0_ n1_ n2_ n3_; (try clear hb); (try clear hb2); (try clear hk); (try clear hi); (try clear ho0); obtain ⟨Ao25, co25, eo25⟩ := Kd.R_slice HO240.out; subst eo25) | ((with_reducible refine gate_callee (f := 26) rfl ?_); refine goesL_ (some 66) rfl rfl Try.func26 (by kernel_rfl) rfl #[.slice Ao25 t236.length co25, .int .i64 (wrap64 (Int.tmod (IntKind.u64.wrap (a1)) 4))] rfl (by (try simp only [List.map_toArray, List.map_cons, List.map_nil]); first | done | rfl | (simp only [List.length_drop, List.length_take]; rfl)) ?_; (with_reducible refine (hand_Of.calls _ _ t236 (wrap64 (Int.tmod (IntKind.u64.wrap (a1)) 4)) t241 t242 _ ?side1 ?side2 A13.out).mono ?_); (case side1 => repeat (first | exact (Kd.R_reads' HO240.out).2.2 | (with_reducible refine Kd.C_alloc ?_ _) | (with_reducible refine Kd.C_drewN ?_ _) | (with_reducible refine Kd.C_drew ?_))); (case side2 => exact (Kd.R_reads' HO240.out).2.1); rintro e w26 ⟨rfl, hb⟩; refine ⟨_, rfl, ?_⟩; have n0_ := Aside0.mk (Kd.R_below (by (with_reducible repeat (first | apply Kd.R_alloc | apply Kd.R_drewN | apply Kd.R_drew)); exact HO_5.out) hb); have n1_ := Aside0.mk (Kd.R_below (by (with_reducible repeat (first | apply Kd.R_alloc | apply Kd.R_drewN | apply Kd.R_drew)); exact HO235.out) hb); have n2_ := Aside0.mk (Kd.R_below (by (with_reducible repeat (first | apply Kd.R_alloc | apply Kd.R_drewN | apply Kd.R_drew)); exact HO240.out) hb); have n3_ := Aside0.mk (below_step (by repeat (first | (with_reducible first | exact HB.out | apply wA | apply wN | apply wD) | exact HB.out)) hb); clear HO_5; clear HO235; clear HO240; clear HB; have HO_5 := n0_; have HO235 := n1_; have HO240 := n2_; have HB := n3_; clear n0_ n1_ n2_ n3_; (try clear hb); (try clear hb2); (try clear hk); (try clear hi)) | ((with_reducible refine gate_callee (f := 22) rfl ?_); refine goesL_ (some 71) rfl rfl Try.func22 (by kernel_rfl) rfl #[.slice Ao25 t236.length co25, .int .i64 0] rfl (by (try simp only [List.map_toArray, List.map_cons, List.map_nil]); first | done | rfl | (simp only [List.length_drop, List.length_take]; rfl)) ?_; (with_reducible refine (hand_Open.calls k1 _ _ t236 0 t243 t244 t245 _ ?side1 ?side2 A14.out).mono ?_); (case side1 => repeat (first | exact (Kd.R_reads' HO240.out).2.2 | (with_reducible refine Kd.C_alloc ?_ _) | (with_reducible refine Kd.C_drewN ?_ _) | (with_reducible refine Kd.C_drew ?_))); (case side2 => exact (Kd.R_reads' HO240.out).2.1); rintro e w27 ⟨v246, rfl, ho0, hb⟩; refine ⟨_, rfl, ?_⟩; have n0_ := Aside0.mk (Kd.R_elder' (by (with_reducible repeat (first | apply Kd.R_alloc | apply Kd.R_drewN | apply Kd.R_drew)); exact HO_5.out) (Kd.R_base ho0) hb); have n1_ := Aside0.mk (Kd.R_elder' (by (with_reducible repeat (first | apply Kd.R_alloc | apply Kd.R_drewN | apply Kd.R_drew)); exact HO235.out) (Kd.R_base ho0) hb); have n2_ := Aside0.mk (Kd.R_elder' (by (with_reducible repeat (first | apply Kd.R_alloc | apply Kd.R_drewN | apply Kd.R_drew)); exact HO240.out) (Kd.R_base ho0) hb); have n3_ := Aside0.mk (Kd.R_lower (Kd.R_new' (Kd.R_new' (Kd.R_new' ho0 (Kd.R_lt (by (with_reducible repeat (first | apply Kd.R_alloc | apply Kd.R_drewN | apply Kd.R_drew)); exact HO_5.out))) (Kd.R_lt (by (with_reducible repeat (first | apply Kd.R_alloc | apply Kd.R_drewN | apply Kd.R_drew)); exact HO235.out))) (Kd.R_lt (by (with_reducible repeat (first | apply Kd.R_alloc | apply Kd.R_drewN | apply Kd.R_drew)); exact HO240.out))) (below_size (by repeat (first | (with_reducible first | exact HB.out | apply wA | apply wN | apply wD) | exact HB.out)))); have n4_ := Aside0.mk (below_step (by repeat (first | (with_reducible first | exact HB.out | apply wA | apply wN | apply wD) | exact HB.out)) hb); clear HO_5; clear HO235; clear HO240; clear HB; have HO_5 := n0_; have HO235 := n1_; have HO240 := n2_; have HO247 := n3_; have HB := n4_; clear n0_ n1_ n2_ n3_ n4_; (try clear hb); (try clear hb2); (try clear hk); (try clear hi); (try clear ho0)) | (go_at_call 21; (with_reducible refine (potsherdlaw21_awake.calls k1  t248 _ A21.out).mono ?_); rintro e w28 ⟨rfl, hb⟩; have n0_ := Aside0.mk (Kd.R_below (by (with_reducible repeat (first | apply Kd.R_alloc | apply Kd.R_drewN | apply Kd.R_drew)); exact HO_5.out) hb); have n1_ := Aside0.mk (Kd.R_below (by (with_reducible repeat (first | apply Kd.R_alloc | apply Kd.R_drewN | apply Kd.R_drew)); exact HO235.out) hb); have n2_ := Aside0.mk (Kd.R_below (by (with_reducible repeat (first | apply Kd.R_alloc | apply Kd.R_drewN | apply Kd.R_drew)); exact HO240.out) hb); have n3_ := Aside0.mk (Kd.R_below (by (with_reducible repeat (first | apply Kd.R_alloc | apply Kd.R_drewN | apply Kd.R_drew)); exact HO247.out) hb); have n4_ := Aside0.mk (below_step (by repeat (first | (with_reducible first | exact HB.out | apply wA | apply wN | apply wD) | exact HB.out)) hb); clear HO_5; clear HO235; clear HO240; clear HO247; clear HB; have HO_5 := n0_; have HO235 := n1_; have HO240 := n2_; have HO247 := n3_; have HB := n4_; clear n0_ n1_ n2_ n3_ n4_; (try clear hb); (try clear hb2); (try clear hk); (try clear hi)))
          go_ret
          exact ⟨by first | rfl | exact congrArg (fun b_ => Ending.returned (Value.bool b_)) HRET.out | (rw [HRET.out]) | (simp [errW_none, errW_some] <;> rfl) | (simp [*, errW_none, errW_some] <;> rfl), by repeat (first | (with_reducible first | exact HB.out | apply wA | apply wN | apply wD) | exact HB.out)⟩
         ·
          rw [if_neg c20] at H; have c20b0 : (t244 == (wrap64 (Int.tmod (IntKind.u64.wrap (a1)) 4))) = false := beq_eq_false_iff_ne.mpr c20; have c20b1 : (t244 != (wrap64 (Int.tmod (IntKind.u64.wrap (a1)) 4))) = true := bne_iff_ne.mpr c20; exact absurd H (by simp)
        ·
         rw [if_neg c19] at H; have c19b0 : (t245 == 0) = false := beq_eq_false_iff_ne.mpr c19; have c19b1 : (t245 != 0) = true := bne_iff_ne.mpr c19; exact absurd H (by simp)
       ·
        rw [if_neg c18] at H; have c18b0 : (t242 == 15) = false := beq_eq_false_iff_ne.mpr c18; have c18b1 : (t242 != 15) = true := bne_iff_ne.mpr c18; exact absurd H (by simp)
      ·
       rw [if_neg c17] at H; have c17b0 : (t237 == (wrap64 (Int.tmod (IntKind.u64.wrap (a0)) 12))) = false := beq_eq_false_iff_ne.mpr c17; have c17b1 : (t237 != (wrap64 (Int.tmod (IntKind.u64.wrap (a0)) 12))) = true := bne_iff_ne.mpr c17; exact absurd H (by simp)
     ·
      rw [if_neg c16] at H; have c16b0 : (t238 == 0) = false := beq_eq_false_iff_ne.mpr c16; have c16b1 : (t238 != 0) = true := bne_iff_ne.mpr c16; exact absurd H (by simp)
    ·
     rw [if_neg c15] at H; have c15b0 : (t233 == 15) = false := beq_eq_false_iff_ne.mpr c15; have c15b1 : (t233 != 15) = true := bne_iff_ne.mpr c15; exact absurd H (by simp)

/-- THE ONE PURE STATEMENT of potsherdlaw21_HandFull: yours. -/
def potsherdlaw21_HandFull.Pure : Prop := ∀ (a0 : Int) (a1 : Int), (Lit.int .i64 a0).wf = true → (Lit.int .i64 a1).wf = true → ∃ k, potsherdlaw21_HandFull.f k a0 a1 = some true
theorem potsherdlaw21_HandFull.walk (P : potsherdlaw21_HandFull.Pure) (a0 : Int) (a1 : Int) (w : World) (w0 : (Lit.int .i64 a0).wf = true) (w1 : (Lit.int .i64 a1).wf = true) :
 Calls Try.prog 9 #[.int .i64 a0, .int .i64 a1] w fun e w' => e = .returned (.bool true) ∧ Below w.heap.size w w' := by
 obtain ⟨k, h⟩ := P a0 a1 w0 w1; refine (potsherdlaw21_HandFull.calls k a0 a1 w h).mono ?_; rintro e w' ⟨rfl, hd⟩; exact ⟨rfl, hd⟩

end Go.Proofs.Ytnjnmegjbcgajaa.PHand
