/- The Go functions that these laws reach, each as a Lean function with the same answers (a law itself where it answers true), and the proof that the code comes to them; conditions: those of each theorem. Laid by a program of this session over the print. -/
import Derived.Test.YtnjnmegjbcgajaaPHandx0
import Derived.Test.YtnjnmegjbcgajaaPHandx1
import Derived.Test.YtnjnmegjbcgajaaPHandx2
import Derived.Test.YtnjnmegjbcgajaaPHandx3
import Derived.Test.YtnjnmegjbcgajaaPHandx5
namespace Go.Proofs.Ytnjnmegjbcgajaa.PHand
open Go.RowKit Go.Proofs.YtnjnmegjbcgajaaW.PrintWords Go.Proofs.YtnjnmegjbcgajaaW.PrintLast Go.Proofs.YtnjnmegjbcgajaaW.PrintMore
attribute [local go_sem] max2_int min2_int max_two min_two max_three min_three max_four min_four   -- for this text's walks alone
set_option linter.unusedVariables false
set_option linter.unusedSimpArgs false
open Go.Proofs.YtnjnmegjbcgajaaW.PrintWords renaming blk_drewN → bN, blk_drew → bD, blk_alloc → bA, below_set → wS, below_alloc → wA, pw_below_drewN → wN, below_drew1 → wD, blk_below → bB, blk_far → bF, blk_cell → bC, blk_frozen → bZ
open List renaming setIfInBounds_toArray → lT, set_cons_zero → l0_, set_cons_succ → lS

/-! ### potsherdlaw21_HandBack: function 10 -/
mutual
def potsherdlaw21_HandBack.l0 : Nat → Int → List Int → List Int → Int → Int → Option (Bool)
 | 0, _, _, _, _, _ => none
 | k + 1, x1, x5, x29, x30, x31 => if x31 < x30 then (if 0 ≤ x31 then (if x31 < (x29.length : Int) then ((hand_Open.f k x5 (wrap64 (Int.tmod (IntKind.u64.wrap (rd x29 x31)) 12))).bind fun bt254 => (if bt254.2.2 = 0 then (if (Go.bits .and .i64 (rd x29 x31) 4) = 0 then (potsherdlaw21_HandBack.l0 k x1 bt254.1 x29 x30 (wrap64 (x31 + 1))) else (potsherdlaw21_HandBack.l0 k x1 x5 x29 x30 (wrap64 (x31 + 1)))) else (potsherdlaw21_HandBack.l0 k x1 x5 x29 x30 (wrap64 (x31 + 1))))) else (none)) else (none)) else ((hand_Open.f k x5 (wrap64 (Int.tmod (IntKind.u64.wrap (x1)) 12))).bind fun bt259 => (if bt259.2.2 = 0 then ((hand_Of.f bt259.1 bt259.2.1).bind fun bt265 => ((hand_Close.f bt259.1 bt259.2.1).bind fun bt267 => (potsherdlaw21_HandBack.l1 k (wrap64 (Int.tmod (IntKind.u64.wrap (x1)) 12)) x5 bt259.1 bt259.2.1 bt265.1 bt265.2 bt267.1 bt267.2.1 bt267.2.2 0))) else (if bt259.2.2 = 15 then (if (bt259.1.length : Int) = 0 then ((potsherdlaw21_awake.f k).bind fun t264 => (some t264)) else (some false)) else (some false))))
def potsherdlaw21_HandBack.l1 : Nat → Int → List Int → List Int → Int → Int → Int → List Int → Int → Int → Int → Option (Bool)
 | 0, _, _, _, _, _, _, _, _, _, _ => none
 | k + 1, x1, x5, x11, x12, x14, x15, x16, x17, x18, x90 => if x90 < 4 then ((hand_Of.f x5 x90).bind fun bt274 => ((hand_Of.f x11 x90).bind fun bt276 => (if x90 = x12 then (potsherdlaw21_HandBack.l1 k x1 x5 x11 x12 x14 x15 x16 x17 x18 (wrap64 (x90 + 1))) else (if bt274.1 = bt276.1 then (if bt274.2 = bt276.2 then (potsherdlaw21_HandBack.l1 k x1 x5 x11 x12 x14 x15 x16 x17 x18 (wrap64 (x90 + 1))) else (some false)) else (some false))))) else (if x15 = 0 then (if x14 = x1 then (if x18 = 0 then (if x17 = x1 then ((potsherdref12_Ints.f k x16 x5).bind fun t272 => (if t272 = true then ((potsherdlaw21_awake.f k).bind fun t273 => (some t273)) else (some false))) else (some false)) else (some false)) else (some false)) else (some false))
end
def potsherdlaw21_HandBack.f (k : Nat) (l0 : List Int) (a1 : Int) : Option (Bool) := if (l0.length : Int) > 30 then ((potsherdlaw21_awake.f k).bind fun t249 => (some t249)) else ((hand_New.f).bind fun t250 => (potsherdlaw21_HandBack.l0 k a1 t250 l0 (l0.length : Int) 0))
theorem potsherdlaw21_HandBack.mono_l : ∀ k, (∀ y0 y1 y2 y3 y4, LeO (potsherdlaw21_HandBack.l0 k y0 y1 y2 y3 y4) (potsherdlaw21_HandBack.l0 (k + 1) y0 y1 y2 y3 y4)) ∧ (∀ y0 y1 y2 y3 y4 y5 y6 y7 y8 y9, LeO (potsherdlaw21_HandBack.l1 k y0 y1 y2 y3 y4 y5 y6 y7 y8 y9) (potsherdlaw21_HandBack.l1 (k + 1) y0 y1 y2 y3 y4 y5 y6 y7 y8 y9))
 | 0 => ⟨fun _ _ _ _ _ r h => by simp [potsherdlaw21_HandBack.l0] at h, fun _ _ _ _ _ _ _ _ _ _ r h => by simp [potsherdlaw21_HandBack.l1] at h⟩
 | k + 1 => by
  obtain ⟨ih0, ih1⟩ := potsherdlaw21_HandBack.mono_l k; refine ⟨?_, ?_⟩
  ·
   intro y0 y1 y2 y3 y4
   unfold potsherdlaw21_HandBack.l0
   repeat' first
   | (with_reducible exact ih0 _ _ _ _ _)
   | (with_reducible exact ih1 _ _ _ _ _ _ _ _ _ _)
   | (with_reducible exact hand_Open.mono _ _ _)
   | (with_reducible exact potsherdlaw21_awake.mono _)
   | (with_reducible exact potsherdref12_Ints.mono _ _ _)
   | (with_reducible exact LeO.refl _)
   | (with_reducible exact LeO.none _)
   | (with_reducible refine LeO.ite ?_ ?_)
   | (with_reducible refine LeO.bind ?_ (fun _ => ?_))
   | exact ih0 _ _ _ _ _
   | exact ih1 _ _ _ _ _ _ _ _ _ _
   | exact hand_Open.mono _ _ _
   | exact potsherdlaw21_awake.mono _
   | exact potsherdref12_Ints.mono _ _ _
   | exact LeO.none _
   | refine LeO.ite ?_ ?_
   | refine LeO.bind ?_ (fun _ => ?_)
  ·
   intro y0 y1 y2 y3 y4 y5 y6 y7 y8 y9
   unfold potsherdlaw21_HandBack.l1
   repeat' first
   | (with_reducible exact ih0 _ _ _ _ _)
   | (with_reducible exact ih1 _ _ _ _ _ _ _ _ _ _)
   | (with_reducible exact hand_Open.mono _ _ _)
   | (with_reducible exact potsherdlaw21_awake.mono _)
   | (with_reducible exact potsherdref12_Ints.mono _ _ _)
   | (with_reducible exact LeO.refl _)
   | (with_reducible exact LeO.none _)
   | (with_reducible refine LeO.ite ?_ ?_)
   | (with_reducible refine LeO.bind ?_ (fun _ => ?_))
   | exact ih0 _ _ _ _ _
   | exact ih1 _ _ _ _ _ _ _ _ _ _
   | exact hand_Open.mono _ _ _
   | exact potsherdlaw21_awake.mono _
   | exact potsherdref12_Ints.mono _ _ _
   | exact LeO.none _
   | refine LeO.ite ?_ ?_
   | refine LeO.bind ?_ (fun _ => ?_)
theorem potsherdlaw21_HandBack.mono : ∀ a0 a1 k, LeO (potsherdlaw21_HandBack.f k a0 a1) (potsherdlaw21_HandBack.f (k + 1) a0 a1) := by
 intro a0 a1 k; obtain ⟨ih0, ih1⟩ := potsherdlaw21_HandBack.mono_l k
 unfold potsherdlaw21_HandBack.f
 repeat' first
  | (with_reducible exact ih0 _ _ _ _ _)
  | (with_reducible exact ih1 _ _ _ _ _ _ _ _ _ _)
  | (with_reducible exact hand_Open.mono _ _ _)
  | (with_reducible exact potsherdlaw21_awake.mono _)
  | (with_reducible exact potsherdref12_Ints.mono _ _ _)
  | (with_reducible exact LeO.refl _)
  | (with_reducible exact LeO.none _)
  | (with_reducible refine LeO.ite ?_ ?_)
  | (with_reducible refine LeO.bind ?_ (fun _ => ?_))
  | exact ih0 _ _ _ _ _
  | exact ih1 _ _ _ _ _ _ _ _ _ _
  | exact hand_Open.mono _ _ _
  | exact potsherdlaw21_awake.mono _
  | exact potsherdref12_Ints.mono _ _ _
  | exact LeO.none _
  | refine LeO.ite ?_ ?_
  | refine LeO.bind ?_ (fun _ => ?_)
set_option maxHeartbeats 8000000 in
set_option maxRecDepth 100000 in
theorem potsherdlaw21_HandBack.calls (k : Nat) (A0 : Option Addr) (c0 : Nat) (l0 : List Int) (a1 : Int) (w : World) (hr0 : Kd.C (Kd.int .i64) w A0 l0.length l0) (hc0 : l0.length ≤ c0) (h : potsherdlaw21_HandBack.f k l0 a1 = some true) :
 Calls Try.prog 10 #[.slice A0 l0.length c0, .int .i64 a1] w fun e w' => e = .returned (.bool true) ∧ Below w.heap.size w w' := by
 have HR0 := Aside0.mk hr0; have HC0 := Aside0.mk hc0; clear hr0 hc0; have HB := Aside0.mk (Below.refl w.heap.size w); have H : (if (l0.length : Int) > 30 then ((potsherdlaw21_awake.f k).bind fun t249 => (some t249)) else ((hand_New.f).bind fun t250 => (potsherdlaw21_HandBack.l0 k a1 t250 l0 (l0.length : Int) 0))) = some true := h; clear h
 by_cases c3 : (l0.length : Int) > 30
 ·
  rw [if_pos c3] at H; have c3b0 : decide (30 < (l0.length : Int)) = true := decide_eq_true c3; have c3b1 : decide (30 < l0.length) = true := decide_eq_true (by omega); clear c3; replace H := Option.bind_eq_some_iff.mp H; obtain ⟨t249, A40, H⟩ := H; replace H : (some t249) = some true := H; have A4 := Aside0.mk A40; clear A40; have HRET := Aside0.mk (Option.some.inj H); clear H
  go_enter Try.func10, Try.ntmps10
  go_wp2_with (first | ((with_reducible refine gate_callee (f := 21) rfl ?_); refine goesL_ (some 27) rfl rfl Try.func21 (by kernel_rfl) rfl #[] rfl (by (try simp only [List.map_toArray, List.map_cons, List.map_nil]); first | done | rfl | (simp only [List.length_drop, List.length_take]; rfl)) ?_; (with_reducible refine (potsherdlaw21_awake.calls k  t249 _ A4.out).mono ?_); rintro e w5 ⟨rfl, hb⟩; refine ⟨_, rfl, ?_⟩; have n0_ := Aside0.mk (below_step (by repeat (first | (with_reducible first | exact HB.out | apply wA | apply wN | apply wD) | exact HB.out)) hb); clear HB; have HB := n0_; clear n0_; (try clear hb); (try clear hb2); (try clear hk); (try clear hi)))
  go_ret
  exact ⟨by first | rfl | exact congrArg (fun b_ => Ending.returned (Value.bool b_)) HRET.out | (rw [HRET.out]) | (simp [errW_none, errW_some] <;> rfl) | (simp [*, errW_none, errW_some] <;> rfl), by repeat (first | (with_reducible first | exact HB.out | apply wA | apply wN | apply wD) | exact HB.out)⟩
 ·
  rw [if_neg c3] at H; have c3b0 : decide (30 < (l0.length : Int)) = false := decide_eq_false c3; have c3b1 : decide (30 < l0.length) = false := decide_eq_false (by omega); clear c3; replace H := Option.bind_eq_some_iff.mp H; obtain ⟨t250, A60, H⟩ := H; replace H : (potsherdlaw21_HandBack.l0 k a1 t250 l0 (l0.length : Int) 0) = some true := H; have A6 := Aside0.mk A60; clear A60; have H' := Aside0.mk H; clear H
  go_enter Try.func10, Try.ntmps10
  go_wp2_with (first | ((with_reducible refine gate_callee (f := 31) rfl ?_); refine goesL_ (some 28) rfl rfl Try.func31 (by kernel_rfl) rfl #[] rfl (by (try simp only [List.map_toArray, List.map_cons, List.map_nil]); first | done | rfl | (simp only [List.length_drop, List.length_take]; rfl)) ?_; (with_reducible refine (hand_New.calls  t250 _ A6.out).mono ?_); rintro e w7 ⟨v251, rfl, ho0, hb⟩; refine ⟨_, rfl, ?_⟩; have n0_ := Aside0.mk (Kd.R_lower ho0 (below_size (by repeat (first | (with_reducible first | exact HB.out | apply wA | apply wN | apply wD) | exact HB.out)))); have n1_ := Aside0.mk (below_step (by repeat (first | (with_reducible first | exact HB.out | apply wA | apply wN | apply wD) | exact HB.out)) hb); clear HB; have HO252 := n0_; have HB := n1_; clear n0_ n1_; (try clear hb); (try clear hb2); (try clear hk); (try clear hi); (try clear ho0)))
  go_loopg [5, 31] k (fun kq v5 v31 w' => ∃ (x5_1 : List Int) (x31_1 : Int), v31 = .int .i64 x31_1 ∧ Aside0 (potsherdlaw21_HandBack.l0 kq a1 x5_1 l0 (l0.length : Int) x31_1 = some true) ∧ Aside0 (kq ≤ k) ∧ Aside0 (Kd.R (Kd.int .i64) 3 w' w.heap.size (fun _ => True) v5 x5_1) ∧ Aside0 (Below w.heap.size w w'))
  case atStart => exact ⟨(t250), (0), (by first | rfl | (simp; done) | (simp [*]; done)), H', ⟨Nat.le_refl _⟩, ⟨by (with_reducible repeat (first | apply Kd.R_alloc | apply Kd.R_drewN | apply Kd.R_drew)); exact HO252.out⟩, ⟨by repeat (first | (with_reducible first | exact HB.out | apply wA | apply wN | apply wD) | exact HB.out)⟩⟩
  case round =>
   clear H'
   try clear c1
   try clear c2
   try clear p2
   try clear c3
   try clear c3b0
   try clear c3b1
   obtain ⟨x5_1, x31_1, rfl, HA, HK1, HO_5, HB⟩ := hrel
   cases gk with
   | zero => exact absurd HA.out (by simp [potsherdlaw21_HandBack.l0])
   | succ k1 =>
    have H := HA.out; clear HA; simp only [potsherdlaw21_HandBack.l0] at H
    by_cases c8 : x31_1 < (l0.length : Int)
    ·
     rw [if_pos c8] at H; have c8b0 : decide (x31_1 < (l0.length : Int)) = true := decide_eq_true c8; clear c8
     by_cases c9 : 0 ≤ x31_1
     ·
      rw [if_pos c9] at H; have c9b0 : decide (0 ≤ x31_1) = true := decide_eq_true c9; clear c9
      by_cases c10 : x31_1 < (l0.length : Int)
      ·
       rw [if_pos c10] at H; have c10b0 : decide (x31_1 < (l0.length : Int)) = true := decide_eq_true c10; clear c10; replace H := Option.bind_eq_some_iff.mp H; obtain ⟨⟨t254, t255, t256⟩, A110, H⟩ := H; replace H : (if t256 = 0 then (if (Go.bits .and .i64 (rd l0 x31_1) 4) = 0 then (potsherdlaw21_HandBack.l0 k1 a1 t254 l0 (l0.length : Int) (wrap64 (x31_1 + 1))) else (potsherdlaw21_HandBack.l0 k1 a1 x5_1 l0 (l0.length : Int) (wrap64 (x31_1 + 1)))) else (potsherdlaw21_HandBack.l0 k1 a1 x5_1 l0 (l0.length : Int) (wrap64 (x31_1 + 1)))) = some true := H; have A11 := Aside0.mk A110; clear A110
       by_cases c12 : t256 = 0
       ·
        rw [if_pos c12] at H; have c12b0 : (t256 == 0) = true := beq_iff_eq.mpr c12; have c12b1 : (t256 != 0) = false := bne_eq_false_iff_eq.mpr c12; clear c12
        by_cases c13 : (Go.bits .and .i64 (rd l0 x31_1) 4) = 0
        ·
         rw [if_pos c13] at H; have c13b0 : ((Go.bits .and .i64 (rd l0 x31_1) 4) == 0) = true := beq_iff_eq.mpr c13; have c13b1 : ((Go.bits .and .i64 (rd l0 x31_1) 4) != 0) = false := bne_eq_false_iff_eq.mpr c13; clear c13; have H' := Aside0.mk H; clear H; have p253 : 0 ≤ (x31_1 : Int) := of_decide_eq_true (by first | (with_reducible assumption) | assumption); have q253 : x31_1 < (l0.length : Int) := of_decide_eq_true (by first | (with_reducible assumption) | assumption); obtain ⟨ad253, e253, hx253_0⟩ := Kd.at_int HR0.out x31_1 p253 q253
         cases e253
         replace hx253_0 := (HB.out.cell (World.block_lt_of_cell? w _ hx253_0)).trans hx253_0; replace p253 := eq_true p253; replace q253 := eq_true q253; obtain ⟨Ao14, co14, eo14⟩ := Kd.R_slice HO_5.out; subst eo14
         go_wp2_with (first | ((with_reducible refine gate_callee (f := 22) rfl ?_); refine goesL_ (some 41) rfl rfl Try.func22 (by kernel_rfl) rfl #[.slice Ao14 x5_1.length co14, .int .i64 (wrap64 (Int.tmod (IntKind.u64.wrap (rd l0 x31_1)) 12))] rfl (by (try simp only [List.map_toArray, List.map_cons, List.map_nil]); first | done | rfl | (simp only [List.length_drop, List.length_take]; rfl)) ?_; (with_reducible refine (hand_Open.calls k1 _ _ x5_1 (wrap64 (Int.tmod (IntKind.u64.wrap (rd l0 x31_1)) 12)) t254 t255 t256 _ ?side1 ?side2 A11.out).mono ?_); (case side1 => repeat (first | exact (Kd.R_reads' HO_5.out).2.2 | (with_reducible refine Kd.C_alloc ?_ _) | (with_reducible refine Kd.C_drewN ?_ _) | (with_reducible refine Kd.C_drew ?_))); (case side2 => exact (Kd.R_reads' HO_5.out).2.1); rintro e w15 ⟨v257, rfl, ho0, hb⟩; refine ⟨_, rfl, ?_⟩; have n0_ := Aside0.mk (Kd.R_elder' (by (with_reducible repeat (first | apply Kd.R_alloc | apply Kd.R_drewN | apply Kd.R_drew)); exact HO_5.out) (Kd.R_base ho0) hb); have n1_ := Aside0.mk (Kd.R_lower (Kd.R_new' ho0 (Kd.R_lt (by (with_reducible repeat (first | apply Kd.R_alloc | apply Kd.R_drewN | apply Kd.R_drew)); exact HO_5.out))) (below_size (by repeat (first | (with_reducible first | exact HB.out | apply wA | apply wN | apply wD) | exact HB.out)))); have n2_ := Aside0.mk (below_step (by repeat (first | (with_reducible first | exact HB.out | apply wA | apply wN | apply wD) | exact HB.out)) hb); clear HO_5; clear HB; have HO_5 := n0_; have HO258 := n1_; have HB := n2_; clear n0_ n1_ n2_; (try clear hb); (try clear hb2); (try clear hk); (try clear hi); (try clear ho0)))
         go_roundg k1
         case measure => have := HK1.out; omega
         case rel => exact ⟨(t254), (wrap64 (x31_1 + 1)), (by first | rfl | (simp; done) | (simp [*]; done)), H', ⟨by have := HK1.out; omega⟩, ⟨by (with_reducible repeat (first | apply Kd.R_alloc | apply Kd.R_drewN | apply Kd.R_drew)); exact Kd.R_mono HO258.out (fun _ hk => trivial)⟩, ⟨by repeat (first | (with_reducible first | exact HB.out | apply wA | apply wN | apply wD) | exact HB.out)⟩⟩
        ·
         rw [if_neg c13] at H; have c13b0 : ((Go.bits .and .i64 (rd l0 x31_1) 4) == 0) = false := beq_eq_false_iff_ne.mpr c13; have c13b1 : ((Go.bits .and .i64 (rd l0 x31_1) 4) != 0) = true := bne_iff_ne.mpr c13; have H' := Aside0.mk H; clear H; have p253 : 0 ≤ (x31_1 : Int) := of_decide_eq_true (by first | (with_reducible assumption) | assumption); have q253 : x31_1 < (l0.length : Int) := of_decide_eq_true (by first | (with_reducible assumption) | assumption); obtain ⟨ad253, e253, hx253_0⟩ := Kd.at_int HR0.out x31_1 p253 q253
         cases e253
         replace hx253_0 := (HB.out.cell (World.block_lt_of_cell? w _ hx253_0)).trans hx253_0; replace p253 := eq_true p253; replace q253 := eq_true q253; obtain ⟨Ao16, co16, eo16⟩ := Kd.R_slice HO_5.out; subst eo16
         go_wp2_with (first | ((with_reducible refine gate_callee (f := 22) rfl ?_); refine goesL_ (some 41) rfl rfl Try.func22 (by kernel_rfl) rfl #[.slice Ao16 x5_1.length co16, .int .i64 (wrap64 (Int.tmod (IntKind.u64.wrap (rd l0 x31_1)) 12))] rfl (by (try simp only [List.map_toArray, List.map_cons, List.map_nil]); first | done | rfl | (simp only [List.length_drop, List.length_take]; rfl)) ?_; (with_reducible refine (hand_Open.calls k1 _ _ x5_1 (wrap64 (Int.tmod (IntKind.u64.wrap (rd l0 x31_1)) 12)) t254 t255 t256 _ ?side1 ?side2 A11.out).mono ?_); (case side1 => repeat (first | exact (Kd.R_reads' HO_5.out).2.2 | (with_reducible refine Kd.C_alloc ?_ _) | (with_reducible refine Kd.C_drewN ?_ _) | (with_reducible refine Kd.C_drew ?_))); (case side2 => exact (Kd.R_reads' HO_5.out).2.1); rintro e w17 ⟨v257, rfl, ho0, hb⟩; refine ⟨_, rfl, ?_⟩; have n0_ := Aside0.mk (Kd.R_elder' (by (with_reducible repeat (first | apply Kd.R_alloc | apply Kd.R_drewN | apply Kd.R_drew)); exact HO_5.out) (Kd.R_base ho0) hb); have n1_ := Aside0.mk (Kd.R_lower (Kd.R_new' ho0 (Kd.R_lt (by (with_reducible repeat (first | apply Kd.R_alloc | apply Kd.R_drewN | apply Kd.R_drew)); exact HO_5.out))) (below_size (by repeat (first | (with_reducible first | exact HB.out | apply wA | apply wN | apply wD) | exact HB.out)))); have n2_ := Aside0.mk (below_step (by repeat (first | (with_reducible first | exact HB.out | apply wA | apply wN | apply wD) | exact HB.out)) hb); clear HO_5; clear HB; have HO_5 := n0_; have HO258 := n1_; have HB := n2_; clear n0_ n1_ n2_; (try clear hb); (try clear hb2); (try clear hk); (try clear hi); (try clear ho0)))
         go_roundg k1
         case measure => have := HK1.out; omega
         case rel => exact ⟨(x5_1), (wrap64 (x31_1 + 1)), (by first | rfl | (simp; done) | (simp [*]; done)), H', ⟨by have := HK1.out; omega⟩, ⟨by (with_reducible repeat (first | apply Kd.R_alloc | apply Kd.R_drewN | apply Kd.R_drew)); exact Kd.R_mono HO_5.out (fun _ hk => trivial)⟩, ⟨by repeat (first | (with_reducible first | exact HB.out | apply wA | apply wN | apply wD) | exact HB.out)⟩⟩
       ·
        rw [if_neg c12] at H; have c12b0 : (t256 == 0) = false := beq_eq_false_iff_ne.mpr c12; have c12b1 : (t256 != 0) = true := bne_iff_ne.mpr c12; have H' := Aside0.mk H; clear H; have p253 : 0 ≤ (x31_1 : Int) := of_decide_eq_true (by first | (with_reducible assumption) | assumption); have q253 : x31_1 < (l0.length : Int) := of_decide_eq_true (by first | (with_reducible assumption) | assumption); obtain ⟨ad253, e253, hx253_0⟩ := Kd.at_int HR0.out x31_1 p253 q253
        cases e253
        replace hx253_0 := (HB.out.cell (World.block_lt_of_cell? w _ hx253_0)).trans hx253_0; replace p253 := eq_true p253; replace q253 := eq_true q253; obtain ⟨Ao18, co18, eo18⟩ := Kd.R_slice HO_5.out; subst eo18
        go_wp2_with (first | ((with_reducible refine gate_callee (f := 22) rfl ?_); refine goesL_ (some 41) rfl rfl Try.func22 (by kernel_rfl) rfl #[.slice Ao18 x5_1.length co18, .int .i64 (wrap64 (Int.tmod (IntKind.u64.wrap (rd l0 x31_1)) 12))] rfl (by (try simp only [List.map_toArray, List.map_cons, List.map_nil]); first | done | rfl | (simp only [List.length_drop, List.length_take]; rfl)) ?_; (with_reducible refine (hand_Open.calls k1 _ _ x5_1 (wrap64 (Int.tmod (IntKind.u64.wrap (rd l0 x31_1)) 12)) t254 t255 t256 _ ?side1 ?side2 A11.out).mono ?_); (case side1 => repeat (first | exact (Kd.R_reads' HO_5.out).2.2 | (with_reducible refine Kd.C_alloc ?_ _) | (with_reducible refine Kd.C_drewN ?_ _) | (with_reducible refine Kd.C_drew ?_))); (case side2 => exact (Kd.R_reads' HO_5.out).2.1); rintro e w19 ⟨v257, rfl, ho0, hb⟩; refine ⟨_, rfl, ?_⟩; have n0_ := Aside0.mk (Kd.R_elder' (by (with_reducible repeat (first | apply Kd.R_alloc | apply Kd.R_drewN | apply Kd.R_drew)); exact HO_5.out) (Kd.R_base ho0) hb); have n1_ := Aside0.mk (Kd.R_lower (Kd.R_new' ho0 (Kd.R_lt (by (with_reducible repeat (first | apply Kd.R_alloc | apply Kd.R_drewN | apply Kd.R_drew)); exact HO_5.out))) (below_size (by repeat (first | (with_reducible first | exact HB.out | apply wA | apply wN | apply wD) | exact HB.out)))); have n2_ := Aside0.mk (below_step (by repeat (first | (with_reducible first | exact HB.out | apply wA | apply wN | apply wD) | exact HB.out)) hb); clear HO_5; clear HB; have HO_5 := n0_; have HO258 := n1_; have HB := n2_; clear n0_ n1_ n2_; (try clear hb); (try clear hb2); (try clear hk); (try clear hi); (try clear ho0)))
        go_roundg k1
        case measure => have := HK1.out; omega
        case rel => exact ⟨(x5_1), (wrap64 (x31_1 + 1)), (by first | rfl | (simp; done) | (simp [*]; done)), H', ⟨by have := HK1.out; omega⟩, ⟨by (with_reducible repeat (first | apply Kd.R_alloc | apply Kd.R_drewN | apply Kd.R_drew)); exact Kd.R_mono HO_5.out (fun _ hk => trivial)⟩, ⟨by repeat (first | (with_reducible first | exact HB.out | apply wA | apply wN | apply wD) | exact HB.out)⟩⟩
      ·
       rw [if_neg c10] at H; exact absurd H (by simp)
     ·
      rw [if_neg c9] at H; exact absurd H (by simp)
    ·
     rw [if_neg c8] at H; have c8b0 : decide (x31_1 < (l0.length : Int)) = false := decide_eq_false c8; clear c8; replace H := Option.bind_eq_some_iff.mp H; obtain ⟨⟨t259, t260, t261⟩, A200, H⟩ := H; replace H : (if t261 = 0 then ((hand_Of.f t259 t260).bind fun bt265 => ((hand_Close.f t259 t260).bind fun bt267 => (potsherdlaw21_HandBack.l1 k1 (wrap64 (Int.tmod (IntKind.u64.wrap (a1)) 12)) x5_1 t259 t260 bt265.1 bt265.2 bt267.1 bt267.2.1 bt267.2.2 0))) else (if t261 = 15 then (if (t259.length : Int) = 0 then ((potsherdlaw21_awake.f k1).bind fun t264 => (some t264)) else (some false)) else (some false))) = some true := H; have A20 := Aside0.mk A200; clear A200
     by_cases c21 : t261 = 0
     ·
      rw [if_pos c21] at H; have c21b0 : (t261 == 0) = true := beq_iff_eq.mpr c21; have c21b1 : (t261 != 0) = false := bne_eq_false_iff_eq.mpr c21; clear c21; replace H := Option.bind_eq_some_iff.mp H; obtain ⟨⟨t265, t266⟩, A220, H⟩ := H; replace H : ((hand_Close.f t259 t260).bind fun bt267 => (potsherdlaw21_HandBack.l1 k1 (wrap64 (Int.tmod (IntKind.u64.wrap (a1)) 12)) x5_1 t259 t260 t265 t266 bt267.1 bt267.2.1 bt267.2.2 0)) = some true := H; have A22 := Aside0.mk A220; clear A220; replace H := Option.bind_eq_some_iff.mp H; obtain ⟨⟨t267, t268, t269⟩, A230, H⟩ := H; replace H : (potsherdlaw21_HandBack.l1 k1 (wrap64 (Int.tmod (IntKind.u64.wrap (a1)) 12)) x5_1 t259 t260 t265 t266 t267 t268 t269 0) = some true := H; have A23 := Aside0.mk A230; clear A230; have H' := Aside0.mk H; clear H; obtain ⟨Ao24, co24, eo24⟩ := Kd.R_slice HO_5.out; subst eo24
      go_wp2_with (first | ((with_reducible refine gate_callee (f := 22) rfl ?_); refine goesL_ (some 61) rfl rfl Try.func22 (by kernel_rfl) rfl #[.slice Ao24 x5_1.length co24, .int .i64 (wrap64 (Int.tmod (IntKind.u64.wrap (a1)) 12))] rfl (by (try simp only [List.map_toArray, List.map_cons, List.map_nil]); first | done | rfl | (simp only [List.length_drop, List.length_take]; rfl)) ?_; (with_reducible refine (hand_Open.calls k1 _ _ x5_1 (wrap64 (Int.tmod (IntKind.u64.wrap (a1)) 12)) t259 t260 t261 _ ?side1 ?side2 A20.out).mono ?_); (case side1 => repeat (first | exact (Kd.R_reads' HO_5.out).2.2 | (with_reducible refine Kd.C_alloc ?_ _) | (with_reducible refine Kd.C_drewN ?_ _) | (with_reducible refine Kd.C_drew ?_))); (case side2 => exact (Kd.R_reads' HO_5.out).2.1); rintro e w25 ⟨v262, rfl, ho0, hb⟩; refine ⟨_, rfl, ?_⟩; have n0_ := Aside0.mk (Kd.R_elder' (by (with_reducible repeat (first | apply Kd.R_alloc | apply Kd.R_drewN | apply Kd.R_drew)); exact HO_5.out) (Kd.R_base ho0) hb); have n1_ := Aside0.mk (Kd.R_lower (Kd.R_new' ho0 (Kd.R_lt (by (with_reducible repeat (first | apply Kd.R_alloc | apply Kd.R_drewN | apply Kd.R_drew)); exact HO_5.out))) (below_size (by repeat (first | (with_reducible first | exact HB.out | apply wA | apply wN | apply wD) | exact HB.out)))); have n2_ := Aside0.mk (below_step (by repeat (first | (with_reducible first | exact HB.out | apply wA | apply wN | apply wD) | exact HB.out)) hb); clear HO_5; clear HB; have HO_5 := n0_; have HO263 := n1_; have HB := n2_; clear n0_ n1_ n2_; (try clear hb); (try clear hb2); (try clear hk); (try clear hi); (try clear ho0); obtain ⟨Ao26, co26, eo26⟩ := Kd.R_slice HO263.out; subst eo26) | ((with_reducible refine gate_callee (f := 26) rfl ?_); refine goesL_ (some 80) rfl rfl Try.func26 (by kernel_rfl) rfl #[.slice Ao26 t259.length co26, .int .i64 t260] rfl (by (try simp only [List.map_toArray, List.map_cons, List.map_nil]); first | done | rfl | (simp only [List.length_drop, List.length_take]; rfl)) ?_; (with_reducible refine (hand_Of.calls _ _ t259 t260 t265 t266 _ ?side1 ?side2 A22.out).mono ?_); (case side1 => repeat (first | exact (Kd.R_reads' HO263.out).2.2 | (with_reducible refine Kd.C_alloc ?_ _) | (with_reducible refine Kd.C_drewN ?_ _) | (with_reducible refine Kd.C_drew ?_))); (case side2 => exact (Kd.R_reads' HO263.out).2.1); rintro e w27 ⟨rfl, hb⟩; refine ⟨_, rfl, ?_⟩; have n0_ := Aside0.mk (Kd.R_below (by (with_reducible repeat (first | apply Kd.R_alloc | apply Kd.R_drewN | apply Kd.R_drew)); exact HO_5.out) hb); have n1_ := Aside0.mk (Kd.R_below (by (with_reducible repeat (first | apply Kd.R_alloc | apply Kd.R_drewN | apply Kd.R_drew)); exact HO263.out) hb); have n2_ := Aside0.mk (below_step (by repeat (first | (with_reducible first | exact HB.out | apply wA | apply wN | apply wD) | exact HB.out)) hb); clear HO_5; clear HO263; clear HB; have HO_5 := n0_; have HO263 := n1_; have HB := n2_; clear n0_ n1_ n2_; (try clear hb); (try clear hb2); (try clear hk); (try clear hi)) | ((with_reducible refine gate_callee (f := 24) rfl ?_); refine goesL_ (some 86) rfl rfl Try.func24 (by kernel_rfl) rfl #[.slice Ao26 t259.length co26, .int .i64 t260] rfl (by (try simp only [List.map_toArray, List.map_cons, List.map_nil]); first | done | rfl | (simp only [List.length_drop, List.length_take]; rfl)) ?_; (with_reducible refine (hand_Close.calls _ _ t259 t260 t267 t268 t269 _ ?side1 ?side2 A23.out).mono ?_); (case side1 => repeat (first | exact (Kd.R_reads' HO263.out).2.2 | (with_reducible refine Kd.C_alloc ?_ _) | (with_reducible refine Kd.C_drewN ?_ _) | (with_reducible refine Kd.C_drew ?_))); (case side2 => exact (Kd.R_reads' HO263.out).2.1); rintro e w28 ⟨v270, rfl, ho0, hb⟩; refine ⟨_, rfl, ?_⟩; have n0_ := Aside0.mk (Kd.R_elder' (by (with_reducible repeat (first | apply Kd.R_alloc | apply Kd.R_drewN | apply Kd.R_drew)); exact HO_5.out) (Kd.R_base ho0) hb); have n1_ := Aside0.mk (Kd.R_elder' (by (with_reducible repeat (first | apply Kd.R_alloc | apply Kd.R_drewN | apply Kd.R_drew)); exact HO263.out) (Kd.R_base ho0) hb); have n2_ := Aside0.mk (Kd.R_lower (Kd.R_new' (Kd.R_new' ho0 (Kd.R_lt (by (with_reducible repeat (first | apply Kd.R_alloc | apply Kd.R_drewN | apply Kd.R_drew)); exact HO_5.out))) (Kd.R_lt (by (with_reducible repeat (first | apply Kd.R_alloc | apply Kd.R_drewN | apply Kd.R_drew)); exact HO263.out))) (below_size (by repeat (first | (with_reducible first | exact HB.out | apply wA | apply wN | apply wD) | exact HB.out)))); have n3_ := Aside0.mk (below_step (by repeat (first | (with_reducible first | exact HB.out | apply wA | apply wN | apply wD) | exact HB.out)) hb); clear HO_5; clear HO263; clear HB; have HO_5 := n0_; have HO263 := n1_; have HO271 := n2_; have HB := n3_; clear n0_ n1_ n2_ n3_; (try clear hb); (try clear hb2); (try clear hk); (try clear hi); (try clear ho0)))
      go_loopg [90] k1 (fun kq v90 w' => ∃ (x90_2 : Int), v90 = .int .i64 x90_2 ∧ Aside0 (potsherdlaw21_HandBack.l1 kq (wrap64 (Int.tmod (IntKind.u64.wrap (a1)) 12)) x5_1 t259 t260 t265 t266 t267 t268 t269 x90_2 = some true) ∧ Aside0 (kq ≤ k1) ∧ Aside0 (Kd.R (Kd.int .i64) 3 w' w.heap.size (fun k_ => some k_ ≠ ((.slice Ao26 t259.length co26) : Value).ownBlock ∧ some k_ ≠ (v270 : Value).ownBlock) (.slice Ao24 x5_1.length co24) x5_1) ∧ Aside0 (Kd.R (Kd.int .i64) 3 w' w.heap.size (fun k_ => some k_ ≠ ((.slice Ao24 x5_1.length co24) : Value).ownBlock ∧ some k_ ≠ (v270 : Value).ownBlock) (.slice Ao26 t259.length co26) t259) ∧ Aside0 (Kd.R (Kd.int .i64) 3 w' w.heap.size (fun k_ => some k_ ≠ ((.slice Ao24 x5_1.length co24) : Value).ownBlock ∧ some k_ ≠ ((.slice Ao26 t259.length co26) : Value).ownBlock) v270 t267) ∧ Aside0 (Below w.heap.size w w'))
      case atStart => exact ⟨(0), (by first | rfl | (simp; done) | (simp [*]; done)), H', ⟨Nat.le_refl _⟩, ⟨by (with_reducible repeat (first | apply Kd.R_alloc | apply Kd.R_drewN | apply Kd.R_drew)); exact Kd.R_mono HO_5.out (fun _ hk => ⟨hk.1.2, hk.2⟩)⟩, ⟨by (with_reducible repeat (first | apply Kd.R_alloc | apply Kd.R_drewN | apply Kd.R_drew)); exact Kd.R_mono HO263.out (fun _ hk => ⟨hk.1.2, hk.2⟩)⟩, ⟨by (with_reducible repeat (first | apply Kd.R_alloc | apply Kd.R_drewN | apply Kd.R_drew)); exact Kd.R_mono HO271.out (fun _ hk => ⟨hk.1.2, hk.2⟩)⟩, ⟨by repeat (first | (with_reducible first | exact HB.out | apply wA | apply wN | apply wD) | exact HB.out)⟩⟩
      case round =>
       clear H'
       try clear c1
       try clear c2
       try clear p2
       try clear q2
       try clear hx2
       try clear c3
       try clear c3b0
       try clear c3b1
       try clear p6
       try clear c8
       try clear c8b0
       try clear c9
       try clear c9b0
       try clear c10
       try clear c10b0
       try clear c12
       try clear c12b0
       try clear c12b1
       try clear c13
       try clear c13b0
       try clear c13b1
       try clear c21
       try clear c21b0
       try clear c21b1
       try clear c22
       try clear c24
       try clear p25
       try clear q25
       try clear hx25
       try clear c26
       try clear hx253_0
       try clear p2
       try clear p253
       try clear q253
       obtain ⟨x90_2, rfl, HA, HK2, HO_5, HO_11, HO_16, HB⟩ := hrel
       cases gk with
       | zero => exact absurd HA.out (by simp [potsherdlaw21_HandBack.l1])
       | succ k2 =>
        have H := HA.out; clear HA; simp only [potsherdlaw21_HandBack.l1] at H
        by_cases c29 : x90_2 < 4
        ·
         rw [if_pos c29] at H; have c29b0 : decide (x90_2 < 4) = true := decide_eq_true c29; clear c29; replace H := Option.bind_eq_some_iff.mp H; obtain ⟨⟨t274, t275⟩, A300, H⟩ := H; replace H : ((hand_Of.f t259 x90_2).bind fun bt276 => (if x90_2 = t260 then (potsherdlaw21_HandBack.l1 k2 (wrap64 (Int.tmod (IntKind.u64.wrap (a1)) 12)) x5_1 t259 t260 t265 t266 t267 t268 t269 (wrap64 (x90_2 + 1))) else (if t274 = bt276.1 then (if t275 = bt276.2 then (potsherdlaw21_HandBack.l1 k2 (wrap64 (Int.tmod (IntKind.u64.wrap (a1)) 12)) x5_1 t259 t260 t265 t266 t267 t268 t269 (wrap64 (x90_2 + 1))) else (some false)) else (some false)))) = some true := H; have A30 := Aside0.mk A300; clear A300; replace H := Option.bind_eq_some_iff.mp H; obtain ⟨⟨t276, t277⟩, A310, H⟩ := H; replace H : (if x90_2 = t260 then (potsherdlaw21_HandBack.l1 k2 (wrap64 (Int.tmod (IntKind.u64.wrap (a1)) 12)) x5_1 t259 t260 t265 t266 t267 t268 t269 (wrap64 (x90_2 + 1))) else (if t274 = t276 then (if t275 = t277 then (potsherdlaw21_HandBack.l1 k2 (wrap64 (Int.tmod (IntKind.u64.wrap (a1)) 12)) x5_1 t259 t260 t265 t266 t267 t268 t269 (wrap64 (x90_2 + 1))) else (some false)) else (some false))) = some true := H; have A31 := Aside0.mk A310; clear A310
         by_cases c32 : x90_2 = t260
         ·
          rw [if_pos c32] at H; have c32b0 : (x90_2 == t260) = true := beq_iff_eq.mpr c32; have c32b1 : (x90_2 != t260) = false := bne_eq_false_iff_eq.mpr c32; clear c32; have H' := Aside0.mk H; clear H
          go_wp2_with (first | ((with_reducible refine gate_callee (f := 26) rfl ?_); refine goesL_ (some 96) rfl rfl Try.func26 (by kernel_rfl) rfl #[.slice Ao24 x5_1.length co24, .int .i64 x90_2] rfl (by (try simp only [List.map_toArray, List.map_cons, List.map_nil]); first | done | rfl | (simp only [List.length_drop, List.length_take]; rfl)) ?_; (with_reducible refine (hand_Of.calls _ _ x5_1 x90_2 t274 t275 _ ?side1 ?side2 A30.out).mono ?_); (case side1 => repeat (first | exact (Kd.R_reads' HO_5.out).2.2 | (with_reducible refine Kd.C_alloc ?_ _) | (with_reducible refine Kd.C_drewN ?_ _) | (with_reducible refine Kd.C_drew ?_))); (case side2 => exact (Kd.R_reads' HO_5.out).2.1); rintro e w33 ⟨rfl, hb⟩; refine ⟨_, rfl, ?_⟩; have n0_ := Aside0.mk (Kd.R_below (by (with_reducible repeat (first | apply Kd.R_alloc | apply Kd.R_drewN | apply Kd.R_drew)); exact HO_5.out) hb); have n1_ := Aside0.mk (Kd.R_below (by (with_reducible repeat (first | apply Kd.R_alloc | apply Kd.R_drewN | apply Kd.R_drew)); exact HO_11.out) hb); have n2_ := Aside0.mk (Kd.R_below (by (with_reducible repeat (first | apply Kd.R_alloc | apply Kd.R_drewN | apply Kd.R_drew)); exact HO_16.out) hb); have n3_ := Aside0.mk (below_step (by repeat (first | (with_reducible first | exact HB.out | apply wA | apply wN | apply wD) | exact HB.out)) hb); clear HO_5; clear HO_11; clear HO_16; clear HB; have HO_5 := n0_; have HO_11 := n1_; have HO_16 := n2_; have HB := n3_; clear n0_ n1_ n2_ n3_; (try clear hb); (try clear hb2); (try clear hk); (try clear hi)) | ((with_reducible refine gate_callee (f := 26) rfl ?_); refine goesL_ (some 102) rfl rfl Try.func26 (by kernel_rfl) rfl #[.slice Ao26 t259.length co26, .int .i64 x90_2] rfl (by (try simp only [List.map_toArray, List.map_cons, List.map_nil]); first | done | rfl | (simp only [List.length_drop, List.length_take]; rfl)) ?_; (with_reducible refine (hand_Of.calls _ _ t259 x90_2 t276 t277 _ ?side1 ?side2 A31.out).mono ?_); (case side1 => repeat (first | exact (Kd.R_reads' HO_11.out).2.2 | (with_reducible refine Kd.C_alloc ?_ _) | (with_reducible refine Kd.C_drewN ?_ _) | (with_reducible refine Kd.C_drew ?_))); (case side2 => exact (Kd.R_reads' HO_11.out).2.1); rintro e w34 ⟨rfl, hb⟩; refine ⟨_, rfl, ?_⟩; have n0_ := Aside0.mk (Kd.R_below (by (with_reducible repeat (first | apply Kd.R_alloc | apply Kd.R_drewN | apply Kd.R_drew)); exact HO_5.out) hb); have n1_ := Aside0.mk (Kd.R_below (by (with_reducible repeat (first | apply Kd.R_alloc | apply Kd.R_drewN | apply Kd.R_drew)); exact HO_11.out) hb); have n2_ := Aside0.mk (Kd.R_below (by (with_reducible repeat (first | apply Kd.R_alloc | apply Kd.R_drewN | apply Kd.R_drew)); exact HO_16.out) hb); have n3_ := Aside0.mk (below_step (by repeat (first | (with_reducible first | exact HB.out | apply wA | apply wN | apply wD) | exact HB.out)) hb); clear HO_5; clear HO_11; clear HO_16; clear HB; have HO_5 := n0_; have HO_11 := n1_; have HO_16 := n2_; have HB := n3_; clear n0_ n1_ n2_ n3_; (try clear hb); (try clear hb2); (try clear hk); (try clear hi)))
          go_roundg k2
          case measure => have := HK1.out; have := HK2.out; omega
          case rel => exact ⟨(wrap64 (x90_2 + 1)), (by first | rfl | (simp; done) | (simp [*]; done)), H', ⟨by have := HK1.out; have := HK2.out; omega⟩, ⟨by (with_reducible repeat (first | apply Kd.R_alloc | apply Kd.R_drewN | apply Kd.R_drew)); exact HO_5.out⟩, ⟨by (with_reducible repeat (first | apply Kd.R_alloc | apply Kd.R_drewN | apply Kd.R_drew)); exact HO_11.out⟩, ⟨by (with_reducible repeat (first | apply Kd.R_alloc | apply Kd.R_drewN | apply Kd.R_drew)); exact HO_16.out⟩, ⟨by repeat (first | (with_reducible first | exact HB.out | apply wA | apply wN | apply wD) | exact HB.out)⟩⟩
         ·
          rw [if_neg c32] at H; have c32b0 : (x90_2 == t260) = false := beq_eq_false_iff_ne.mpr c32; have c32b1 : (x90_2 != t260) = true := bne_iff_ne.mpr c32
          by_cases c35 : t274 = t276
          ·
           rw [if_pos c35] at H; have c35b0 : (t274 == t276) = true := beq_iff_eq.mpr c35; have c35b1 : (t274 != t276) = false := bne_eq_false_iff_eq.mpr c35; clear c35
           by_cases c36 : t275 = t277
           ·
            rw [if_pos c36] at H; have c36b0 : (t275 == t277) = true := beq_iff_eq.mpr c36; have c36b1 : (t275 != t277) = false := bne_eq_false_iff_eq.mpr c36; clear c36; have H' := Aside0.mk H; clear H
            go_wp2_with (first | ((with_reducible refine gate_callee (f := 26) rfl ?_); refine goesL_ (some 96) rfl rfl Try.func26 (by kernel_rfl) rfl #[.slice Ao24 x5_1.length co24, .int .i64 x90_2] rfl (by (try simp only [List.map_toArray, List.map_cons, List.map_nil]); first | done | rfl | (simp only [List.length_drop, List.length_take]; rfl)) ?_; (with_reducible refine (hand_Of.calls _ _ x5_1 x90_2 t274 t275 _ ?side1 ?side2 A30.out).mono ?_); (case side1 => repeat (first | exact (Kd.R_reads' HO_5.out).2.2 | (with_reducible refine Kd.C_alloc ?_ _) | (with_reducible refine Kd.C_drewN ?_ _) | (with_reducible refine Kd.C_drew ?_))); (case side2 => exact (Kd.R_reads' HO_5.out).2.1); rintro e w37 ⟨rfl, hb⟩; refine ⟨_, rfl, ?_⟩; have n0_ := Aside0.mk (Kd.R_below (by (with_reducible repeat (first | apply Kd.R_alloc | apply Kd.R_drewN | apply Kd.R_drew)); exact HO_5.out) hb); have n1_ := Aside0.mk (Kd.R_below (by (with_reducible repeat (first | apply Kd.R_alloc | apply Kd.R_drewN | apply Kd.R_drew)); exact HO_11.out) hb); have n2_ := Aside0.mk (Kd.R_below (by (with_reducible repeat (first | apply Kd.R_alloc | apply Kd.R_drewN | apply Kd.R_drew)); exact HO_16.out) hb); have n3_ := Aside0.mk (below_step (by repeat (first | (with_reducible first | exact HB.out | apply wA | apply wN | apply wD) | exact HB.out)) hb); clear HO_5; clear HO_11; clear HO_16; clear HB; have HO_5 := n0_; have HO_11 := n1_; have HO_16 := n2_; have HB := n3_; clear n0_ n1_ n2_ n3_; (try clear hb); (try clear hb2); (try clear hk); (try clear hi)) | ((with_reducible refine gate_callee (f := 26) rfl ?_); refine goesL_ (some 102) rfl rfl Try.func26 (by kernel_rfl) rfl #[.slice Ao26 t259.length co26, .int .i64 x90_2] rfl (by (try simp only [List.map_toArray, List.map_cons, List.map_nil]); first | done | rfl | (simp only [List.length_drop, List.length_take]; rfl)) ?_; (with_reducible refine (hand_Of.calls _ _ t259 x90_2 t276 t277 _ ?side1 ?side2 A31.out).mono ?_); (case side1 => repeat (first | exact (Kd.R_reads' HO_11.out).2.2 | (with_reducible refine Kd.C_alloc ?_ _) | (with_reducible refine Kd.C_drewN ?_ _) | (with_reducible refine Kd.C_drew ?_))); (case side2 => exact (Kd.R_reads' HO_11.out).2.1); rintro e w38 ⟨rfl, hb⟩; refine ⟨_, rfl, ?_⟩; have n0_ := Aside0.mk (Kd.R_below (by (with_reducible repeat (first | apply Kd.R_alloc | apply Kd.R_drewN | apply Kd.R_drew)); exact HO_5.out) hb); have n1_ := Aside0.mk (Kd.R_below (by (with_reducible repeat (first | apply Kd.R_alloc | apply Kd.R_drewN | apply Kd.R_drew)); exact HO_11.out) hb); have n2_ := Aside0.mk (Kd.R_below (by (with_reducible repeat (first | apply Kd.R_alloc | apply Kd.R_drewN | apply Kd.R_drew)); exact HO_16.out) hb); have n3_ := Aside0.mk (below_step (by repeat (first | (with_reducible first | exact HB.out | apply wA | apply wN | apply wD) | exact HB.out)) hb); clear HO_5; clear HO_11; clear HO_16; clear HB; have HO_5 := n0_; have HO_11 := n1_; have HO_16 := n2_; have HB := n3_; clear n0_ n1_ n2_ n3_; (try clear hb); (try clear hb2); (try clear hk); (try clear hi)))
            go_roundg k2
            case measure => have := HK1.out; have := HK2.out; omega
            case rel => exact ⟨(wrap64 (x90_2 + 1)), (by first | rfl | (simp; done) | (simp [*]; done)), H', ⟨by have := HK1.out; have := HK2.out; omega⟩, ⟨by (with_reducible repeat (first | apply Kd.R_alloc | apply Kd.R_drewN | apply Kd.R_drew)); exact HO_5.out⟩, ⟨by (with_reducible repeat (first | apply Kd.R_alloc | apply Kd.R_drewN | apply Kd.R_drew)); exact HO_11.out⟩, ⟨by (with_reducible repeat (first | apply Kd.R_alloc | apply Kd.R_drewN | apply Kd.R_drew)); exact HO_16.out⟩, ⟨by repeat (first | (with_reducible first | exact HB.out | apply wA | apply wN | apply wD) | exact HB.out)⟩⟩
           ·
            rw [if_neg c36] at H; have c36b0 : (t275 == t277) = false := beq_eq_false_iff_ne.mpr c36; have c36b1 : (t275 != t277) = true := bne_iff_ne.mpr c36; exact absurd H (by simp)
          ·
           rw [if_neg c35] at H; have c35b0 : (t274 == t276) = false := beq_eq_false_iff_ne.mpr c35; have c35b1 : (t274 != t276) = true := bne_iff_ne.mpr c35; exact absurd H (by simp)
        ·
         rw [if_neg c29] at H; have c29b0 : decide (x90_2 < 4) = false := decide_eq_false c29; clear c29
         by_cases c39 : t266 = 0
         ·
          rw [if_pos c39] at H; have c39b0 : (t266 == 0) = true := beq_iff_eq.mpr c39; have c39b1 : (t266 != 0) = false := bne_eq_false_iff_eq.mpr c39; clear c39
          by_cases c40 : t265 = (wrap64 (Int.tmod (IntKind.u64.wrap (a1)) 12))
          ·
           rw [if_pos c40] at H; have c40b0 : (t265 == (wrap64 (Int.tmod (IntKind.u64.wrap (a1)) 12))) = true := beq_iff_eq.mpr c40; have c40b1 : (t265 != (wrap64 (Int.tmod (IntKind.u64.wrap (a1)) 12))) = false := bne_eq_false_iff_eq.mpr c40; clear c40
           by_cases c41 : t269 = 0
           ·
            rw [if_pos c41] at H; have c41b0 : (t269 == 0) = true := beq_iff_eq.mpr c41; have c41b1 : (t269 != 0) = false := bne_eq_false_iff_eq.mpr c41; clear c41
            by_cases c42 : t268 = (wrap64 (Int.tmod (IntKind.u64.wrap (a1)) 12))
            ·
             rw [if_pos c42] at H; have c42b0 : (t268 == (wrap64 (Int.tmod (IntKind.u64.wrap (a1)) 12))) = true := beq_iff_eq.mpr c42; have c42b1 : (t268 != (wrap64 (Int.tmod (IntKind.u64.wrap (a1)) 12))) = false := bne_eq_false_iff_eq.mpr c42; clear c42; replace H := Option.bind_eq_some_iff.mp H; obtain ⟨t272, A430, H⟩ := H; replace H : (if t272 = true then ((potsherdlaw21_awake.f k2).bind fun t273 => (some t273)) else (some false)) = some true := H; have A43 := Aside0.mk A430; clear A430
             by_cases c44 : t272 = true
             ·
              subst c44
              have H1 : ((potsherdlaw21_awake.f k2).bind fun t273 => (some t273)) = some true := by rw [if_pos rfl] at H; exact H
              clear H; have H := H1; clear H1; replace H := Option.bind_eq_some_iff.mp H; obtain ⟨t273, A450, H⟩ := H; replace H : (some t273) = some true := H; have A45 := Aside0.mk A450; clear A450; have HRET := Aside0.mk (Option.some.inj H); clear H; obtain ⟨Ao46, co46, eo46⟩ := Kd.R_slice HO_16.out; subst eo46
              go_wp2_with (first | (go_at_call 30; (with_reducible refine (potsherdref12_Ints.calls k2 _ _ t267 _ _ x5_1 true _ ?side1 ?side2 ?side3 ?side4 A43.out).mono ?_); (case side1 => repeat (first | exact (Kd.R_reads' HO_16.out).2.2 | (with_reducible refine Kd.C_alloc ?_ _) | (with_reducible refine Kd.C_drewN ?_ _) | (with_reducible refine Kd.C_drew ?_))); (case side2 => exact (Kd.R_reads' HO_16.out).2.1); (case side3 => repeat (first | exact (Kd.R_reads' HO_5.out).2.2 | (with_reducible refine Kd.C_alloc ?_ _) | (with_reducible refine Kd.C_drewN ?_ _) | (with_reducible refine Kd.C_drew ?_))); (case side4 => exact (Kd.R_reads' HO_5.out).2.1); rintro e w' ⟨rfl, ⟨nd, rfl⟩⟩) | (go_at_call 21; (with_reducible refine (potsherdlaw21_awake.calls k2  t273 _ A45.out).mono ?_); rintro e w47 ⟨rfl, hb⟩; have n0_ := Aside0.mk (Kd.R_below (by (with_reducible repeat (first | apply Kd.R_alloc | apply Kd.R_drewN | apply Kd.R_drew)); exact HO_5.out) hb); have n1_ := Aside0.mk (Kd.R_below (by (with_reducible repeat (first | apply Kd.R_alloc | apply Kd.R_drewN | apply Kd.R_drew)); exact HO_11.out) hb); have n2_ := Aside0.mk (Kd.R_below (by (with_reducible repeat (first | apply Kd.R_alloc | apply Kd.R_drewN | apply Kd.R_drew)); exact HO_16.out) hb); have n3_ := Aside0.mk (below_step (by repeat (first | (with_reducible first | exact HB.out | apply wA | apply wN | apply wD) | exact HB.out)) hb); clear HO_5; clear HO_11; clear HO_16; clear HB; have HO_5 := n0_; have HO_11 := n1_; have HO_16 := n2_; have HB := n3_; clear n0_ n1_ n2_ n3_; (try clear hb); (try clear hb2); (try clear hk); (try clear hi)))
              go_ret
              exact ⟨by first | rfl | exact congrArg (fun b_ => Ending.returned (Value.bool b_)) HRET.out | (rw [HRET.out]) | (simp [errW_none, errW_some] <;> rfl) | (simp [*, errW_none, errW_some] <;> rfl), by repeat (first | (with_reducible first | exact HB.out | apply wA | apply wN | apply wD) | exact HB.out)⟩
             ·
              replace c44 := Bool.eq_false_iff.mpr c44; subst c44
              have H1 : (some false) = some true := by rw [if_neg (show ¬ (false = true) by decide)] at H; exact H
              clear H; have H := H1; clear H1; exact absurd H (by simp)
            ·
             rw [if_neg c42] at H; have c42b0 : (t268 == (wrap64 (Int.tmod (IntKind.u64.wrap (a1)) 12))) = false := beq_eq_false_iff_ne.mpr c42; have c42b1 : (t268 != (wrap64 (Int.tmod (IntKind.u64.wrap (a1)) 12))) = true := bne_iff_ne.mpr c42; exact absurd H (by simp)
           ·
            rw [if_neg c41] at H; have c41b0 : (t269 == 0) = false := beq_eq_false_iff_ne.mpr c41; have c41b1 : (t269 != 0) = true := bne_iff_ne.mpr c41; exact absurd H (by simp)
          ·
           rw [if_neg c40] at H; have c40b0 : (t265 == (wrap64 (Int.tmod (IntKind.u64.wrap (a1)) 12))) = false := beq_eq_false_iff_ne.mpr c40; have c40b1 : (t265 != (wrap64 (Int.tmod (IntKind.u64.wrap (a1)) 12))) = true := bne_iff_ne.mpr c40; exact absurd H (by simp)
         ·
          rw [if_neg c39] at H; have c39b0 : (t266 == 0) = false := beq_eq_false_iff_ne.mpr c39; have c39b1 : (t266 != 0) = true := bne_iff_ne.mpr c39; exact absurd H (by simp)
     ·
      rw [if_neg c21] at H; have c21b0 : (t261 == 0) = false := beq_eq_false_iff_ne.mpr c21; have c21b1 : (t261 != 0) = true := bne_iff_ne.mpr c21
      by_cases c48 : t261 = 15
      ·
       rw [if_pos c48] at H; have c48b0 : (t261 == 15) = true := beq_iff_eq.mpr c48; have c48b1 : (t261 != 15) = false := bne_eq_false_iff_eq.mpr c48; clear c48
       by_cases c49 : (t259.length : Int) = 0
       ·
        rw [if_pos c49] at H; have c49b0 : ((t259.length : Int) == 0) = true := beq_iff_eq.mpr c49; have c49b1 : ((t259.length : Int) != 0) = false := bne_eq_false_iff_eq.mpr c49; clear c49; replace H := Option.bind_eq_some_iff.mp H; obtain ⟨t264, A500, H⟩ := H; replace H : (some t264) = some true := H; have A50 := Aside0.mk A500; clear A500; have HRET := Aside0.mk (Option.some.inj H); clear H; obtain ⟨Ao51, co51, eo51⟩ := Kd.R_slice HO_5.out; subst eo51
        go_wp2_with (first | ((with_reducible refine gate_callee (f := 22) rfl ?_); refine goesL_ (some 61) rfl rfl Try.func22 (by kernel_rfl) rfl #[.slice Ao51 x5_1.length co51, .int .i64 (wrap64 (Int.tmod (IntKind.u64.wrap (a1)) 12))] rfl (by (try simp only [List.map_toArray, List.map_cons, List.map_nil]); first | done | rfl | (simp only [List.length_drop, List.length_take]; rfl)) ?_; (with_reducible refine (hand_Open.calls k1 _ _ x5_1 (wrap64 (Int.tmod (IntKind.u64.wrap (a1)) 12)) t259 t260 t261 _ ?side1 ?side2 A20.out).mono ?_); (case side1 => repeat (first | exact (Kd.R_reads' HO_5.out).2.2 | (with_reducible refine Kd.C_alloc ?_ _) | (with_reducible refine Kd.C_drewN ?_ _) | (with_reducible refine Kd.C_drew ?_))); (case side2 => exact (Kd.R_reads' HO_5.out).2.1); rintro e w52 ⟨v262, rfl, ho0, hb⟩; refine ⟨_, rfl, ?_⟩; have n0_ := Aside0.mk (Kd.R_elder' (by (with_reducible repeat (first | apply Kd.R_alloc | apply Kd.R_drewN | apply Kd.R_drew)); exact HO_5.out) (Kd.R_base ho0) hb); have n1_ := Aside0.mk (Kd.R_lower (Kd.R_new' ho0 (Kd.R_lt (by (with_reducible repeat (first | apply Kd.R_alloc | apply Kd.R_drewN | apply Kd.R_drew)); exact HO_5.out))) (below_size (by repeat (first | (with_reducible first | exact HB.out | apply wA | apply wN | apply wD) | exact HB.out)))); have n2_ := Aside0.mk (below_step (by repeat (first | (with_reducible first | exact HB.out | apply wA | apply wN | apply wD) | exact HB.out)) hb); clear HO_5; clear HB; have HO_5 := n0_; have HO263 := n1_; have HB := n2_; clear n0_ n1_ n2_; (try clear hb); (try clear hb2); (try clear hk); (try clear hi); (try clear ho0); obtain ⟨Ao53, co53, eo53⟩ := Kd.R_slice HO263.out; subst eo53) | (go_at_call 21; (with_reducible refine (potsherdlaw21_awake.calls k1  t264 _ A50.out).mono ?_); rintro e w54 ⟨rfl, hb⟩; have n0_ := Aside0.mk (Kd.R_below (by (with_reducible repeat (first | apply Kd.R_alloc | apply Kd.R_drewN | apply Kd.R_drew)); exact HO_5.out) hb); have n1_ := Aside0.mk (Kd.R_below (by (with_reducible repeat (first | apply Kd.R_alloc | apply Kd.R_drewN | apply Kd.R_drew)); exact HO263.out) hb); have n2_ := Aside0.mk (below_step (by repeat (first | (with_reducible first | exact HB.out | apply wA | apply wN | apply wD) | exact HB.out)) hb); clear HO_5; clear HO263; clear HB; have HO_5 := n0_; have HO263 := n1_; have HB := n2_; clear n0_ n1_ n2_; (try clear hb); (try clear hb2); (try clear hk); (try clear hi)))
        go_ret
        exact ⟨by first | rfl | exact congrArg (fun b_ => Ending.returned (Value.bool b_)) HRET.out | (rw [HRET.out]) | (simp [errW_none, errW_some] <;> rfl) | (simp [*, errW_none, errW_some] <;> rfl), by repeat (first | (with_reducible first | exact HB.out | apply wA | apply wN | apply wD) | exact HB.out)⟩
       ·
        rw [if_neg c49] at H; have c49b0 : ((t259.length : Int) == 0) = false := beq_eq_false_iff_ne.mpr c49; have c49b1 : ((t259.length : Int) != 0) = true := bne_iff_ne.mpr c49
        have c49b2 : ¬ (t259 = []) := fun h_ => c49 (by rw [h_]; rfl)
        exact absurd H (by simp)
      ·
       rw [if_neg c48] at H; have c48b0 : (t261 == 15) = false := beq_eq_false_iff_ne.mpr c48; have c48b1 : (t261 != 15) = true := bne_iff_ne.mpr c48; exact absurd H (by simp)

/-- THE ONE PURE STATEMENT of potsherdlaw21_HandBack: yours. -/
def potsherdlaw21_HandBack.Pure : Prop := ∀ (l0 : List Int) (a1 : Int), l0.length ≤ maxLen → l0.length * 8 ≤ 140737488351232 → (∀ x ∈ l0, (Lit.int .i64 x).wf = true) → (Lit.int .i64 a1).wf = true → ∃ k, potsherdlaw21_HandBack.f k l0 a1 = some true
theorem potsherdlaw21_HandBack.walk (P : potsherdlaw21_HandBack.Pure) (a0 : Option Addr) (len0 cap0 : Nat) (z0 : List Int) (a1 : Int) (w : World) (w0 : (a0 = none ∧ len0 = 0 ∧ cap0 = 0 ∧ z0 = []) ∨ ∃ x, a0 = some x ∧ len0 ≤ cap0 ∧ cap0 ≤ maxLen ∧ z0.length = cap0 ∧ (∀ i, i < z0.length → w.cell? (x.add i) = some (.int .i64 (z0.getD i 0))) ∧ ∀ n ∈ z0, (Lit.int .i64 n).wf = true) (y0 : len0 * 8 ≤ 140737488351232) (w1 : (Lit.int .i64 a1).wf = true) :
 Calls Try.prog 10 #[.slice a0 len0 cap0, .int .i64 a1] w fun e w' => e = .returned (.bool true) ∧ Below w.heap.size w w' := by
 obtain ⟨l0, rfl, hr0, hm0, hw0, hc0⟩ := ReadsInt.ofRowC w0; obtain ⟨k, h⟩ := P l0 a1 hm0 y0 hw0 w1; refine (potsherdlaw21_HandBack.calls k _ _ l0 a1 w (Kd.C_of_reads (d := (0 : Int)) (h1 := fun _ => rfl) hr0) hc0 h).mono ?_; rintro e w' ⟨rfl, hd⟩; exact ⟨rfl, hd⟩

end Go.Proofs.Ytnjnmegjbcgajaa.PHand
