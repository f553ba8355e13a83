/- The Go functions that this law reaches, each as a Lean function with the same answers (the law itself where it answers true), and the proof that the code comes to them; conditions: those of each theorem. Laid by a program of this session over the print. -/
import Derived.Test.YtjpecdlagiohfaaPPlanLessx0
import Derived.Test.YtjpecdlagiohfaaPPlanLessx1
import Derived.Test.YtjpecdlagiohfaaPPlanLessx2
namespace Go.Proofs.Ytjpecdlagiohfaa.PPlanLess
open Go.RowKit Go.Proofs.YtjpecdlagiohfaaW.PrintWords Go.Proofs.YtjpecdlagiohfaaW.PrintLast Go.Proofs.YtjpecdlagiohfaaW.PrintMore
attribute [local go_sem] max2_int min2_int max_two min_two max_three min_three max_four min_four   -- for this text's walks alone
set_option linter.unusedVariables false
set_option linter.unusedSimpArgs false
open Go.Proofs.YtjpecdlagiohfaaW.PrintWords renaming blk_drewN → bN, blk_drew → bD, blk_alloc → bA, below_set → wS, below_alloc → wA, pw_below_drewN → wN, below_drew1 → wD, blk_below → bB, blk_far → bF, blk_cell → bC, blk_frozen → bZ
open List renaming setIfInBounds_toArray → lT, set_cons_zero → l0_, set_cons_succ → lS
abbrev B_0 : Array Bool := #[false, false, false, false, false, false, false, false, false, false, false]
abbrev B_1 : Array Bool := #[true, false, false, false, false, false, false, false, false, false, false]
abbrev B_2 : Array Bool := #[true, false, false, true, false, false, false, false, false, false, false]
abbrev B_3 : Array Bool := #[true, true, false, true, false, false, false, false, false, false, false]
abbrev B_4 : Array Bool := #[true, true, true, true, false, false, false, false, false, false, false]
abbrev B_5 : Array Bool := #[true, true, true, true, true, false, false, false, false, false, false]
abbrev B_6 : Array Bool := #[true, true, true, true, true, true, false, false, false, false, false]
abbrev B_7 : Array Bool := #[true, true, true, true, true, true, true, false, false, false, false]
abbrev B_8 : Array Bool := #[true, true, true, true, true, true, true, true, false, false, false]
abbrev B_9 : Array Bool := #[true, true, true, true, true, true, true, true, true, false, false]
abbrev B_10 : Array Bool := #[true, true, true, true, true, true, true, true, true, true, false]
abbrev B_11 : Array Bool := #[true, true, true, true, true, true, true, true, true, true, true]
abbrev B_12 : Array Bool := #[false, false, false, false, false, false, false, false, false, false, false, false]
abbrev B_13 : Array Bool := #[false, false, false, false, false, false, false, false, false, false, false, false, false, false, false, false, false, false, false]
abbrev B_14 : Array Bool := #[true, false, false, false, false, false, false, false, false, false, false, false, false, false, false, false, false, false, false]
abbrev B_15 : Array Bool := #[true, true, false, false, false, false, false, false, false, false, false, false, false, false, false, false, false, false, false]
abbrev B_16 : Array Bool := #[true, true, true, false, false, false, false, false, false, false, false, false, false, false, false, false, false, false, false]
abbrev B_17 : Array Bool := #[true, true, true, true, false, false, false, false, false, false, false, false, false, false, false, false, false, false, false]
abbrev B_18 : Array Bool := #[true, true, true, true, true, false, false, false, false, false, false, false, false, false, false, false, false, false, false]
abbrev B_19 : Array Bool := #[true, true, true, true, true, true, false, false, false, false, false, false, false, false, false, false, false, false, false]
abbrev B_20 : Array Bool := #[true, true, true, true, true, true, true, false, false, false, false, false, false, false, false, false, false, false, false]
abbrev B_21 : Array Bool := #[true, true, true, true, true, true, true, true, false, false, false, false, false, false, false, false, false, false, false]
abbrev B_22 : Array Bool := #[true, true, true, true, true, true, true, true, true, false, false, false, false, false, false, false, false, false, false]
abbrev B_23 : Array Bool := #[true, true, true, true, true, true, true, true, true, false, true, false, false, false, false, false, false, false, false]
abbrev B_24 : Array Bool := #[true, true, true, true, true, true, true, true, true, false, true, true, false, false, false, false, false, false, false]
abbrev B_25 : Array Bool := #[true, true, true, true, true, true, true, true, true, false, true, true, false, true, false, false, false, false, false]
abbrev B_26 : Array Bool := #[true, true, true, true, true, true, true, true, true, false, true, true, false, true, true, false, false, false, false]
abbrev B_27 : Array Bool := #[true, true, true, true, true, true, true, true, true, true, true, true, false, true, true, false, false, false, false]
abbrev B_28 : Array Bool := #[true, true, true, true, true, true, true, true, true, true, true, true, false, true, true, true, false, false, false]
abbrev B_29 : Array Bool := #[true, true, true, true, true, true, true, true, true, true, true, true, false, true, true, true, true, false, false]
abbrev B_30 : Array Bool := #[true, true, true, true, true, true, true, true, true, true, true, true, true, true, true, true, true, false, false]
abbrev B_31 : Array Bool := #[true, true, true, true, true, true, true, true, true, true, true, true, true, true, true, true, true, true, false]
abbrev B_32 : Array Bool := #[true, true, true, true, true, true, true, true, true, true, true, true, true, true, true, true, true, true, true]
abbrev B_33 : Array Bool := #[true, true, true, true, true, true, true, true, true, true, false, false, false, false, false, false, false, false, false]
abbrev B_34 : Array Bool := #[true, true, true, true, true, true, true, true, true, true, true, false, false, false, false, false, false, false, false]
abbrev B_35 : Array Bool := #[true, true, true, true, true, true, true, true, true, true, true, true, false, false, false, false, false, false, false]
abbrev B_36 : Array Bool := #[true, true, true, true, true, true, true, true, true, true, true, true, true, false, false, false, false, false, false]
abbrev B_37 : Array Bool := #[true, true, true, true, true, true, true, true, true, true, true, true, true, true, false, false, false, false, false]
abbrev B_38 : Array Bool := #[true, true, true, true, true, true, true, true, true, true, true, true, true, true, true, false, false, false, false]
abbrev B_39 : Array Bool := #[true, true, true, true, true, true, true, true, true, true, true, true, true, true, true, true, false, false, false]
abbrev B_40 : Array Bool := #[false, false, false, false, false, false, false, false, false, false, false, false, false, false, false, false, false, false, false, false, false, false, false]
abbrev B_41 : Array Bool := #[false, false, true, false, false, false, false, false, false, false, false, false, false, false, false, false, false, false, false, false, false, false, false]
abbrev B_42 : Array Bool := #[true, false, true, false, false, false, false, false, false, false, false, false, false, false, false, false, false, false, false, false, false, false, false]
abbrev B_43 : Array Bool := #[true, false, true, true, false, false, false, false, false, false, false, false, false, false, false, false, false, false, false, false, false, false, false]
abbrev B_44 : Array Bool := #[true, true, true, true, false, false, false, false, false, false, false, false, false, false, false, false, false, false, false, false, false, false, false]
abbrev B_45 : Array Bool := #[true, true, true, true, true, false, false, false, false, false, false, false, false, false, false, false, false, false, false, false, false, false, false]
abbrev B_46 : Array Bool := #[true, true, true, true, true, true, false, false, false, false, false, false, false, false, false, false, false, false, false, false, false, false, false]
abbrev B_47 : Array Bool := #[true, true, true, true, true, true, false, true, false, false, false, false, false, false, false, false, false, false, false, false, false, false, false]
abbrev B_48 : Array Bool := #[true, true, true, true, true, true, true, true, false, false, false, false, false, false, false, false, false, false, false, false, false, false, false]
abbrev B_49 : Array Bool := #[true, true, true, true, true, true, true, true, true, false, false, false, false, false, false, false, false, false, false, false, false, false, false]
abbrev B_50 : Array Bool := #[true, true, true, true, true, true, true, true, true, true, false, false, false, false, false, false, false, false, false, false, false, false, false]
abbrev B_51 : Array Bool := #[true, true, true, true, true, true, true, true, true, true, true, false, false, false, false, false, false, false, false, false, false, false, false]
abbrev B_52 : Array Bool := #[true, true, true, true, true, true, true, true, true, true, true, false, true, false, false, false, false, false, false, false, false, false, false]
abbrev B_53 : Array Bool := #[true, true, true, true, true, true, true, true, true, true, true, true, true, false, false, false, false, false, false, false, false, false, false]
abbrev B_54 : Array Bool := #[true, true, true, true, true, true, true, true, true, true, true, true, true, false, true, false, false, false, false, false, false, false, false]
abbrev B_55 : Array Bool := #[true, true, true, true, true, true, true, true, true, true, true, true, true, true, true, false, false, false, false, false, false, false, false]
abbrev B_56 : Array Bool := #[true, true, true, true, true, true, true, true, true, true, true, true, true, true, true, true, false, false, false, false, false, false, false]
abbrev B_57 : Array Bool := #[true, true, true, true, true, true, true, true, true, true, true, true, true, true, true, true, true, false, false, false, false, false, false]
abbrev B_58 : Array Bool := #[true, true, true, true, true, true, true, true, true, true, true, true, true, true, true, true, true, true, false, false, false, false, false]
abbrev B_59 : Array Bool := #[true, true, true, true, true, true, true, true, true, true, true, true, true, true, true, true, true, true, true, false, false, false, false]
abbrev B_60 : Array Bool := #[true, true, true, true, true, true, true, true, true, true, true, true, true, true, true, true, true, true, true, true, false, false, false]
abbrev B_61 : Array Bool := #[true, true, true, true, true, true, true, true, true, true, true, true, true, true, true, true, true, true, true, true, true, false, false]
abbrev B_62 : Array Bool := #[true, true, true, true, true, true, true, true, true, true, true, true, true, true, true, true, true, true, true, true, true, true, false]
abbrev B_63 : Array Bool := #[true, true, true, true, true, true, true, true, true, true, true, true, true, true, true, true, true, true, true, true, true, true, true]
abbrev B_64 : Array Bool := #[true, true, true, true, true, true, true, true, true, true, true, true, false, false, false, false, false, false, false, false, false, false, false]
abbrev B_65 : Array Bool := #[true, true, true, true, true, true, true, true, true, true, true, true, true, true, false, false, false, false, false, false, false, false, false]

/-! ### potsherdlaw6_PlanLess: function 9 -/
mutual
def potsherdlaw6_PlanLess.j0 : Nat → Int → Bool → Int → Int → Int → Int → Int → Option (Bool)
 | 0, _, _, _, _, _, _, _ => none
 | k + 1, x1, x22, x127000, x127001, x127002, x127003, x127004 => if x22 = true then ((plan_May.f x127000 x127001 x127002 x127003 x127004).bind fun t128 => ((potsherdref3_MayPlan.f x127000 x127001 x127002 x127003 x127004).bind fun t129 => (if ((!t128) == (!t129)) = true then ((potsherdlaw6_awake.f).bind fun t130 => (some t130)) else (some false)))) else ((some (([(⟨wrap64 (x127000 + 1), x127001, x127002, x127003, x127004⟩ : S35), (⟨x127000, wrap64 (x127001 + 1), x127002, x127003, x127004⟩ : S35), (⟨x127000, x127001, wrap64 (x127002 - 1), x127003, x127004⟩ : S35), (⟨x127000, x127001, x127002, wrap64 (x127003 - 1), x127004⟩ : S35)] : List (S35)) : List (S35))).bind fun y135 => (potsherdlaw6_PlanLess.l0 k x1 y135 (y135.length : Int) 0 x127000 x127001 x127002 x127003 x127004))
def potsherdlaw6_PlanLess.l0 : Nat → Int → List (S35) → Int → Int → Int → Int → Int → Int → Int → Option (Bool)
 | 0, _, _, _, _, _, _, _, _, _ => none
 | k + 1, x1, x57, x58, x59, x127000, x127001, x127002, x127003, x127004 => if x59 < x58 then (if 0 ≤ x59 then (if x59 < (x57.length : Int) then ((plan_May.f ((rd_T35 x57 x59).f0) ((rd_T35 x57 x59).f1) ((rd_T35 x57 x59).f2) ((rd_T35 x57 x59).f3) ((rd_T35 x57 x59).f4)).bind fun t140 => (if t140 = true then ((plan_Fits.f x127000 x127001 x127002 x127003 x127004 x1).bind fun t141 => (if t141 = true then ((plan_Fits.f ((rd_T35 x57 x59).f0) ((rd_T35 x57 x59).f1) ((rd_T35 x57 x59).f2) ((rd_T35 x57 x59).f3) ((rd_T35 x57 x59).f4) x1).bind fun t142 => (potsherdlaw6_PlanLess.j2 k x1 x57 x58 x59 (!t142) x127000 x127001 x127002 x127003 x127004)) else (potsherdlaw6_PlanLess.j2 k x1 x57 x58 x59 false x127000 x127001 x127002 x127003 x127004))) else (potsherdlaw6_PlanLess.j2 k x1 x57 x58 x59 false x127000 x127001 x127002 x127003 x127004))) else (none)) else (none)) else ((plan_Room.f x127000 x127001 x127002 x127003 x127004 x1).bind fun t143 => (if t143 > 0 then (if x1 < x127000 then ((plan_Room.f x127000 x127001 x127002 x127003 x127004 (wrap64 (x1 + 1))).bind fun t144 => (potsherdlaw6_PlanLess.j3 k x1 (t144 != (wrap64 (t143 - x127001))) x127000 x127001 x127002 x127003 x127004)) else (potsherdlaw6_PlanLess.j3 k x1 false x127000 x127001 x127002 x127003 x127004)) else (potsherdlaw6_PlanLess.j3 k x1 false x127000 x127001 x127002 x127003 x127004)))
def potsherdlaw6_PlanLess.j2 : Nat → Int → List (S35) → Int → Int → Bool → Int → Int → Int → Int → Int → Option (Bool)
 | 0, _, _, _, _, _, _, _, _, _, _ => none
 | k + 1, x1, x57, x58, x59, x75, x127000, x127001, x127002, x127003, x127004 => if x75 = true then (some false) else (potsherdlaw6_PlanLess.l0 k x1 x57 x58 (wrap64 (x59 + 1)) x127000 x127001 x127002 x127003 x127004)
def potsherdlaw6_PlanLess.j3 : Nat → Int → Bool → Int → Int → Int → Int → Int → Option (Bool)
 | 0, _, _, _, _, _, _, _ => none
 | k + 1, x1, x98, x127000, x127001, x127002, x127003, x127004 => if x98 = true then (some false) else ((plan_Need.f x127000 x127001 x127002 x127003 x127004).bind fun t145 => (if t145 > x127003 then ((plan_Fits.f x127000 x127001 x127002 x127003 x127004 x1).bind fun t146 => (if t146 = true then ((plan_Room.f x127000 x127001 x127002 x127003 x127004 x1).bind fun t147 => ((plan_Need.f x127000 x127001 x127002 x127003 x127004).bind fun t148 => (if t147 ≥ t148 then ((potsherdlaw6_awake.f).bind fun t149 => (some t149)) else (some false)))) else ((potsherdlaw6_awake.f).bind fun t150 => (some t150)))) else (some false)))
end
def potsherdlaw6_PlanLess.f (k : Nat) (a0_0 : Int) (a0_1 : Int) (a0_2 : Int) (a0_3 : Int) (a0_4 : Int) (a1 : Int) : Option (Bool) := (potsherdref3_MayPlan.f a0_0 a0_1 a0_2 a0_3 a0_4).bind fun t127 => (if t127 = true then (if a1 < 0 then (potsherdlaw6_PlanLess.j0 k a1 true a0_0 a0_1 a0_2 a0_3 a0_4) else (potsherdlaw6_PlanLess.j0 k a1 (decide (a1 > 64)) a0_0 a0_1 a0_2 a0_3 a0_4)) else (potsherdlaw6_PlanLess.j0 k a1 true a0_0 a0_1 a0_2 a0_3 a0_4))
theorem potsherdlaw6_PlanLess.mono_l : ∀ k, (∀ y0 y1 y2 y3 y4 y5 y6, LeO (potsherdlaw6_PlanLess.j0 k y0 y1 y2 y3 y4 y5 y6) (potsherdlaw6_PlanLess.j0 (k + 1) y0 y1 y2 y3 y4 y5 y6)) ∧ (∀ y0 y1 y2 y3 y4 y5 y6 y7 y8, LeO (potsherdlaw6_PlanLess.l0 k y0 y1 y2 y3 y4 y5 y6 y7 y8) (potsherdlaw6_PlanLess.l0 (k + 1) y0 y1 y2 y3 y4 y5 y6 y7 y8)) ∧ (∀ y0 y1 y2 y3 y4 y5 y6 y7 y8 y9, LeO (potsherdlaw6_PlanLess.j2 k y0 y1 y2 y3 y4 y5 y6 y7 y8 y9) (potsherdlaw6_PlanLess.j2 (k + 1) y0 y1 y2 y3 y4 y5 y6 y7 y8 y9)) ∧ (∀ y0 y1 y2 y3 y4 y5 y6, LeO (potsherdlaw6_PlanLess.j3 k y0 y1 y2 y3 y4 y5 y6) (potsherdlaw6_PlanLess.j3 (k + 1) y0 y1 y2 y3 y4 y5 y6))
 | 0 => ⟨fun _ _ _ _ _ _ _ r h => by simp [potsherdlaw6_PlanLess.j0] at h, fun _ _ _ _ _ _ _ _ _ r h => by simp [potsherdlaw6_PlanLess.l0] at h, fun _ _ _ _ _ _ _ _ _ _ r h => by simp [potsherdlaw6_PlanLess.j2] at h, fun _ _ _ _ _ _ _ r h => by simp [potsherdlaw6_PlanLess.j3] at h⟩
 | k + 1 => by
  obtain ⟨ih0, ih1, ih2, ih3⟩ := potsherdlaw6_PlanLess.mono_l k; refine ⟨?_, ?_, ?_, ?_⟩
  ·
   intro y0 y1 y2 y3 y4 y5 y6
   unfold potsherdlaw6_PlanLess.j0
   repeat' first
   | (with_reducible exact ih0 _ _ _ _ _ _ _)
   | (with_reducible exact ih1 _ _ _ _ _ _ _ _ _)
   | (with_reducible exact ih2 _ _ _ _ _ _ _ _ _ _)
   | (with_reducible exact ih3 _ _ _ _ _ _ _)
   | (with_reducible exact LeO.refl _)
   | (with_reducible exact LeO.none _)
   | (with_reducible refine LeO.ite ?_ ?_)
   | (with_reducible refine LeO.bind ?_ (fun _ => ?_))
   | exact ih0 _ _ _ _ _ _ _
   | exact ih1 _ _ _ _ _ _ _ _ _
   | exact ih2 _ _ _ _ _ _ _ _ _ _
   | exact ih3 _ _ _ _ _ _ _
   | exact LeO.none _
   | refine LeO.ite ?_ ?_
   | refine LeO.bind ?_ (fun _ => ?_)
  ·
   intro y0 y1 y2 y3 y4 y5 y6 y7 y8
   unfold potsherdlaw6_PlanLess.l0
   repeat' first
   | (with_reducible exact ih0 _ _ _ _ _ _ _)
   | (with_reducible exact ih1 _ _ _ _ _ _ _ _ _)
   | (with_reducible exact ih2 _ _ _ _ _ _ _ _ _ _)
   | (with_reducible exact ih3 _ _ _ _ _ _ _)
   | (with_reducible exact LeO.refl _)
   | (with_reducible exact LeO.none _)
   | (with_reducible refine LeO.ite ?_ ?_)
   | (with_reducible refine LeO.bind ?_ (fun _ => ?_))
   | exact ih0 _ _ _ _ _ _ _
   | exact ih1 _ _ _ _ _ _ _ _ _
   | exact ih2 _ _ _ _ _ _ _ _ _ _
   | exact ih3 _ _ _ _ _ _ _
   | exact LeO.none _
   | refine LeO.ite ?_ ?_
   | refine LeO.bind ?_ (fun _ => ?_)
  ·
   intro y0 y1 y2 y3 y4 y5 y6 y7 y8 y9
   unfold potsherdlaw6_PlanLess.j2
   repeat' first
   | (with_reducible exact ih0 _ _ _ _ _ _ _)
   | (with_reducible exact ih1 _ _ _ _ _ _ _ _ _)
   | (with_reducible exact ih2 _ _ _ _ _ _ _ _ _ _)
   | (with_reducible exact ih3 _ _ _ _ _ _ _)
   | (with_reducible exact LeO.refl _)
   | (with_reducible exact LeO.none _)
   | (with_reducible refine LeO.ite ?_ ?_)
   | (with_reducible refine LeO.bind ?_ (fun _ => ?_))
   | exact ih0 _ _ _ _ _ _ _
   | exact ih1 _ _ _ _ _ _ _ _ _
   | exact ih2 _ _ _ _ _ _ _ _ _ _
   | exact ih3 _ _ _ _ _ _ _
   | exact LeO.none _
   | refine LeO.ite ?_ ?_
   | refine LeO.bind ?_ (fun _ => ?_)
  ·
   intro y0 y1 y2 y3 y4 y5 y6
   unfold potsherdlaw6_PlanLess.j3
   repeat' first
   | (with_reducible exact ih0 _ _ _ _ _ _ _)
   | (with_reducible exact ih1 _ _ _ _ _ _ _ _ _)
   | (with_reducible exact ih2 _ _ _ _ _ _ _ _ _ _)
   | (with_reducible exact ih3 _ _ _ _ _ _ _)
   | (with_reducible exact LeO.refl _)
   | (with_reducible exact LeO.none _)
   | (with_reducible refine LeO.ite ?_ ?_)
   | (with_reducible refine LeO.bind ?_ (fun _ => ?_))
   | exact ih0 _ _ _ _ _ _ _
   | exact ih1 _ _ _ _ _ _ _ _ _
   | exact ih2 _ _ _ _ _ _ _ _ _ _
   | exact ih3 _ _ _ _ _ _ _
   | exact LeO.none _
   | refine LeO.ite ?_ ?_
   | refine LeO.bind ?_ (fun _ => ?_)
theorem potsherdlaw6_PlanLess.mono : ∀ a0 a1 a2 a3 a4 a5 k, LeO (potsherdlaw6_PlanLess.f k a0 a1 a2 a3 a4 a5) (potsherdlaw6_PlanLess.f (k + 1) a0 a1 a2 a3 a4 a5) := by
 intro a0 a1 a2 a3 a4 a5 k; obtain ⟨ih0, ih1, ih2, ih3⟩ := potsherdlaw6_PlanLess.mono_l k
 unfold potsherdlaw6_PlanLess.f
 repeat' first
  | (with_reducible exact ih0 _ _ _ _ _ _ _)
  | (with_reducible exact ih1 _ _ _ _ _ _ _ _ _)
  | (with_reducible exact ih2 _ _ _ _ _ _ _ _ _ _)
  | (with_reducible exact ih3 _ _ _ _ _ _ _)
  | (with_reducible exact LeO.refl _)
  | (with_reducible exact LeO.none _)
  | (with_reducible refine LeO.ite ?_ ?_)
  | (with_reducible refine LeO.bind ?_ (fun _ => ?_))
  | exact ih0 _ _ _ _ _ _ _
  | exact ih1 _ _ _ _ _ _ _ _ _
  | exact ih2 _ _ _ _ _ _ _ _ _ _
  | exact ih3 _ _ _ _ _ _ _
  | exact LeO.none _
  | refine LeO.ite ?_ ?_
  | refine LeO.bind ?_ (fun _ => ?_)
def potsherdlaw6_PlanLess.T2 : Bool × List (List Nat × List Nat) := (true, [([], []), ([0], [0]), ([1], [1]), ([], []), ([3, 1], [3]), ([4], [4]), ([2, 5], [2, 5]), ([6, 4], [6]), ([7, 7], [7]), ([7, 8], [7, 8]), ([9, 8, 0, 1, 2, 3, 4, 5, 6, 7, 8, 9], [9])])
def potsherdlaw6_PlanLess.B2 : List Nat := [0, 1, 3, 0, 11, 27, 63, 127, 255, 511, 1023]
theorem potsherdlaw6_PlanLess.tab2 : rtab .any (opsOf Try.f9 2) = potsherdlaw6_PlanLess.T2 := by kernel_rfl
theorem potsherdlaw6_PlanLess.bits2 : waitsOk potsherdlaw6_PlanLess.T2.2 potsherdlaw6_PlanLess.B2 = true := by kernel_rfl
def potsherdlaw6_PlanLess.T3 : Bool × List (List Nat × List Nat) := (true, [([], []), ([], []), ([], []), ([], []), ([], []), ([], []), ([], []), ([], []), ([4, 0, 0, 4, 5, 6, 7], [0, 4]), ([5, 1, 8, 0, 1, 4, 5, 6, 7, 8], [1, 5]), ([6, 2, 9, 0, 1, 2, 4, 5, 6, 7, 8, 9], [2, 6]), ([7, 3, 10, 0, 1, 2, 3, 4, 5, 6, 7, 8, 9, 10], [3, 7])])
def potsherdlaw6_PlanLess.B3 : List Nat := [0, 0, 0, 0, 0, 0, 0, 0, 241, 499, 1015, 2047]
theorem potsherdlaw6_PlanLess.tab3 : rtab .any (opsOf Try.f9 3) = potsherdlaw6_PlanLess.T3 := by kernel_rfl
theorem potsherdlaw6_PlanLess.bits3 : waitsOk potsherdlaw6_PlanLess.T3.2 potsherdlaw6_PlanLess.B3 = true := by kernel_rfl
def potsherdlaw6_PlanLess.T15 : Bool × List (List Nat × List Nat) := (true, [([], []), ([0], [0]), ([1], [1]), ([2], [2]), ([2], [2]), ([4, 2], [2, 4]), ([3, 5, 2], [2, 3, 5]), ([2, 6], [2, 6]), ([7, 2], [7]), ([8], [8]), ([8], [8]), ([10, 8], [8, 10]), ([9, 11, 8, 8], [8, 9, 11]), ([8], [8]), ([8], [8]), ([14, 8], [8, 14]), ([13, 15, 8], [8, 13, 15]), ([12, 16, 8], [8, 12, 16]), ([8, 17], [8, 17])])
def potsherdlaw6_PlanLess.B15 : List Nat := [0, 1, 3, 7, 7, 23, 63, 127, 255, 511, 511, 1535, 4095, 511, 511, 16895, 57855, 131071, 262143]
theorem potsherdlaw6_PlanLess.tab15 : rtab .any (opsOf Try.f9 15) = potsherdlaw6_PlanLess.T15 := by kernel_rfl
theorem potsherdlaw6_PlanLess.bits15 : waitsOk potsherdlaw6_PlanLess.T15.2 potsherdlaw6_PlanLess.B15 = true := by kernel_rfl
def potsherdlaw6_PlanLess.T17 : Bool × List (List Nat × List Nat) := (true, [([], []), ([0], [0]), ([], []), ([2], [2]), ([1, 3], [1, 3]), ([4, 1], [4]), ([5], [5]), ([5], [5]), ([6, 7, 5, 5], [5, 6, 7]), ([8, 5], [5, 8]), ([9, 8, 5], [5, 9]), ([10], [10]), ([10], [10]), ([11, 12, 10, 10], [10, 11, 12]), ([10], [10]), ([14, 13, 10], [10, 14]), ([13, 15, 10], [10, 13, 15]), ([10, 16, 5], [5, 10, 16]), ([5, 17], [5, 17]), ([18, 15], [18]), ([19, 19], [19]), ([19, 20], [19, 20]), ([21, 20, 0, 1, 2, 3, 4, 5, 6, 7, 8, 9, 10, 11, 12, 13, 14, 15, 16, 17, 18, 19, 20, 21], [21])])
def potsherdlaw6_PlanLess.B17 : List Nat := [0, 1, 0, 4, 15, 31, 63, 63, 255, 511, 1023, 2047, 2047, 8191, 2047, 32767, 65535, 131071, 262143, 524287, 1048575, 2097151, 4194303]
theorem potsherdlaw6_PlanLess.tab17 : rtab .any (opsOf Try.f9 17) = potsherdlaw6_PlanLess.T17 := by kernel_rfl
theorem potsherdlaw6_PlanLess.bits17 : waitsOk potsherdlaw6_PlanLess.T17.2 potsherdlaw6_PlanLess.B17 = true := by kernel_rfl
set_option maxHeartbeats 8000000 in
set_option maxRecDepth 100000 in
theorem potsherdlaw6_PlanLess.calls (k : Nat) (a0_0 : Int) (a0_1 : Int) (a0_2 : Int) (a0_3 : Int) (a0_4 : Int) (a1 : Int) (w : World) (h : potsherdlaw6_PlanLess.f k a0_0 a0_1 a0_2 a0_3 a0_4 a1 = some true) :
 Calls Try.prog 9 #[.agg #[.int .i64 a0_0, .int .i64 a0_1, .int .i64 a0_2, .int .i64 a0_3, .int .i64 a0_4], .int .i64 a1] w fun e w' => e = .returned (.bool true) ∧ Below w.heap.size w w' := by
 have hu35 := Try.underlying35; have HB := Aside0.mk (Below.refl w.heap.size w); have H : ((potsherdref3_MayPlan.f a0_0 a0_1 a0_2 a0_3 a0_4).bind fun t127 => (if t127 = true then (if a1 < 0 then (potsherdlaw6_PlanLess.j0 k a1 true a0_0 a0_1 a0_2 a0_3 a0_4) else (potsherdlaw6_PlanLess.j0 k a1 (decide (a1 > 64)) a0_0 a0_1 a0_2 a0_3 a0_4)) else (potsherdlaw6_PlanLess.j0 k a1 true a0_0 a0_1 a0_2 a0_3 a0_4))) = some true := h; clear h; have HC3 := Aside0.mk H; clear H
 go_enter Try.func9, Try.ntmps9
 go_upto_region 1 with (first | ((with_reducible refine gate_dst (N := 2) rfl ?_); refine box_event ?hg (N := 2) ?hd (cs := #[.int .i64 a0_0, .int .i64 a0_1, .int .i64 a0_2, .int .i64 a0_3, .int .i64 a0_4]) (t := 35) ?hr ?_; (case hd => rfl); (case hg => rfl); (case hr => first | (go_simp; done) | (go_simp; rfl)); intro gb126 hg w4 hbox hb; have n0_ := Aside0.mk (below_step (by repeat (first | (with_reducible first | exact HB.out | apply wA | apply wN | apply wD) | exact HB.out)) hb); have n1_ := Aside0.mk (hbox); have n2_ := Aside0.mk ((by rw [hg]; exact (below_size (by repeat (first | (with_reducible first | exact HB.out | apply wA | apply wN | apply wD) | exact HB.out))) : w.heap.size ≤ gb126)); have n3_ := Aside0.mk ((by rw [hg]; exact (below_size (by repeat (first | (with_reducible first | exact HB.out | apply wA | apply wN | apply wD) | exact HB.out))) : w.heap.size ≤ gb126)); clear HB; have HB := n0_; have BK126 := n1_; have GW126 := n2_; have GE126 := n3_; clear n0_ n1_ n2_ n3_; clear hb hbox hg))
 (try simp only [Act.put, lT, l0_, lS])
 go_cut [22] (fun v22 wc => ∃ (kq : Nat) (x22_2 : Bool), v22 = .bool x22_2 ∧ Aside0 (potsherdlaw6_PlanLess.j0 kq a1 x22_2 a0_0 a0_1 a0_2 a0_3 a0_4 = some true) ∧ Aside0 (kq ≤ k) ∧ Aside0 (wc.heap[gb126]? = some (.cells #[.int .i64 a0_0, .int .i64 a0_1, .int .i64 a0_2, .int .i64 a0_3, .int .i64 a0_4] 35 (0, 0))) ∧ Aside0 (Below w.heap.size w wc))
 case first =>
  have H := HC3.out; clear HC3; replace H := Option.bind_eq_some_iff.mp H; obtain ⟨t127, A50, H⟩ := H; replace H : (if t127 = true then (if a1 < 0 then (potsherdlaw6_PlanLess.j0 k a1 true a0_0 a0_1 a0_2 a0_3 a0_4) else (potsherdlaw6_PlanLess.j0 k a1 (decide (a1 > 64)) a0_0 a0_1 a0_2 a0_3 a0_4)) else (potsherdlaw6_PlanLess.j0 k a1 true a0_0 a0_1 a0_2 a0_3 a0_4)) = some true := H; have A5 := Aside0.mk A50; clear A50
  by_cases c6 : t127 = true
  ·
   subst c6
   have H1 : (if a1 < 0 then (potsherdlaw6_PlanLess.j0 k a1 true a0_0 a0_1 a0_2 a0_3 a0_4) else (potsherdlaw6_PlanLess.j0 k a1 (decide (a1 > 64)) a0_0 a0_1 a0_2 a0_3 a0_4)) = some true := by rw [if_pos rfl] at H; exact H
   clear H; have H := H1; clear H1
   by_cases c7 : a1 < 0
   ·
    rw [if_pos c7] at H; have c7b0 : decide (a1 < 0) = true := decide_eq_true c7; clear c7
    (first | rw [c7b0] | (simp only [i64_w, i32_w]; rw [c7b0]) | skip)
    have H' := Aside0.mk H; clear H; have hcz8_0 : w4.cell? ⟨gb126, 0, none⟩ = some (.int .i64 a0_0) := (bC BK126.out 0).trans rfl; have hcz8_1 : w4.cell? ⟨gb126, 1, none⟩ = some (.int .i64 a0_1) := (bC BK126.out 1).trans rfl; have hcz8_2 : w4.cell? ⟨gb126, 2, none⟩ = some (.int .i64 a0_2) := (bC BK126.out 2).trans rfl; have hcz8_3 : w4.cell? ⟨gb126, 3, none⟩ = some (.int .i64 a0_3) := (bC BK126.out 3).trans rfl; have hcz8_4 : w4.cell? ⟨gb126, 4, none⟩ = some (.int .i64 a0_4) := (bC BK126.out 4).trans rfl; have hfz8_0 := bZ BK126.out 0; have hfz8_1 := bZ BK126.out 1; have hfz8_2 := bZ BK126.out 2; have hfz8_3 := bZ BK126.out 3; have hfz8_4 := bZ BK126.out 4
    go_wp2_with (first | ((with_reducible refine gate_callee (f := 23) rfl ?_); refine goesL_ (some 13) rfl rfl Try.func23 (by kernel_rfl) rfl #[.agg #[.int .i64 a0_0, .int .i64 a0_1, .int .i64 a0_2, .int .i64 a0_3, .int .i64 a0_4]] rfl (by (try simp only [List.map_toArray, List.map_cons, List.map_nil]); first | done | rfl | (simp only [List.length_drop, List.length_take]; rfl)) ?_; (with_reducible refine (potsherdref3_MayPlan.calls a0_0 a0_1 a0_2 a0_3 a0_4 true _ A5.out).mono ?_); rintro e w9 ⟨rfl, hb⟩; refine ⟨_, rfl, ?_⟩; have n0_ := Aside0.mk (bB (g := gb126) (o := .cells #[.int .i64 a0_0, .int .i64 a0_1, .int .i64 a0_2, .int .i64 a0_3, .int .i64 a0_4] 35 (0, 0)) (by (with_reducible repeat (first | refine bN ?_ _ | refine bD ?_ | refine bA ?_ _)); exact BK126.out) hb); have n1_ := Aside0.mk (below_step (by repeat (first | (with_reducible first | exact HB.out | apply wA | apply wN | apply wD | refine wS ?_ GE126.out) | exact HB.out)) hb); clear BK126; clear HB; have BK126 := n0_; have HB := n1_; clear n0_ n1_; (try clear hb); (try clear hb2); (try clear hk); (try clear hi)))
    go_meet
    case rel => exact ⟨_, (true), (by first | rfl | (simp; done) | (simp [*]; done)), H', ⟨by first | omega | exact Nat.le_refl _⟩, ⟨by (with_reducible repeat (first | refine bN ?_ _ | refine bD ?_ | refine bA ?_ _)); exact BK126.out⟩, ⟨by repeat (first | (with_reducible first | exact HB.out | apply wA | apply wN | apply wD | refine wS ?_ GE126.out) | exact HB.out)⟩⟩
   ·
    rw [if_neg c7] at H; have c7b0 : decide (a1 < 0) = false := decide_eq_false c7; clear c7
    (first | rw [c7b0] | (simp only [i64_w, i32_w]; rw [c7b0]) | skip)
    have H' := Aside0.mk H; clear H; have hcz10_0 : w4.cell? ⟨gb126, 0, none⟩ = some (.int .i64 a0_0) := (bC BK126.out 0).trans rfl; have hcz10_1 : w4.cell? ⟨gb126, 1, none⟩ = some (.int .i64 a0_1) := (bC BK126.out 1).trans rfl; have hcz10_2 : w4.cell? ⟨gb126, 2, none⟩ = some (.int .i64 a0_2) := (bC BK126.out 2).trans rfl; have hcz10_3 : w4.cell? ⟨gb126, 3, none⟩ = some (.int .i64 a0_3) := (bC BK126.out 3).trans rfl; have hcz10_4 : w4.cell? ⟨gb126, 4, none⟩ = some (.int .i64 a0_4) := (bC BK126.out 4).trans rfl; have hfz10_0 := bZ BK126.out 0; have hfz10_1 := bZ BK126.out 1; have hfz10_2 := bZ BK126.out 2; have hfz10_3 := bZ BK126.out 3; have hfz10_4 := bZ BK126.out 4
    go_wp2_with (first | ((with_reducible refine gate_callee (f := 23) rfl ?_); refine goesL_ (some 13) rfl rfl Try.func23 (by kernel_rfl) rfl #[.agg #[.int .i64 a0_0, .int .i64 a0_1, .int .i64 a0_2, .int .i64 a0_3, .int .i64 a0_4]] rfl (by (try simp only [List.map_toArray, List.map_cons, List.map_nil]); first | done | rfl | (simp only [List.length_drop, List.length_take]; rfl)) ?_; (with_reducible refine (potsherdref3_MayPlan.calls a0_0 a0_1 a0_2 a0_3 a0_4 true _ A5.out).mono ?_); rintro e w11 ⟨rfl, hb⟩; refine ⟨_, rfl, ?_⟩; have n0_ := Aside0.mk (bB (g := gb126) (o := .cells #[.int .i64 a0_0, .int .i64 a0_1, .int .i64 a0_2, .int .i64 a0_3, .int .i64 a0_4] 35 (0, 0)) (by (with_reducible repeat (first | refine bN ?_ _ | refine bD ?_ | refine bA ?_ _)); exact BK126.out) hb); have n1_ := Aside0.mk (below_step (by repeat (first | (with_reducible first | exact HB.out | apply wA | apply wN | apply wD | refine wS ?_ GE126.out) | exact HB.out)) hb); clear BK126; clear HB; have BK126 := n0_; have HB := n1_; clear n0_ n1_; (try clear hb); (try clear hb2); (try clear hk); (try clear hi)))
    go_meet
    case rel => exact ⟨_, (decide (a1 > 64)), (by first | rfl | (simp; done) | (simp [*]; done)), H', ⟨by first | omega | exact Nat.le_refl _⟩, ⟨by (with_reducible repeat (first | refine bN ?_ _ | refine bD ?_ | refine bA ?_ _)); exact BK126.out⟩, ⟨by repeat (first | (with_reducible first | exact HB.out | apply wA | apply wN | apply wD | refine wS ?_ GE126.out) | exact HB.out)⟩⟩
  ·
   replace c6 := Bool.eq_false_iff.mpr c6; subst c6
   have H1 : (potsherdlaw6_PlanLess.j0 k a1 true a0_0 a0_1 a0_2 a0_3 a0_4) = some true := by rw [if_neg (show ¬ (false = true) by decide)] at H; exact H
   clear H; have H := H1; clear H1; have H' := Aside0.mk H; clear H; have hcz12_0 : w4.cell? ⟨gb126, 0, none⟩ = some (.int .i64 a0_0) := (bC BK126.out 0).trans rfl; have hcz12_1 : w4.cell? ⟨gb126, 1, none⟩ = some (.int .i64 a0_1) := (bC BK126.out 1).trans rfl; have hcz12_2 : w4.cell? ⟨gb126, 2, none⟩ = some (.int .i64 a0_2) := (bC BK126.out 2).trans rfl; have hcz12_3 : w4.cell? ⟨gb126, 3, none⟩ = some (.int .i64 a0_3) := (bC BK126.out 3).trans rfl; have hcz12_4 : w4.cell? ⟨gb126, 4, none⟩ = some (.int .i64 a0_4) := (bC BK126.out 4).trans rfl; have hfz12_0 := bZ BK126.out 0; have hfz12_1 := bZ BK126.out 1; have hfz12_2 := bZ BK126.out 2; have hfz12_3 := bZ BK126.out 3; have hfz12_4 := bZ BK126.out 4
   go_wp2_with (first | ((with_reducible refine gate_callee (f := 23) rfl ?_); refine goesL_ (some 13) rfl rfl Try.func23 (by kernel_rfl) rfl #[.agg #[.int .i64 a0_0, .int .i64 a0_1, .int .i64 a0_2, .int .i64 a0_3, .int .i64 a0_4]] rfl (by (try simp only [List.map_toArray, List.map_cons, List.map_nil]); first | done | rfl | (simp only [List.length_drop, List.length_take]; rfl)) ?_; (with_reducible refine (potsherdref3_MayPlan.calls a0_0 a0_1 a0_2 a0_3 a0_4 false _ A5.out).mono ?_); rintro e w13 ⟨rfl, hb⟩; refine ⟨_, rfl, ?_⟩; have n0_ := Aside0.mk (bB (g := gb126) (o := .cells #[.int .i64 a0_0, .int .i64 a0_1, .int .i64 a0_2, .int .i64 a0_3, .int .i64 a0_4] 35 (0, 0)) (by (with_reducible repeat (first | refine bN ?_ _ | refine bD ?_ | refine bA ?_ _)); exact BK126.out) hb); have n1_ := Aside0.mk (below_step (by repeat (first | (with_reducible first | exact HB.out | apply wA | apply wN | apply wD | refine wS ?_ GE126.out) | exact HB.out)) hb); clear BK126; clear HB; have BK126 := n0_; have HB := n1_; clear n0_ n1_; (try clear hb); (try clear hb2); (try clear hk); (try clear hi)))
   go_meet
   case rel => exact ⟨_, (true), (by first | rfl | (simp; done) | (simp [*]; done)), H', ⟨by first | omega | exact Nat.le_refl _⟩, ⟨by (with_reducible repeat (first | refine bN ?_ _ | refine bD ?_ | refine bA ?_ _)); exact BK126.out⟩, ⟨by repeat (first | (with_reducible first | exact HB.out | apply wA | apply wN | apply wD | refine wS ?_ GE126.out) | exact HB.out)⟩⟩
 case rest =>
  clear HC3
  try clear c2
  try clear p2
  try clear c6
  try clear c7
  try clear c7b0
  try clear c9
  try clear hcz10_0
  try clear hcz10_1
  try clear hcz10_2
  try clear hcz10_3
  try clear hcz10_4
  try clear hcz12_0
  try clear hcz12_1
  try clear hcz12_2
  try clear hcz12_3
  try clear hcz12_4
  try clear hcz8_0
  try clear hcz8_1
  try clear hcz8_2
  try clear hcz8_3
  try clear hcz8_4
  try clear hfz10_0
  try clear hfz10_1
  try clear hfz10_2
  try clear hfz10_3
  try clear hfz10_4
  try clear hfz12_0
  try clear hfz12_1
  try clear hfz12_2
  try clear hfz12_3
  try clear hfz12_4
  try clear hfz8_0
  try clear hfz8_1
  try clear hfz8_2
  try clear hfz8_3
  try clear hfz8_4
  obtain ⟨kq, x22_2, rfl, HA, HJ2, BK126, HB⟩ := hcut
  cases kq with
  | zero => exact absurd HA.out (by simp [potsherdlaw6_PlanLess.j0])
  | succ kj2 =>
   have H := HA.out; clear HA; simp only [potsherdlaw6_PlanLess.j0] at H
   by_cases c14 : x22_2 = true
   ·
    subst c14
    have H1 : ((plan_May.f a0_0 a0_1 a0_2 a0_3 a0_4).bind fun t128 => ((potsherdref3_MayPlan.f a0_0 a0_1 a0_2 a0_3 a0_4).bind fun t129 => (if ((!t128) == (!t129)) = true then ((potsherdlaw6_awake.f).bind fun t130 => (some t130)) else (some false)))) = some true := by rw [if_pos rfl] at H; exact H
    clear H; have H := H1; clear H1; replace H := Option.bind_eq_some_iff.mp H; obtain ⟨t128, A150, H⟩ := H; replace H : ((potsherdref3_MayPlan.f a0_0 a0_1 a0_2 a0_3 a0_4).bind fun t129 => (if ((!t128) == (!t129)) = true then ((potsherdlaw6_awake.f).bind fun t130 => (some t130)) else (some false))) = some true := H; have A15 := Aside0.mk A150; clear A150; replace H := Option.bind_eq_some_iff.mp H; obtain ⟨t129, A160, H⟩ := H; replace H : (if ((!t128) == (!t129)) = true then ((potsherdlaw6_awake.f).bind fun t130 => (some t130)) else (some false)) = some true := H; have A16 := Aside0.mk A160; clear A160
    by_cases c17 : ((!t128) == (!t129)) = true
    ·
     rw [if_pos c17] at H; have c17b0 : ((!t128) == (!t129)) = true := c17
     (try (have c17b1 : decide ((!t128) = (!t129)) = true := by simpa using c17))
     (try (have c17b2 : ((!t128) == (!t129)) = true := by simpa using c17))
     clear c17; replace H := Option.bind_eq_some_iff.mp H; obtain ⟨t130, A180, H⟩ := H; replace H : (some t130) = some true := H; have A18 := Aside0.mk A180; clear A180; have HRET := Aside0.mk (Option.some.inj H); clear H
     try go_wp2
     have n0_ := Aside0.mk (bD BK126.out); have n1_ := Aside0.mk (wD HB.out); clear BK126; clear HB; have BK126 := n0_; have HB := n1_; clear n0_ n1_; refine start_ (n := 11) (S := fun w' => w'.cell? ⟨gb126, 0, none⟩ = some (.int .i64 a0_0) ∧ w'.cell? ⟨gb126, 1, none⟩ = some (.int .i64 a0_1) ∧ w'.cell? ⟨gb126, 2, none⟩ = some (.int .i64 a0_2) ∧ w'.cell? ⟨gb126, 3, none⟩ = some (.int .i64 a0_3) ∧ w'.cell? ⟨gb126, 4, none⟩ = some (.int .i64 a0_4)) (ds := []) B_0 (by kernel_rfl) rfl rfl ⟨(bC BK126.out 0).trans rfl, (bC BK126.out 1).trans rfl, (bC BK126.out 2).trans rfl, (bC BK126.out 3).trans rfl, (bC BK126.out 4).trans rfl⟩ (fun hHeld => ?_); refine with_tabW potsherdlaw6_PlanLess.tab2 potsherdlaw6_PlanLess.bits2 (fun HT_ HW_ => ?_); generalize wc.drew = w19 at BK126 HB hHeld ⊢; refine take_ (i := 0) (N := some 23) (v := ?_) (a' := ?_) B_1 rfl rfl (take_ofW HT_.out HW_.out (by kernel_rfl)) (fun _ _ _ h => h) (Or.inl ⟨by rfl, ?_⟩) hHeld ?_ ?_; rotate_left
     ·
      rintro w' ⟨s0, s1, s2, s3, s4⟩; go_simp; with_reducible rfl
     rotate_left
     ·
      simp only [Act.put, lT, l0_, lS, i64_w, i32_w]; rfl
     refine take_ (i := 3) (N := some 26) (v := ?_) (a' := ?_) B_2 rfl rfl (take_ofW HT_.out HW_.out (by kernel_rfl)) (fun _ _ _ h => h) (Or.inl ⟨by rfl, ?_⟩) hHeld ?_ ?_; rotate_left
     ·
      rintro w' ⟨s0, s1, s2, s3, s4⟩; go_simp; with_reducible rfl
     rotate_left
     ·
      simp only [Act.put, lT, l0_, lS, i64_w, i32_w]; rfl
     refine one_ (i := 1) (N := some 24) B_3 rfl rfl (one_of HT_.out (by kernel_rfl)) (by decide) (fun K hK => ?_); refine goes_ Try.func22 (by kernel_rfl) rfl #[.agg #[.int .i64 a0_0, .int .i64 a0_1, .int .i64 a0_2, .int .i64 a0_3, .int .i64 a0_4]] (by rfl) rfl rfl (by (try simp only [List.map_toArray, List.map_cons, List.map_nil]); first | done | rfl | (simp only [List.length_drop, List.length_take]; rfl)) ?_
     with_reducible refine (plan_May.calls a0_0 a0_1 a0_2 a0_3 a0_4 t128 _ A15.out).mono ?_
     rintro e w20 ⟨rfl, hb⟩; refine ⟨_, rfl, ?_⟩; have n0_ := Aside0.mk (bB (g := gb126) (o := .cells #[.int .i64 a0_0, .int .i64 a0_1, .int .i64 a0_2, .int .i64 a0_3, .int .i64 a0_4] 35 (0, 0)) (by (with_reducible repeat (first | refine bN ?_ _ | refine bD ?_ | refine bA ?_ _)); exact BK126.out) hb)
     have n1_ := Aside0.mk (below_step (by repeat (first | (with_reducible first | exact HB.out | apply wA | apply wN | apply wD | refine wS ?_ GE126.out) | exact HB.out)) hb); clear BK126; clear HB; have BK126 := n0_; have HB := n1_; clear n0_ n1_
     (try clear hb)
     (try clear hb2)
     (try clear hk)
     (try clear hi)
     refine hK.out _ _ ⟨(bC BK126.out 0).trans rfl, (bC BK126.out 1).trans rfl, (bC BK126.out 2).trans rfl, (bC BK126.out 3).trans rfl, (bC BK126.out 4).trans rfl⟩ (fun hHeld => ?_); clear hK K; refine norm_ (a' := ?_) ?_ ?_; rotate_left
     ·
      show Act.put _ (some 24) _ = _
      simp only [Act.put, lT, l0_, lS, i64_w, i32_w]; rfl
     refine pure_ (i := 2) (N := some 25) (v := ?_) (a' := ?_) B_4 rfl rfl (any_of HT_.out (by kernel_rfl)) (fun _ _ _ h => h) (Or.inl ⟨by rfl, ?_⟩) ?_ ?_; rotate_left
     ·
      intro w'; go_simp; with_reducible rfl
     rotate_left
     ·
      simp only [Act.put, lT, l0_, lS, i64_w, i32_w]; rfl
     refine one_ (i := 4) (N := some 27) B_5 rfl rfl (one_of HT_.out (by kernel_rfl)) (by decide) (fun K hK => ?_); refine goes_ Try.func23 (by kernel_rfl) rfl #[.agg #[.int .i64 a0_0, .int .i64 a0_1, .int .i64 a0_2, .int .i64 a0_3, .int .i64 a0_4]] (by rfl) rfl rfl (by (try simp only [List.map_toArray, List.map_cons, List.map_nil]); first | done | rfl | (simp only [List.length_drop, List.length_take]; rfl)) ?_
     with_reducible refine (potsherdref3_MayPlan.calls a0_0 a0_1 a0_2 a0_3 a0_4 t129 _ A16.out).mono ?_
     rintro e w21 ⟨rfl, hb⟩; refine ⟨_, rfl, ?_⟩; have n0_ := Aside0.mk (bB (g := gb126) (o := .cells #[.int .i64 a0_0, .int .i64 a0_1, .int .i64 a0_2, .int .i64 a0_3, .int .i64 a0_4] 35 (0, 0)) (by (with_reducible repeat (first | refine bN ?_ _ | refine bD ?_ | refine bA ?_ _)); exact BK126.out) hb)
     have n1_ := Aside0.mk (below_step (by repeat (first | (with_reducible first | exact HB.out | apply wA | apply wN | apply wD | refine wS ?_ GE126.out) | exact HB.out)) hb); clear BK126; clear HB; have BK126 := n0_; have HB := n1_; clear n0_ n1_
     (try clear hb)
     (try clear hb2)
     (try clear hk)
     (try clear hi)
     refine hK.out _ _ ⟨(bC BK126.out 0).trans rfl, (bC BK126.out 1).trans rfl, (bC BK126.out 2).trans rfl, (bC BK126.out 3).trans rfl, (bC BK126.out 4).trans rfl⟩ (fun hHeld => ?_); clear hK K; refine norm_ (a' := ?_) ?_ ?_; rotate_left
     ·
      show Act.put _ (some 27) _ = _
      simp only [Act.put, lT, l0_, lS, i64_w, i32_w]; rfl
     refine pure_ (i := 5) (N := some 28) (v := ?_) (a' := ?_) B_6 rfl rfl (any_of HT_.out (by kernel_rfl)) (fun _ _ _ h => h) (Or.inl ⟨by rfl, ?_⟩) ?_ ?_; rotate_left
     ·
      intro w'; go_simp; with_reducible rfl
     rotate_left
     ·
      simp only [Act.put, lT, l0_, lS, i64_w, i32_w]; rfl
     refine pure_ (i := 6) (N := some 29) (v := ?_) (a' := ?_) B_7 rfl rfl (any_of HT_.out (by kernel_rfl)) (fun _ _ _ h => h) (Or.inl ⟨by rfl, ?_⟩) ?_ ?_; rotate_left
     ·
      intro w'; go_simp; with_reducible rfl
     rotate_left
     ·
      simp only [Act.put, lT, l0_, lS, i64_w, i32_w]; rfl
     refine pure_ (i := 7) (N := some 30) (v := ?_) (a' := ?_) B_8 rfl rfl (any_of HT_.out (by kernel_rfl)) (fun _ _ _ h => h) (Or.inl ⟨by rfl, ?_⟩) ?_ ?_; rotate_left
     ·
      intro w'; go_simp; with_reducible rfl
     rotate_left
     ·
      simp only [Act.put, lT, l0_, lS, i64_w, i32_w]; rfl
     refine one_ (i := 8) (N := some 31) B_9 rfl rfl (one_of HT_.out (by kernel_rfl)) (by decide) (fun K hK => ?_); refine goes_ Try.func32 (by kernel_rfl) rfl #[] (by rfl) rfl rfl (by (try simp only [List.map_toArray, List.map_cons, List.map_nil]); first | done | rfl | (simp only [List.length_drop, List.length_take]; rfl)) ?_
     with_reducible refine (potsherdlaw6_awake.calls  t130 _ A18.out).mono ?_
     rintro e w22 ⟨rfl, hb⟩; refine ⟨_, rfl, ?_⟩; have n0_ := Aside0.mk (bB (g := gb126) (o := .cells #[.int .i64 a0_0, .int .i64 a0_1, .int .i64 a0_2, .int .i64 a0_3, .int .i64 a0_4] 35 (0, 0)) (by (with_reducible repeat (first | refine bN ?_ _ | refine bD ?_ | refine bA ?_ _)); exact BK126.out) hb)
     have n1_ := Aside0.mk (below_step (by repeat (first | (with_reducible first | exact HB.out | apply wA | apply wN | apply wD | refine wS ?_ GE126.out) | exact HB.out)) hb); clear BK126; clear HB; have BK126 := n0_; have HB := n1_; clear n0_ n1_
     (try clear hb)
     (try clear hb2)
     (try clear hk)
     (try clear hi)
     refine hK.out _ _ ⟨(bC BK126.out 0).trans rfl, (bC BK126.out 1).trans rfl, (bC BK126.out 2).trans rfl, (bC BK126.out 3).trans rfl, (bC BK126.out 4).trans rfl⟩ (fun hHeld => ?_); clear hK K; refine norm_ (a' := ?_) ?_ ?_; rotate_left
     ·
      show Act.put _ (some 31) _ = _
      simp only [Act.put, lT, l0_, lS, i64_w, i32_w]; rfl
     refine pure_ (i := 9) (N := some 32) (v := ?_) (a' := ?_) B_10 rfl rfl (any_of HT_.out (by kernel_rfl)) (fun _ _ _ h => h) (Or.inl ⟨by rfl, ?_⟩) ?_ ?_; rotate_left
     ·
      intro w'; go_simp; with_reducible rfl
     rotate_left
     ·
      simp only [Act.put, lT, l0_, lS, i64_w, i32_w]; rfl
     refine pure_ (i := 10) (N := some 4) (v := ?_) (a' := ?_) B_11 rfl rfl (any_of HT_.out (by kernel_rfl)) (fun _ _ _ h => h) (Or.inl ⟨by rfl, ?_⟩) ?_ ?_; rotate_left
     ·
      intro w'; go_simp; with_reducible rfl
     rotate_left
     ·
      simp only [Act.put, lT, l0_, lS, i64_w, i32_w]; rfl
     refine done_ (done_of HT_.out (by kernel_rfl)) ?_
     try go_wp2
     go_ret
     exact ⟨by first | rfl | exact congrArg (fun b_ => Ending.returned (Value.bool b_)) HRET.out | (rw [HRET.out]) | (simp [errW_none, errW_some] <;> rfl) | (simp [*, errW_none, errW_some] <;> rfl), by repeat (first | (with_reducible first | exact HB.out | apply wA | apply wN | apply wD | refine wS ?_ GE126.out) | exact HB.out)⟩
    ·
     rw [if_neg c17] at H
     have c17b0 : ((!t128) == (!t129)) = false := by simpa using c17
     (try (have c17b1 : decide ((!t128) = (!t129)) = false := by simpa using c17))
     (try (have c17b2 : ((!t128) == (!t129)) = false := by simpa using c17))
     (try (have c17b3 : ¬ ((!t128) = (!t129)) := by simpa using c17))
     clear c17; exact absurd H (by simp)
   ·
    replace c14 := Bool.eq_false_iff.mpr c14; subst c14
    have H1 : ((some (([(⟨wrap64 (a0_0 + 1), a0_1, a0_2, a0_3, a0_4⟩ : S35), (⟨a0_0, wrap64 (a0_1 + 1), a0_2, a0_3, a0_4⟩ : S35), (⟨a0_0, a0_1, wrap64 (a0_2 - 1), a0_3, a0_4⟩ : S35), (⟨a0_0, a0_1, a0_2, wrap64 (a0_3 - 1), a0_4⟩ : S35)] : List (S35)) : List (S35))).bind fun y135 => (potsherdlaw6_PlanLess.l0 kj2 a1 y135 (y135.length : Int) 0 a0_0 a0_1 a0_2 a0_3 a0_4)) = some true := by rw [if_neg (show ¬ (false = true) by decide)] at H; exact H
    clear H; have H := H1; clear H1; obtain ⟨y135, hy135⟩ : ∃ y_ : List (S35), y_ = (([(⟨wrap64 (a0_0 + 1), a0_1, a0_2, a0_3, a0_4⟩ : S35), (⟨a0_0, wrap64 (a0_1 + 1), a0_2, a0_3, a0_4⟩ : S35), (⟨a0_0, a0_1, wrap64 (a0_2 - 1), a0_3, a0_4⟩ : S35), (⟨a0_0, a0_1, a0_2, wrap64 (a0_3 - 1), a0_4⟩ : S35)] : List (S35))) := ⟨_, rfl⟩
    replace H : (potsherdlaw6_PlanLess.l0 kj2 a1 y135 (y135.length : Int) 0 a0_0 a0_1 a0_2 a0_3 a0_4) = some true := by first | (rw [hy135]; with_reducible exact H) | (have H2_ := (Option.bind_some _ _).symm.trans H; rw [hy135]; with_reducible exact H2_) | (have H2_ := (Option.bind_some _ _).symm.trans H; with_reducible exact H2_) | with_reducible exact H | (rw [hy135]; exact H) | exact H
    have Ny135 := Aside0.mk hy135; clear hy135; have H' := Aside0.mk H; clear H
    try go_wp2
    have n0_ := Aside0.mk (bD BK126.out); have n1_ := Aside0.mk (wD HB.out); clear BK126; clear HB; have BK126 := n0_; have HB := n1_; clear n0_ n1_; refine start_ (n := 12) (S := fun w' => True) (ds := []) B_12 (by kernel_rfl) rfl rfl trivial (fun hHeld => ?_); refine with_tabW potsherdlaw6_PlanLess.tab3 potsherdlaw6_PlanLess.bits3 (fun HT_ HW_ => ?_); generalize wc.drew = w23 at BK126 HB hHeld ⊢; refine inv_at [0, 1, 2, 3, 4, 5, 6, 7, 8, 9, 10, 11] (fun a0_ b a w' => ∃ (gb131 : Nat) (gb132 : Nat) (gb133 : Nat) (gb134 : Nat) (m4_ : Value) (m5_ : Value) (m6_ : Value) (m7_ : Value), a = putSel a0_ b [(0, 33, .agg #[.int .i64 a0_0, .int .i64 a0_1, .int .i64 a0_2, .int .i64 a0_3, .int .i64 a0_4]), (1, 34, .agg #[.int .i64 a0_0, .int .i64 a0_1, .int .i64 a0_2, .int .i64 a0_3, .int .i64 a0_4]), (2, 35, .agg #[.int .i64 a0_0, .int .i64 a0_1, .int .i64 a0_2, .int .i64 a0_3, .int .i64 a0_4]), (3, 36, .agg #[.int .i64 a0_0, .int .i64 a0_1, .int .i64 a0_2, .int .i64 a0_3, .int .i64 a0_4]), (4, 5, m4_), (5, 6, m5_), (6, 7, m6_), (7, 8, m7_)] ∧ (w'.heap[gb126]? = some (.cells #[.int .i64 a0_0, .int .i64 a0_1, .int .i64 a0_2, .int .i64 a0_3, .int .i64 a0_4] 35 (0, 0))) ∧ (Below w.heap.size w w') ∧ (b 4 = true → b 5 = true → gb132 ≠ gb131) ∧ (b 4 = true → b 5 = true → gb131 ≠ gb132) ∧ (b 4 = true → b 6 = true → gb133 ≠ gb131) ∧ (b 4 = true → b 6 = true → gb131 ≠ gb133) ∧ (b 4 = true → b 7 = true → gb134 ≠ gb131) ∧ (b 4 = true → b 7 = true → gb131 ≠ gb134) ∧ (b 5 = true → b 6 = true → gb133 ≠ gb132) ∧ (b 5 = true → b 6 = true → gb132 ≠ gb133) ∧ (b 5 = true → b 7 = true → gb134 ≠ gb132) ∧ (b 5 = true → b 7 = true → gb132 ≠ gb134) ∧ (b 6 = true → b 7 = true → gb134 ≠ gb133) ∧ (b 6 = true → b 7 = true → gb133 ≠ gb134) ∧ (b 4 = true → b 8 = false → w'.heap[gb131]? = some (.cells #[.int .i64 0, .int .i64 0, .int .i64 0, .int .i64 0, .int .i64 0] 35 (0, 0))) ∧ (b 4 = true → w.heap.size ≤ gb131) ∧ (b 4 = true → w.heap.size ≤ gb131) ∧ (b 4 = true → gb126 ≠ gb131) ∧ (b 4 = true → gb131 ≠ gb126) ∧ (b 5 = true → b 9 = false → w'.heap[gb132]? = some (.cells #[.int .i64 0, .int .i64 0, .int .i64 0, .int .i64 0, .int .i64 0] 35 (0, 0))) ∧ (b 5 = true → w.heap.size ≤ gb132) ∧ (b 5 = true → w.heap.size ≤ gb132) ∧ (b 5 = true → gb126 ≠ gb132) ∧ (b 5 = true → gb132 ≠ gb126) ∧ (b 6 = true → b 10 = false → w'.heap[gb133]? = some (.cells #[.int .i64 0, .int .i64 0, .int .i64 0, .int .i64 0, .int .i64 0] 35 (0, 0))) ∧ (b 6 = true → w.heap.size ≤ gb133) ∧ (b 6 = true → w.heap.size ≤ gb133) ∧ (b 6 = true → gb126 ≠ gb133) ∧ (b 6 = true → gb133 ≠ gb126) ∧ (b 7 = true → b 11 = false → w'.heap[gb134]? = some (.cells #[.int .i64 0, .int .i64 0, .int .i64 0, .int .i64 0, .int .i64 0] 35 (0, 0))) ∧ (b 7 = true → w.heap.size ≤ gb134) ∧ (b 7 = true → w.heap.size ≤ gb134) ∧ (b 7 = true → gb126 ≠ gb134) ∧ (b 7 = true → gb134 ≠ gb126) ∧ (b 8 = true → w'.heap[gb131]? = some (.cells #[.int .i64 a0_0, .int .i64 a0_1, .int .i64 a0_2, .int .i64 a0_3, .int .i64 a0_4] 35 (0, 0))) ∧ (b 9 = true → w'.heap[gb132]? = some (.cells #[.int .i64 a0_0, .int .i64 a0_1, .int .i64 a0_2, .int .i64 a0_3, .int .i64 a0_4] 35 (0, 0))) ∧ (b 10 = true → w'.heap[gb133]? = some (.cells #[.int .i64 a0_0, .int .i64 a0_1, .int .i64 a0_2, .int .i64 a0_3, .int .i64 a0_4] 35 (0, 0))) ∧ (b 11 = true → w'.heap[gb134]? = some (.cells #[.int .i64 a0_0, .int .i64 a0_1, .int .i64 a0_2, .int .i64 a0_3, .int .i64 a0_4] 35 (0, 0))) ∧ (b 4 = true → (m4_ : Value) = .pointer (some ⟨gb131, 0, none⟩)) ∧ (b 5 = true → (m5_ : Value) = .pointer (some ⟨gb132, 0, none⟩)) ∧ (b 6 = true → (m6_ : Value) = .pointer (some ⟨gb133, 0, none⟩)) ∧ (b 7 = true → (m7_ : Value) = .pointer (some ⟨gb134, 0, none⟩))) HT_.out HW_.out (by kernel_rfl) (by kernel_rfl) ?_ ?_ ?_
    ·
     exact ⟨0, 0, 0, 0, .bool false, .bool false, .bool false, .bool false, by simp only [putSel, Bool.false_eq_true, if_false], BK126.out, HB.out, fun h_ => absurd h_ (by decide), fun h_ => absurd h_ (by decide), fun h_ => absurd h_ (by decide), fun h_ => absurd h_ (by decide), fun h_ => absurd h_ (by decide), fun h_ => absurd h_ (by decide), fun h_ => absurd h_ (by decide), fun h_ => absurd h_ (by decide), fun h_ => absurd h_ (by decide), fun h_ => absurd h_ (by decide), fun h_ => absurd h_ (by decide), fun h_ => absurd h_ (by decide), fun h_ => absurd h_ (by decide), fun h_ => absurd h_ (by decide), fun h_ => absurd h_ (by decide), fun h_ => absurd h_ (by decide), fun h_ => absurd h_ (by decide), fun h_ => absurd h_ (by decide), fun h_ => absurd h_ (by decide), fun h_ => absurd h_ (by decide), fun h_ => absurd h_ (by decide), fun h_ => absurd h_ (by decide), fun h_ => absurd h_ (by decide), fun h_ => absurd h_ (by decide), fun h_ => absurd h_ (by decide), fun h_ => absurd h_ (by decide), fun h_ => absurd h_ (by decide), fun h_ => absurd h_ (by decide), fun h_ => absurd h_ (by decide), fun h_ => absurd h_ (by decide), fun h_ => absurd h_ (by decide), fun h_ => absurd h_ (by decide), fun h_ => absurd h_ (by decide), fun h_ => absurd h_ (by decide), fun h_ => absurd h_ (by decide), fun h_ => absurd h_ (by decide), fun h_ => absurd h_ (by decide), fun h_ => absurd h_ (by decide), fun h_ => absurd h_ (by decide), fun h_ => absurd h_ (by decide)⟩
    ·
     skip
     clear BK126 HB; refine steps_cons ?_ ?_
     ·
      rintro b a w' ⟨gb131, gb132, gb133, gb134, m4_, m5_, m6_, m7_, ha, Q_BK126, Q_HB, Q_NB132_131, Q_NB131_132, Q_NB133_131, Q_NB131_133, Q_NB134_131, Q_NB131_134, Q_NB133_132, Q_NB132_133, Q_NB134_132, Q_NB132_134, Q_NB134_133, Q_NB133_134, Q_BK131, Q_GW131, Q_GE131, Q_NB126_131, Q_NB131_126, Q_BK132, Q_GW132, Q_GE132, Q_NB126_132, Q_NB132_126, Q_BK133, Q_GW133, Q_GE133, Q_NB126_133, Q_NB133_126, Q_BK134, Q_GW134, Q_GE134, Q_NB126_134, Q_NB134_126, Q_BK131_e8, Q_BK132_e9, Q_BK133_e10, Q_BK134_e11, Q_X4_, Q_X5_, Q_X6_, Q_X7_⟩ hb_ hon hoff; refine ⟨_, rfl, fun K hK => ?_⟩
      have e2 : a.tmps[2]? = some (.pointer (some ⟨gb126, 0, none⟩)) := by rw [ha]; exact (putSel_off rfl).trans rfl
      replace ha := Aside0.mk ha; have BK126 := Aside0.mk Q_BK126; have HB := Aside0.mk Q_HB; have hc0_ : w'.cell? ⟨gb126, 0, none⟩ = some (.int .i64 a0_0) := (bC BK126.out 0).trans rfl; have hc1_ : w'.cell? ⟨gb126, 1, none⟩ = some (.int .i64 a0_1) := (bC BK126.out 1).trans rfl; have hc2_ : w'.cell? ⟨gb126, 2, none⟩ = some (.int .i64 a0_2) := (bC BK126.out 2).trans rfl; have hc3_ : w'.cell? ⟨gb126, 3, none⟩ = some (.int .i64 a0_3) := (bC BK126.out 3).trans rfl; have hc4_ : w'.cell? ⟨gb126, 4, none⟩ = some (.int .i64 a0_4) := (bC BK126.out 4).trans rfl; refine value_ (w1 := w') (v := .agg #[.int .i64 a0_0, .int .i64 a0_1, .int .i64 a0_2, .int .i64 a0_3, .int .i64 a0_4]) (by rfl) rfl ?_ ?_
      ·
       go_simp
       (try simp only [i64_w])
       try rfl
      refine hK.out _ _ ⟨gb131, gb132, gb133, gb134, m4_, m5_, m6_, m7_, (by rw [ha.out]; exact putSel_upk 0 hb_ rfl rfl rfl), Q_BK126, Q_HB, Q_NB132_131, Q_NB131_132, Q_NB133_131, Q_NB131_133, Q_NB134_131, Q_NB131_134, Q_NB133_132, Q_NB132_133, Q_NB134_132, Q_NB132_134, Q_NB134_133, Q_NB133_134, Q_BK131, Q_GW131, Q_GE131, Q_NB126_131, Q_NB131_126, Q_BK132, Q_GW132, Q_GE132, Q_NB126_132, Q_NB132_126, Q_BK133, Q_GW133, Q_GE133, Q_NB126_133, Q_NB133_126, Q_BK134, Q_GW134, Q_GE134, Q_NB126_134, Q_NB134_126, fun h0_ => absurd ((hoff 8 (by kernel_rfl)).symm.trans h0_) (by decide), fun h0_ => absurd ((hoff 9 (by kernel_rfl)).symm.trans h0_) (by decide), fun h0_ => absurd ((hoff 10 (by kernel_rfl)).symm.trans h0_) (by decide), fun h0_ => absurd ((hoff 11 (by kernel_rfl)).symm.trans h0_) (by decide), Q_X4_, Q_X5_, Q_X6_, Q_X7_⟩
     refine steps_cons ?_ ?_
     ·
      rintro b a w' ⟨gb131, gb132, gb133, gb134, m4_, m5_, m6_, m7_, ha, Q_BK126, Q_HB, Q_NB132_131, Q_NB131_132, Q_NB133_131, Q_NB131_133, Q_NB134_131, Q_NB131_134, Q_NB133_132, Q_NB132_133, Q_NB134_132, Q_NB132_134, Q_NB134_133, Q_NB133_134, Q_BK131, Q_GW131, Q_GE131, Q_NB126_131, Q_NB131_126, Q_BK132, Q_GW132, Q_GE132, Q_NB126_132, Q_NB132_126, Q_BK133, Q_GW133, Q_GE133, Q_NB126_133, Q_NB133_126, Q_BK134, Q_GW134, Q_GE134, Q_NB126_134, Q_NB134_126, Q_BK131_e8, Q_BK132_e9, Q_BK133_e10, Q_BK134_e11, Q_X4_, Q_X5_, Q_X6_, Q_X7_⟩ hb_ hon hoff; refine ⟨_, rfl, fun K hK => ?_⟩
      have e2 : a.tmps[2]? = some (.pointer (some ⟨gb126, 0, none⟩)) := by rw [ha]; exact (putSel_off rfl).trans rfl
      replace ha := Aside0.mk ha; have BK126 := Aside0.mk Q_BK126; have HB := Aside0.mk Q_HB; have hc0_ : w'.cell? ⟨gb126, 0, none⟩ = some (.int .i64 a0_0) := (bC BK126.out 0).trans rfl; have hc1_ : w'.cell? ⟨gb126, 1, none⟩ = some (.int .i64 a0_1) := (bC BK126.out 1).trans rfl; have hc2_ : w'.cell? ⟨gb126, 2, none⟩ = some (.int .i64 a0_2) := (bC BK126.out 2).trans rfl; have hc3_ : w'.cell? ⟨gb126, 3, none⟩ = some (.int .i64 a0_3) := (bC BK126.out 3).trans rfl; have hc4_ : w'.cell? ⟨gb126, 4, none⟩ = some (.int .i64 a0_4) := (bC BK126.out 4).trans rfl; refine value_ (w1 := w') (v := .agg #[.int .i64 a0_0, .int .i64 a0_1, .int .i64 a0_2, .int .i64 a0_3, .int .i64 a0_4]) (by rfl) rfl ?_ ?_
      ·
       go_simp
       (try simp only [i64_w])
       try rfl
      refine hK.out _ _ ⟨gb131, gb132, gb133, gb134, m4_, m5_, m6_, m7_, (by rw [ha.out]; exact putSel_upk 1 hb_ rfl rfl rfl), Q_BK126, Q_HB, Q_NB132_131, Q_NB131_132, Q_NB133_131, Q_NB131_133, Q_NB134_131, Q_NB131_134, Q_NB133_132, Q_NB132_133, Q_NB134_132, Q_NB132_134, Q_NB134_133, Q_NB133_134, Q_BK131, Q_GW131, Q_GE131, Q_NB126_131, Q_NB131_126, Q_BK132, Q_GW132, Q_GE132, Q_NB126_132, Q_NB132_126, Q_BK133, Q_GW133, Q_GE133, Q_NB126_133, Q_NB133_126, Q_BK134, Q_GW134, Q_GE134, Q_NB126_134, Q_NB134_126, Q_BK131_e8, fun h0_ => absurd ((hoff 9 (by kernel_rfl)).symm.trans h0_) (by decide), fun h0_ => absurd ((hoff 10 (by kernel_rfl)).symm.trans h0_) (by decide), fun h0_ => absurd ((hoff 11 (by kernel_rfl)).symm.trans h0_) (by decide), Q_X4_, Q_X5_, Q_X6_, Q_X7_⟩
     refine steps_cons ?_ ?_
     ·
      rintro b a w' ⟨gb131, gb132, gb133, gb134, m4_, m5_, m6_, m7_, ha, Q_BK126, Q_HB, Q_NB132_131, Q_NB131_132, Q_NB133_131, Q_NB131_133, Q_NB134_131, Q_NB131_134, Q_NB133_132, Q_NB132_133, Q_NB134_132, Q_NB132_134, Q_NB134_133, Q_NB133_134, Q_BK131, Q_GW131, Q_GE131, Q_NB126_131, Q_NB131_126, Q_BK132, Q_GW132, Q_GE132, Q_NB126_132, Q_NB132_126, Q_BK133, Q_GW133, Q_GE133, Q_NB126_133, Q_NB133_126, Q_BK134, Q_GW134, Q_GE134, Q_NB126_134, Q_NB134_126, Q_BK131_e8, Q_BK132_e9, Q_BK133_e10, Q_BK134_e11, Q_X4_, Q_X5_, Q_X6_, Q_X7_⟩ hb_ hon hoff; refine ⟨_, rfl, fun K hK => ?_⟩
      have e2 : a.tmps[2]? = some (.pointer (some ⟨gb126, 0, none⟩)) := by rw [ha]; exact (putSel_off rfl).trans rfl
      replace ha := Aside0.mk ha; have BK126 := Aside0.mk Q_BK126; have HB := Aside0.mk Q_HB; have hc0_ : w'.cell? ⟨gb126, 0, none⟩ = some (.int .i64 a0_0) := (bC BK126.out 0).trans rfl; have hc1_ : w'.cell? ⟨gb126, 1, none⟩ = some (.int .i64 a0_1) := (bC BK126.out 1).trans rfl; have hc2_ : w'.cell? ⟨gb126, 2, none⟩ = some (.int .i64 a0_2) := (bC BK126.out 2).trans rfl; have hc3_ : w'.cell? ⟨gb126, 3, none⟩ = some (.int .i64 a0_3) := (bC BK126.out 3).trans rfl; have hc4_ : w'.cell? ⟨gb126, 4, none⟩ = some (.int .i64 a0_4) := (bC BK126.out 4).trans rfl; refine value_ (w1 := w') (v := .agg #[.int .i64 a0_0, .int .i64 a0_1, .int .i64 a0_2, .int .i64 a0_3, .int .i64 a0_4]) (by rfl) rfl ?_ ?_
      ·
       go_simp
       (try simp only [i64_w])
       try rfl
      refine hK.out _ _ ⟨gb131, gb132, gb133, gb134, m4_, m5_, m6_, m7_, (by rw [ha.out]; exact putSel_upk 2 hb_ rfl rfl rfl), Q_BK126, Q_HB, Q_NB132_131, Q_NB131_132, Q_NB133_131, Q_NB131_133, Q_NB134_131, Q_NB131_134, Q_NB133_132, Q_NB132_133, Q_NB134_132, Q_NB132_134, Q_NB134_133, Q_NB133_134, Q_BK131, Q_GW131, Q_GE131, Q_NB126_131, Q_NB131_126, Q_BK132, Q_GW132, Q_GE132, Q_NB126_132, Q_NB132_126, Q_BK133, Q_GW133, Q_GE133, Q_NB126_133, Q_NB133_126, Q_BK134, Q_GW134, Q_GE134, Q_NB126_134, Q_NB134_126, Q_BK131_e8, Q_BK132_e9, fun h0_ => absurd ((hoff 10 (by kernel_rfl)).symm.trans h0_) (by decide), fun h0_ => absurd ((hoff 11 (by kernel_rfl)).symm.trans h0_) (by decide), Q_X4_, Q_X5_, Q_X6_, Q_X7_⟩
     refine steps_cons ?_ ?_
     ·
      rintro b a w' ⟨gb131, gb132, gb133, gb134, m4_, m5_, m6_, m7_, ha, Q_BK126, Q_HB, Q_NB132_131, Q_NB131_132, Q_NB133_131, Q_NB131_133, Q_NB134_131, Q_NB131_134, Q_NB133_132, Q_NB132_133, Q_NB134_132, Q_NB132_134, Q_NB134_133, Q_NB133_134, Q_BK131, Q_GW131, Q_GE131, Q_NB126_131, Q_NB131_126, Q_BK132, Q_GW132, Q_GE132, Q_NB126_132, Q_NB132_126, Q_BK133, Q_GW133, Q_GE133, Q_NB126_133, Q_NB133_126, Q_BK134, Q_GW134, Q_GE134, Q_NB126_134, Q_NB134_126, Q_BK131_e8, Q_BK132_e9, Q_BK133_e10, Q_BK134_e11, Q_X4_, Q_X5_, Q_X6_, Q_X7_⟩ hb_ hon hoff; refine ⟨_, rfl, fun K hK => ?_⟩
      have e2 : a.tmps[2]? = some (.pointer (some ⟨gb126, 0, none⟩)) := by rw [ha]; exact (putSel_off rfl).trans rfl
      replace ha := Aside0.mk ha; have BK126 := Aside0.mk Q_BK126; have HB := Aside0.mk Q_HB; have hc0_ : w'.cell? ⟨gb126, 0, none⟩ = some (.int .i64 a0_0) := (bC BK126.out 0).trans rfl; have hc1_ : w'.cell? ⟨gb126, 1, none⟩ = some (.int .i64 a0_1) := (bC BK126.out 1).trans rfl; have hc2_ : w'.cell? ⟨gb126, 2, none⟩ = some (.int .i64 a0_2) := (bC BK126.out 2).trans rfl; have hc3_ : w'.cell? ⟨gb126, 3, none⟩ = some (.int .i64 a0_3) := (bC BK126.out 3).trans rfl; have hc4_ : w'.cell? ⟨gb126, 4, none⟩ = some (.int .i64 a0_4) := (bC BK126.out 4).trans rfl; refine value_ (w1 := w') (v := .agg #[.int .i64 a0_0, .int .i64 a0_1, .int .i64 a0_2, .int .i64 a0_3, .int .i64 a0_4]) (by rfl) rfl ?_ ?_
      ·
       go_simp
       (try simp only [i64_w])
       try rfl
      refine hK.out _ _ ⟨gb131, gb132, gb133, gb134, m4_, m5_, m6_, m7_, (by rw [ha.out]; exact putSel_upk 3 hb_ rfl rfl rfl), Q_BK126, Q_HB, Q_NB132_131, Q_NB131_132, Q_NB133_131, Q_NB131_133, Q_NB134_131, Q_NB131_134, Q_NB133_132, Q_NB132_133, Q_NB134_132, Q_NB132_134, Q_NB134_133, Q_NB133_134, Q_BK131, Q_GW131, Q_GE131, Q_NB126_131, Q_NB131_126, Q_BK132, Q_GW132, Q_GE132, Q_NB126_132, Q_NB132_126, Q_BK133, Q_GW133, Q_GE133, Q_NB126_133, Q_NB133_126, Q_BK134, Q_GW134, Q_GE134, Q_NB126_134, Q_NB134_126, Q_BK131_e8, Q_BK132_e9, Q_BK133_e10, fun h0_ => absurd ((hoff 11 (by kernel_rfl)).symm.trans h0_) (by decide), Q_X4_, Q_X5_, Q_X6_, Q_X7_⟩
     refine steps_cons ?_ ?_
     ·
      rintro b a w' ⟨gb131, gb132, gb133, gb134, m4_, m5_, m6_, m7_, ha, Q_BK126, Q_HB, Q_NB132_131, Q_NB131_132, Q_NB133_131, Q_NB131_133, Q_NB134_131, Q_NB131_134, Q_NB133_132, Q_NB132_133, Q_NB134_132, Q_NB132_134, Q_NB134_133, Q_NB133_134, Q_BK131, Q_GW131, Q_GE131, Q_NB126_131, Q_NB131_126, Q_BK132, Q_GW132, Q_GE132, Q_NB126_132, Q_NB132_126, Q_BK133, Q_GW133, Q_GE133, Q_NB126_133, Q_NB133_126, Q_BK134, Q_GW134, Q_GE134, Q_NB126_134, Q_NB134_126, Q_BK131_e8, Q_BK132_e9, Q_BK133_e10, Q_BK134_e11, Q_X4_, Q_X5_, Q_X6_, Q_X7_⟩ hb_ hon hoff; refine ⟨_, rfl, fun K hK => ?_⟩; replace ha := Aside0.mk ha; have BK126 := Aside0.mk Q_BK126; have HB := Aside0.mk Q_HB; refine box_step ?hg (N := 5) ?hd (cs := #[.int .i64 0, .int .i64 0, .int .i64 0, .int .i64 0, .int .i64 0]) (t := 35) ?hr ?_; (case hd => rfl); (case hg => rfl); (case hr => first | (go_simp; done) | (go_simp; rfl))
      intro gb131 hg w24 hbox hb; have n0_ := Aside0.mk (bB (g := gb126) (o := .cells #[.int .i64 a0_0, .int .i64 a0_1, .int .i64 a0_2, .int .i64 a0_3, .int .i64 a0_4] 35 (0, 0)) (by (with_reducible repeat (first | refine bN ?_ _ | refine bD ?_ | refine bA ?_ _)); exact BK126.out) hb)
      have n1_ := Aside0.mk (below_step (by repeat (first | (with_reducible first | exact HB.out | apply wA | apply wN | apply wD | refine wS ?_ GE126.out) | exact HB.out)) hb); have n2_ := Aside0.mk (hbox); have n3_ := Aside0.mk ((by rw [hg]; exact (below_size (by repeat (first | (with_reducible first | exact HB.out | apply wA | apply wN | apply wD | refine wS ?_ GE126.out) | exact HB.out))) : w.heap.size ≤ gb131))
      have n4_ := Aside0.mk ((by rw [hg]; exact (below_size (by repeat (first | (with_reducible first | exact HB.out | apply wA | apply wN | apply wD | refine wS ?_ GE126.out) | exact HB.out))) : w.heap.size ≤ gb131))
      have n5_ := Aside0.mk ((by rw [hg]; exact Nat.ne_of_lt (blk_lt (g := gb126) (o := .cells #[.int .i64 a0_0, .int .i64 a0_1, .int .i64 a0_2, .int .i64 a0_3, .int .i64 a0_4] 35 (0, 0)) (by (with_reducible repeat (first | refine bN ?_ _ | refine bD ?_ | refine bA ?_ _)); exact BK126.out)) : gb126 ≠ gb131))
      have n6_ := Aside0.mk ((by rw [hg]; exact Nat.ne_of_gt (blk_lt (g := gb126) (o := .cells #[.int .i64 a0_0, .int .i64 a0_1, .int .i64 a0_2, .int .i64 a0_3, .int .i64 a0_4] 35 (0, 0)) (by (with_reducible repeat (first | refine bN ?_ _ | refine bD ?_ | refine bA ?_ _)); exact BK126.out)) : gb131 ≠ gb126))
      have z_NB132_131 := fun (h0_ : up b 4 4 = true) (h1_ : up b 4 5 = true) => (show gb132 ≠ gb131 from by have h_ := h1_; rw [up_ne (by decide)] at h_; have lt_ : gb132 < w'.heap.size := (by (cases hq_ : b 9 with | false => exact blk_lt (Q_BK132 h_ hq_) | true => exact blk_lt (Q_BK132_e9 hq_))); rw [hg]; exact Nat.ne_of_lt lt_)
      have z_NB131_132 := fun (h0_ : up b 4 4 = true) (h1_ : up b 4 5 = true) => (show gb131 ≠ gb132 from by have h_ := h1_; rw [up_ne (by decide)] at h_; have lt_ : gb132 < w'.heap.size := (by (cases hq_ : b 9 with | false => exact blk_lt (Q_BK132 h_ hq_) | true => exact blk_lt (Q_BK132_e9 hq_))); rw [hg]; exact Nat.ne_of_gt lt_)
      have z_NB133_131 := fun (h0_ : up b 4 4 = true) (h1_ : up b 4 6 = true) => (show gb133 ≠ gb131 from by have h_ := h1_; rw [up_ne (by decide)] at h_; have lt_ : gb133 < w'.heap.size := (by (cases hq_ : b 10 with | false => exact blk_lt (Q_BK133 h_ hq_) | true => exact blk_lt (Q_BK133_e10 hq_))); rw [hg]; exact Nat.ne_of_lt lt_)
      have z_NB131_133 := fun (h0_ : up b 4 4 = true) (h1_ : up b 4 6 = true) => (show gb131 ≠ gb133 from by have h_ := h1_; rw [up_ne (by decide)] at h_; have lt_ : gb133 < w'.heap.size := (by (cases hq_ : b 10 with | false => exact blk_lt (Q_BK133 h_ hq_) | true => exact blk_lt (Q_BK133_e10 hq_))); rw [hg]; exact Nat.ne_of_gt lt_)
      have z_NB134_131 := fun (h0_ : up b 4 4 = true) (h1_ : up b 4 7 = true) => (show gb134 ≠ gb131 from by have h_ := h1_; rw [up_ne (by decide)] at h_; have lt_ : gb134 < w'.heap.size := (by (cases hq_ : b 11 with | false => exact blk_lt (Q_BK134 h_ hq_) | true => exact blk_lt (Q_BK134_e11 hq_))); rw [hg]; exact Nat.ne_of_lt lt_)
      have z_NB131_134 := fun (h0_ : up b 4 4 = true) (h1_ : up b 4 7 = true) => (show gb131 ≠ gb134 from by have h_ := h1_; rw [up_ne (by decide)] at h_; have lt_ : gb134 < w'.heap.size := (by (cases hq_ : b 11 with | false => exact blk_lt (Q_BK134 h_ hq_) | true => exact blk_lt (Q_BK134_e11 hq_))); rw [hg]; exact Nat.ne_of_gt lt_)
      have z_BK132 := fun (h0_ : b 5 = true) (h1_ : b 9 = false) => (show w24.heap[gb132]? = some (.cells #[.int .i64 0, .int .i64 0, .int .i64 0, .int .i64 0, .int .i64 0] 35 (0, 0)) from by first | exact (bB (g := gb132) (o := .cells #[.int .i64 0, .int .i64 0, .int .i64 0, .int .i64 0, .int .i64 0] 35 (0, 0)) (by (with_reducible repeat (first | refine bN ?_ _ | refine bD ?_ | refine bA ?_ _)); exact (Q_BK132 h0_ h1_)) hb))
      have z_BK133 := fun (h0_ : b 6 = true) (h1_ : b 10 = false) => (show w24.heap[gb133]? = some (.cells #[.int .i64 0, .int .i64 0, .int .i64 0, .int .i64 0, .int .i64 0] 35 (0, 0)) from by first | exact (bB (g := gb133) (o := .cells #[.int .i64 0, .int .i64 0, .int .i64 0, .int .i64 0, .int .i64 0] 35 (0, 0)) (by (with_reducible repeat (first | refine bN ?_ _ | refine bD ?_ | refine bA ?_ _)); exact (Q_BK133 h0_ h1_)) hb))
      have z_BK134 := fun (h0_ : b 7 = true) (h1_ : b 11 = false) => (show w24.heap[gb134]? = some (.cells #[.int .i64 0, .int .i64 0, .int .i64 0, .int .i64 0, .int .i64 0] 35 (0, 0)) from by first | exact (bB (g := gb134) (o := .cells #[.int .i64 0, .int .i64 0, .int .i64 0, .int .i64 0, .int .i64 0] 35 (0, 0)) (by (with_reducible repeat (first | refine bN ?_ _ | refine bD ?_ | refine bA ?_ _)); exact (Q_BK134 h0_ h1_)) hb))
      clear BK126; clear HB; have BK126 := n0_; have HB := n1_; have BK131 := n2_; have GW131 := n3_; have GE131 := n4_; have NB126_131 := n5_; have NB131_126 := n6_; clear n0_ n1_ n2_ n3_ n4_ n5_ n6_; clear hb hbox hg; refine hK.out _ _ ⟨gb131, gb132, gb133, gb134, (.pointer (some ⟨gb131, 0, none⟩)), m5_, m6_, m7_, (by rw [ha.out]; exact putSel_upk 4 hb_ rfl rfl rfl), (by (with_reducible repeat (first | refine bN ?_ _ | refine bD ?_ | refine bA ?_ _)); exact BK126.out), (by repeat (first | (with_reducible first | exact HB.out | apply wA | apply wN | apply wD | refine wS ?_ GE126.out | refine wS ?_ GE131.out) | exact HB.out)), @z_NB132_131, @z_NB131_132, @z_NB133_131, @z_NB131_133, @z_NB134_131, @z_NB131_134, Q_NB133_132, Q_NB132_133, Q_NB134_132, Q_NB132_134, Q_NB134_133, Q_NB133_134, fun _ _ => (by (with_reducible repeat (first | refine bN ?_ _ | refine bD ?_ | refine bA ?_ _)); exact BK131.out), fun _ => GW131.out, fun _ => GE131.out, fun _ => NB126_131.out, fun _ => NB131_126.out, z_BK132, Q_GW132, Q_GE132, Q_NB126_132, Q_NB132_126, z_BK133, Q_GW133, Q_GE133, Q_NB126_133, Q_NB133_126, z_BK134, Q_GW134, Q_GE134, Q_NB126_134, Q_NB134_126, fun h0_ => absurd ((hoff 8 (by kernel_rfl)).symm.trans h0_) (by decide), fun h0_ => absurd ((hoff 9 (by kernel_rfl)).symm.trans h0_) (by decide), fun h0_ => absurd ((hoff 10 (by kernel_rfl)).symm.trans h0_) (by decide), fun h0_ => absurd ((hoff 11 (by kernel_rfl)).symm.trans h0_) (by decide), fun _ => rfl, Q_X5_, Q_X6_, Q_X7_⟩
     refine steps_cons ?_ ?_
     ·
      rintro b a w' ⟨gb131, gb132, gb133, gb134, m4_, m5_, m6_, m7_, ha, Q_BK126, Q_HB, Q_NB132_131, Q_NB131_132, Q_NB133_131, Q_NB131_133, Q_NB134_131, Q_NB131_134, Q_NB133_132, Q_NB132_133, Q_NB134_132, Q_NB132_134, Q_NB134_133, Q_NB133_134, Q_BK131, Q_GW131, Q_GE131, Q_NB126_131, Q_NB131_126, Q_BK132, Q_GW132, Q_GE132, Q_NB126_132, Q_NB132_126, Q_BK133, Q_GW133, Q_GE133, Q_NB126_133, Q_NB133_126, Q_BK134, Q_GW134, Q_GE134, Q_NB126_134, Q_NB134_126, Q_BK131_e8, Q_BK132_e9, Q_BK133_e10, Q_BK134_e11, Q_X4_, Q_X5_, Q_X6_, Q_X7_⟩ hb_ hon hoff; refine ⟨_, rfl, fun K hK => ?_⟩; replace ha := Aside0.mk ha; have BK126 := Aside0.mk Q_BK126; have HB := Aside0.mk Q_HB; refine box_step ?hg (N := 6) ?hd (cs := #[.int .i64 0, .int .i64 0, .int .i64 0, .int .i64 0, .int .i64 0]) (t := 35) ?hr ?_; (case hd => rfl); (case hg => rfl); (case hr => first | (go_simp; done) | (go_simp; rfl))
      intro gb132 hg w24 hbox hb; have n0_ := Aside0.mk (bB (g := gb126) (o := .cells #[.int .i64 a0_0, .int .i64 a0_1, .int .i64 a0_2, .int .i64 a0_3, .int .i64 a0_4] 35 (0, 0)) (by (with_reducible repeat (first | refine bN ?_ _ | refine bD ?_ | refine bA ?_ _)); exact BK126.out) hb)
      have n1_ := Aside0.mk (below_step (by repeat (first | (with_reducible first | exact HB.out | apply wA | apply wN | apply wD | refine wS ?_ GE126.out) | exact HB.out)) hb); have n2_ := Aside0.mk (hbox); have n3_ := Aside0.mk ((by rw [hg]; exact (below_size (by repeat (first | (with_reducible first | exact HB.out | apply wA | apply wN | apply wD | refine wS ?_ GE126.out) | exact HB.out))) : w.heap.size ≤ gb132))
      have n4_ := Aside0.mk ((by rw [hg]; exact (below_size (by repeat (first | (with_reducible first | exact HB.out | apply wA | apply wN | apply wD | refine wS ?_ GE126.out) | exact HB.out))) : w.heap.size ≤ gb132))
      have n5_ := Aside0.mk ((by rw [hg]; exact Nat.ne_of_lt (blk_lt (g := gb126) (o := .cells #[.int .i64 a0_0, .int .i64 a0_1, .int .i64 a0_2, .int .i64 a0_3, .int .i64 a0_4] 35 (0, 0)) (by (with_reducible repeat (first | refine bN ?_ _ | refine bD ?_ | refine bA ?_ _)); exact BK126.out)) : gb126 ≠ gb132))
      have n6_ := Aside0.mk ((by rw [hg]; exact Nat.ne_of_gt (blk_lt (g := gb126) (o := .cells #[.int .i64 a0_0, .int .i64 a0_1, .int .i64 a0_2, .int .i64 a0_3, .int .i64 a0_4] 35 (0, 0)) (by (with_reducible repeat (first | refine bN ?_ _ | refine bD ?_ | refine bA ?_ _)); exact BK126.out)) : gb132 ≠ gb126))
      have z_NB132_131 := fun (h0_ : up b 5 4 = true) (h1_ : up b 5 5 = true) => (show gb132 ≠ gb131 from by have h_ := h0_; rw [up_ne (by decide)] at h_; have lt_ : gb131 < w'.heap.size := (by (cases hq_ : b 8 with | false => exact blk_lt (Q_BK131 h_ hq_) | true => exact blk_lt (Q_BK131_e8 hq_))); rw [hg]; exact Nat.ne_of_gt lt_)
      have z_NB131_132 := fun (h0_ : up b 5 4 = true) (h1_ : up b 5 5 = true) => (show gb131 ≠ gb132 from by have h_ := h0_; rw [up_ne (by decide)] at h_; have lt_ : gb131 < w'.heap.size := (by (cases hq_ : b 8 with | false => exact blk_lt (Q_BK131 h_ hq_) | true => exact blk_lt (Q_BK131_e8 hq_))); rw [hg]; exact Nat.ne_of_lt lt_)
      have z_NB133_132 := fun (h0_ : up b 5 5 = true) (h1_ : up b 5 6 = true) => (show gb133 ≠ gb132 from by have h_ := h1_; rw [up_ne (by decide)] at h_; have lt_ : gb133 < w'.heap.size := (by (cases hq_ : b 10 with | false => exact blk_lt (Q_BK133 h_ hq_) | true => exact blk_lt (Q_BK133_e10 hq_))); rw [hg]; exact Nat.ne_of_lt lt_)
      have z_NB132_133 := fun (h0_ : up b 5 5 = true) (h1_ : up b 5 6 = true) => (show gb132 ≠ gb133 from by have h_ := h1_; rw [up_ne (by decide)] at h_; have lt_ : gb133 < w'.heap.size := (by (cases hq_ : b 10 with | false => exact blk_lt (Q_BK133 h_ hq_) | true => exact blk_lt (Q_BK133_e10 hq_))); rw [hg]; exact Nat.ne_of_gt lt_)
      have z_NB134_132 := fun (h0_ : up b 5 5 = true) (h1_ : up b 5 7 = true) => (show gb134 ≠ gb132 from by have h_ := h1_; rw [up_ne (by decide)] at h_; have lt_ : gb134 < w'.heap.size := (by (cases hq_ : b 11 with | false => exact blk_lt (Q_BK134 h_ hq_) | true => exact blk_lt (Q_BK134_e11 hq_))); rw [hg]; exact Nat.ne_of_lt lt_)
      have z_NB132_134 := fun (h0_ : up b 5 5 = true) (h1_ : up b 5 7 = true) => (show gb132 ≠ gb134 from by have h_ := h1_; rw [up_ne (by decide)] at h_; have lt_ : gb134 < w'.heap.size := (by (cases hq_ : b 11 with | false => exact blk_lt (Q_BK134 h_ hq_) | true => exact blk_lt (Q_BK134_e11 hq_))); rw [hg]; exact Nat.ne_of_gt lt_)
      have z_BK131 := fun (h0_ : b 4 = true) (h1_ : b 8 = false) => (show w24.heap[gb131]? = some (.cells #[.int .i64 0, .int .i64 0, .int .i64 0, .int .i64 0, .int .i64 0] 35 (0, 0)) from by first | exact (bB (g := gb131) (o := .cells #[.int .i64 0, .int .i64 0, .int .i64 0, .int .i64 0, .int .i64 0] 35 (0, 0)) (by (with_reducible repeat (first | refine bN ?_ _ | refine bD ?_ | refine bA ?_ _)); exact (Q_BK131 h0_ h1_)) hb))
      have z_BK133 := fun (h0_ : b 6 = true) (h1_ : b 10 = false) => (show w24.heap[gb133]? = some (.cells #[.int .i64 0, .int .i64 0, .int .i64 0, .int .i64 0, .int .i64 0] 35 (0, 0)) from by first | exact (bB (g := gb133) (o := .cells #[.int .i64 0, .int .i64 0, .int .i64 0, .int .i64 0, .int .i64 0] 35 (0, 0)) (by (with_reducible repeat (first | refine bN ?_ _ | refine bD ?_ | refine bA ?_ _)); exact (Q_BK133 h0_ h1_)) hb))
      have z_BK134 := fun (h0_ : b 7 = true) (h1_ : b 11 = false) => (show w24.heap[gb134]? = some (.cells #[.int .i64 0, .int .i64 0, .int .i64 0, .int .i64 0, .int .i64 0] 35 (0, 0)) from by first | exact (bB (g := gb134) (o := .cells #[.int .i64 0, .int .i64 0, .int .i64 0, .int .i64 0, .int .i64 0] 35 (0, 0)) (by (with_reducible repeat (first | refine bN ?_ _ | refine bD ?_ | refine bA ?_ _)); exact (Q_BK134 h0_ h1_)) hb))
      clear BK126; clear HB; have BK126 := n0_; have HB := n1_; have BK132 := n2_; have GW132 := n3_; have GE132 := n4_; have NB126_132 := n5_; have NB132_126 := n6_; clear n0_ n1_ n2_ n3_ n4_ n5_ n6_; clear hb hbox hg; refine hK.out _ _ ⟨gb131, gb132, gb133, gb134, m4_, (.pointer (some ⟨gb132, 0, none⟩)), m6_, m7_, (by rw [ha.out]; exact putSel_upk 5 hb_ rfl rfl rfl), (by (with_reducible repeat (first | refine bN ?_ _ | refine bD ?_ | refine bA ?_ _)); exact BK126.out), (by repeat (first | (with_reducible first | exact HB.out | apply wA | apply wN | apply wD | refine wS ?_ GE126.out | refine wS ?_ GE132.out) | exact HB.out)), @z_NB132_131, @z_NB131_132, Q_NB133_131, Q_NB131_133, Q_NB134_131, Q_NB131_134, @z_NB133_132, @z_NB132_133, @z_NB134_132, @z_NB132_134, Q_NB134_133, Q_NB133_134, z_BK131, Q_GW131, Q_GE131, Q_NB126_131, Q_NB131_126, fun _ _ => (by (with_reducible repeat (first | refine bN ?_ _ | refine bD ?_ | refine bA ?_ _)); exact BK132.out), fun _ => GW132.out, fun _ => GE132.out, fun _ => NB126_132.out, fun _ => NB132_126.out, z_BK133, Q_GW133, Q_GE133, Q_NB126_133, Q_NB133_126, z_BK134, Q_GW134, Q_GE134, Q_NB126_134, Q_NB134_126, fun h0_ => absurd ((hoff 8 (by kernel_rfl)).symm.trans h0_) (by decide), fun h0_ => absurd ((hoff 9 (by kernel_rfl)).symm.trans h0_) (by decide), fun h0_ => absurd ((hoff 10 (by kernel_rfl)).symm.trans h0_) (by decide), fun h0_ => absurd ((hoff 11 (by kernel_rfl)).symm.trans h0_) (by decide), Q_X4_, fun _ => rfl, Q_X6_, Q_X7_⟩
     refine steps_cons ?_ ?_
     ·
      rintro b a w' ⟨gb131, gb132, gb133, gb134, m4_, m5_, m6_, m7_, ha, Q_BK126, Q_HB, Q_NB132_131, Q_NB131_132, Q_NB133_131, Q_NB131_133, Q_NB134_131, Q_NB131_134, Q_NB133_132, Q_NB132_133, Q_NB134_132, Q_NB132_134, Q_NB134_133, Q_NB133_134, Q_BK131, Q_GW131, Q_GE131, Q_NB126_131, Q_NB131_126, Q_BK132, Q_GW132, Q_GE132, Q_NB126_132, Q_NB132_126, Q_BK133, Q_GW133, Q_GE133, Q_NB126_133, Q_NB133_126, Q_BK134, Q_GW134, Q_GE134, Q_NB126_134, Q_NB134_126, Q_BK131_e8, Q_BK132_e9, Q_BK133_e10, Q_BK134_e11, Q_X4_, Q_X5_, Q_X6_, Q_X7_⟩ hb_ hon hoff; refine ⟨_, rfl, fun K hK => ?_⟩; replace ha := Aside0.mk ha; have BK126 := Aside0.mk Q_BK126; have HB := Aside0.mk Q_HB; refine box_step ?hg (N := 7) ?hd (cs := #[.int .i64 0, .int .i64 0, .int .i64 0, .int .i64 0, .int .i64 0]) (t := 35) ?hr ?_; (case hd => rfl); (case hg => rfl); (case hr => first | (go_simp; done) | (go_simp; rfl))
      intro gb133 hg w24 hbox hb; have n0_ := Aside0.mk (bB (g := gb126) (o := .cells #[.int .i64 a0_0, .int .i64 a0_1, .int .i64 a0_2, .int .i64 a0_3, .int .i64 a0_4] 35 (0, 0)) (by (with_reducible repeat (first | refine bN ?_ _ | refine bD ?_ | refine bA ?_ _)); exact BK126.out) hb)
      have n1_ := Aside0.mk (below_step (by repeat (first | (with_reducible first | exact HB.out | apply wA | apply wN | apply wD | refine wS ?_ GE126.out) | exact HB.out)) hb); have n2_ := Aside0.mk (hbox); have n3_ := Aside0.mk ((by rw [hg]; exact (below_size (by repeat (first | (with_reducible first | exact HB.out | apply wA | apply wN | apply wD | refine wS ?_ GE126.out) | exact HB.out))) : w.heap.size ≤ gb133))
      have n4_ := Aside0.mk ((by rw [hg]; exact (below_size (by repeat (first | (with_reducible first | exact HB.out | apply wA | apply wN | apply wD | refine wS ?_ GE126.out) | exact HB.out))) : w.heap.size ≤ gb133))
      have n5_ := Aside0.mk ((by rw [hg]; exact Nat.ne_of_lt (blk_lt (g := gb126) (o := .cells #[.int .i64 a0_0, .int .i64 a0_1, .int .i64 a0_2, .int .i64 a0_3, .int .i64 a0_4] 35 (0, 0)) (by (with_reducible repeat (first | refine bN ?_ _ | refine bD ?_ | refine bA ?_ _)); exact BK126.out)) : gb126 ≠ gb133))
      have n6_ := Aside0.mk ((by rw [hg]; exact Nat.ne_of_gt (blk_lt (g := gb126) (o := .cells #[.int .i64 a0_0, .int .i64 a0_1, .int .i64 a0_2, .int .i64 a0_3, .int .i64 a0_4] 35 (0, 0)) (by (with_reducible repeat (first | refine bN ?_ _ | refine bD ?_ | refine bA ?_ _)); exact BK126.out)) : gb133 ≠ gb126))
      have z_NB133_131 := fun (h0_ : up b 6 4 = true) (h1_ : up b 6 6 = true) => (show gb133 ≠ gb131 from by have h_ := h0_; rw [up_ne (by decide)] at h_; have lt_ : gb131 < w'.heap.size := (by (cases hq_ : b 8 with | false => exact blk_lt (Q_BK131 h_ hq_) | true => exact blk_lt (Q_BK131_e8 hq_))); rw [hg]; exact Nat.ne_of_gt lt_)
      have z_NB131_133 := fun (h0_ : up b 6 4 = true) (h1_ : up b 6 6 = true) => (show gb131 ≠ gb133 from by have h_ := h0_; rw [up_ne (by decide)] at h_; have lt_ : gb131 < w'.heap.size := (by (cases hq_ : b 8 with | false => exact blk_lt (Q_BK131 h_ hq_) | true => exact blk_lt (Q_BK131_e8 hq_))); rw [hg]; exact Nat.ne_of_lt lt_)
      have z_NB133_132 := fun (h0_ : up b 6 5 = true) (h1_ : up b 6 6 = true) => (show gb133 ≠ gb132 from by have h_ := h0_; rw [up_ne (by decide)] at h_; have lt_ : gb132 < w'.heap.size := (by (cases hq_ : b 9 with | false => exact blk_lt (Q_BK132 h_ hq_) | true => exact blk_lt (Q_BK132_e9 hq_))); rw [hg]; exact Nat.ne_of_gt lt_)
      have z_NB132_133 := fun (h0_ : up b 6 5 = true) (h1_ : up b 6 6 = true) => (show gb132 ≠ gb133 from by have h_ := h0_; rw [up_ne (by decide)] at h_; have lt_ : gb132 < w'.heap.size := (by (cases hq_ : b 9 with | false => exact blk_lt (Q_BK132 h_ hq_) | true => exact blk_lt (Q_BK132_e9 hq_))); rw [hg]; exact Nat.ne_of_lt lt_)
      have z_NB134_133 := fun (h0_ : up b 6 6 = true) (h1_ : up b 6 7 = true) => (show gb134 ≠ gb133 from by have h_ := h1_; rw [up_ne (by decide)] at h_; have lt_ : gb134 < w'.heap.size := (by (cases hq_ : b 11 with | false => exact blk_lt (Q_BK134 h_ hq_) | true => exact blk_lt (Q_BK134_e11 hq_))); rw [hg]; exact Nat.ne_of_lt lt_)
      have z_NB133_134 := fun (h0_ : up b 6 6 = true) (h1_ : up b 6 7 = true) => (show gb133 ≠ gb134 from by have h_ := h1_; rw [up_ne (by decide)] at h_; have lt_ : gb134 < w'.heap.size := (by (cases hq_ : b 11 with | false => exact blk_lt (Q_BK134 h_ hq_) | true => exact blk_lt (Q_BK134_e11 hq_))); rw [hg]; exact Nat.ne_of_gt lt_)
      have z_BK131 := fun (h0_ : b 4 = true) (h1_ : b 8 = false) => (show w24.heap[gb131]? = some (.cells #[.int .i64 0, .int .i64 0, .int .i64 0, .int .i64 0, .int .i64 0] 35 (0, 0)) from by first | exact (bB (g := gb131) (o := .cells #[.int .i64 0, .int .i64 0, .int .i64 0, .int .i64 0, .int .i64 0] 35 (0, 0)) (by (with_reducible repeat (first | refine bN ?_ _ | refine bD ?_ | refine bA ?_ _)); exact (Q_BK131 h0_ h1_)) hb))
      have z_BK132 := fun (h0_ : b 5 = true) (h1_ : b 9 = false) => (show w24.heap[gb132]? = some (.cells #[.int .i64 0, .int .i64 0, .int .i64 0, .int .i64 0, .int .i64 0] 35 (0, 0)) from by first | exact (bB (g := gb132) (o := .cells #[.int .i64 0, .int .i64 0, .int .i64 0, .int .i64 0, .int .i64 0] 35 (0, 0)) (by (with_reducible repeat (first | refine bN ?_ _ | refine bD ?_ | refine bA ?_ _)); exact (Q_BK132 h0_ h1_)) hb))
      have z_BK134 := fun (h0_ : b 7 = true) (h1_ : b 11 = false) => (show w24.heap[gb134]? = some (.cells #[.int .i64 0, .int .i64 0, .int .i64 0, .int .i64 0, .int .i64 0] 35 (0, 0)) from by first | exact (bB (g := gb134) (o := .cells #[.int .i64 0, .int .i64 0, .int .i64 0, .int .i64 0, .int .i64 0] 35 (0, 0)) (by (with_reducible repeat (first | refine bN ?_ _ | refine bD ?_ | refine bA ?_ _)); exact (Q_BK134 h0_ h1_)) hb))
      clear BK126; clear HB; have BK126 := n0_; have HB := n1_; have BK133 := n2_; have GW133 := n3_; have GE133 := n4_; have NB126_133 := n5_; have NB133_126 := n6_; clear n0_ n1_ n2_ n3_ n4_ n5_ n6_; clear hb hbox hg; refine hK.out _ _ ⟨gb131, gb132, gb133, gb134, m4_, m5_, (.pointer (some ⟨gb133, 0, none⟩)), m7_, (by rw [ha.out]; exact putSel_upk 6 hb_ rfl rfl rfl), (by (with_reducible repeat (first | refine bN ?_ _ | refine bD ?_ | refine bA ?_ _)); exact BK126.out), (by repeat (first | (with_reducible first | exact HB.out | apply wA | apply wN | apply wD | refine wS ?_ GE126.out | refine wS ?_ GE133.out) | exact HB.out)), Q_NB132_131, Q_NB131_132, @z_NB133_131, @z_NB131_133, Q_NB134_131, Q_NB131_134, @z_NB133_132, @z_NB132_133, Q_NB134_132, Q_NB132_134, @z_NB134_133, @z_NB133_134, z_BK131, Q_GW131, Q_GE131, Q_NB126_131, Q_NB131_126, z_BK132, Q_GW132, Q_GE132, Q_NB126_132, Q_NB132_126, fun _ _ => (by (with_reducible repeat (first | refine bN ?_ _ | refine bD ?_ | refine bA ?_ _)); exact BK133.out), fun _ => GW133.out, fun _ => GE133.out, fun _ => NB126_133.out, fun _ => NB133_126.out, z_BK134, Q_GW134, Q_GE134, Q_NB126_134, Q_NB134_126, fun h0_ => absurd ((hoff 8 (by kernel_rfl)).symm.trans h0_) (by decide), fun h0_ => absurd ((hoff 9 (by kernel_rfl)).symm.trans h0_) (by decide), fun h0_ => absurd ((hoff 10 (by kernel_rfl)).symm.trans h0_) (by decide), fun h0_ => absurd ((hoff 11 (by kernel_rfl)).symm.trans h0_) (by decide), Q_X4_, Q_X5_, fun _ => rfl, Q_X7_⟩
     refine steps_cons ?_ ?_
     ·
      rintro b a w' ⟨gb131, gb132, gb133, gb134, m4_, m5_, m6_, m7_, ha, Q_BK126, Q_HB, Q_NB132_131, Q_NB131_132, Q_NB133_131, Q_NB131_133, Q_NB134_131, Q_NB131_134, Q_NB133_132, Q_NB132_133, Q_NB134_132, Q_NB132_134, Q_NB134_133, Q_NB133_134, Q_BK131, Q_GW131, Q_GE131, Q_NB126_131, Q_NB131_126, Q_BK132, Q_GW132, Q_GE132, Q_NB126_132, Q_NB132_126, Q_BK133, Q_GW133, Q_GE133, Q_NB126_133, Q_NB133_126, Q_BK134, Q_GW134, Q_GE134, Q_NB126_134, Q_NB134_126, Q_BK131_e8, Q_BK132_e9, Q_BK133_e10, Q_BK134_e11, Q_X4_, Q_X5_, Q_X6_, Q_X7_⟩ hb_ hon hoff; refine ⟨_, rfl, fun K hK => ?_⟩; replace ha := Aside0.mk ha; have BK126 := Aside0.mk Q_BK126; have HB := Aside0.mk Q_HB; refine box_step ?hg (N := 8) ?hd (cs := #[.int .i64 0, .int .i64 0, .int .i64 0, .int .i64 0, .int .i64 0]) (t := 35) ?hr ?_; (case hd => rfl); (case hg => rfl); (case hr => first | (go_simp; done) | (go_simp; rfl))
      intro gb134 hg w24 hbox hb; have n0_ := Aside0.mk (bB (g := gb126) (o := .cells #[.int .i64 a0_0, .int .i64 a0_1, .int .i64 a0_2, .int .i64 a0_3, .int .i64 a0_4] 35 (0, 0)) (by (with_reducible repeat (first | refine bN ?_ _ | refine bD ?_ | refine bA ?_ _)); exact BK126.out) hb)
      have n1_ := Aside0.mk (below_step (by repeat (first | (with_reducible first | exact HB.out | apply wA | apply wN | apply wD | refine wS ?_ GE126.out) | exact HB.out)) hb); have n2_ := Aside0.mk (hbox); have n3_ := Aside0.mk ((by rw [hg]; exact (below_size (by repeat (first | (with_reducible first | exact HB.out | apply wA | apply wN | apply wD | refine wS ?_ GE126.out) | exact HB.out))) : w.heap.size ≤ gb134))
      have n4_ := Aside0.mk ((by rw [hg]; exact (below_size (by repeat (first | (with_reducible first | exact HB.out | apply wA | apply wN | apply wD | refine wS ?_ GE126.out) | exact HB.out))) : w.heap.size ≤ gb134))
      have n5_ := Aside0.mk ((by rw [hg]; exact Nat.ne_of_lt (blk_lt (g := gb126) (o := .cells #[.int .i64 a0_0, .int .i64 a0_1, .int .i64 a0_2, .int .i64 a0_3, .int .i64 a0_4] 35 (0, 0)) (by (with_reducible repeat (first | refine bN ?_ _ | refine bD ?_ | refine bA ?_ _)); exact BK126.out)) : gb126 ≠ gb134))
      have n6_ := Aside0.mk ((by rw [hg]; exact Nat.ne_of_gt (blk_lt (g := gb126) (o := .cells #[.int .i64 a0_0, .int .i64 a0_1, .int .i64 a0_2, .int .i64 a0_3, .int .i64 a0_4] 35 (0, 0)) (by (with_reducible repeat (first | refine bN ?_ _ | refine bD ?_ | refine bA ?_ _)); exact BK126.out)) : gb134 ≠ gb126))
      have z_NB134_131 := fun (h0_ : up b 7 4 = true) (h1_ : up b 7 7 = true) => (show gb134 ≠ gb131 from by have h_ := h0_; rw [up_ne (by decide)] at h_; have lt_ : gb131 < w'.heap.size := (by (cases hq_ : b 8 with | false => exact blk_lt (Q_BK131 h_ hq_) | true => exact blk_lt (Q_BK131_e8 hq_))); rw [hg]; exact Nat.ne_of_gt lt_)
      have z_NB131_134 := fun (h0_ : up b 7 4 = true) (h1_ : up b 7 7 = true) => (show gb131 ≠ gb134 from by have h_ := h0_; rw [up_ne (by decide)] at h_; have lt_ : gb131 < w'.heap.size := (by (cases hq_ : b 8 with | false => exact blk_lt (Q_BK131 h_ hq_) | true => exact blk_lt (Q_BK131_e8 hq_))); rw [hg]; exact Nat.ne_of_lt lt_)
      have z_NB134_132 := fun (h0_ : up b 7 5 = true) (h1_ : up b 7 7 = true) => (show gb134 ≠ gb132 from by have h_ := h0_; rw [up_ne (by decide)] at h_; have lt_ : gb132 < w'.heap.size := (by (cases hq_ : b 9 with | false => exact blk_lt (Q_BK132 h_ hq_) | true => exact blk_lt (Q_BK132_e9 hq_))); rw [hg]; exact Nat.ne_of_gt lt_)
      have z_NB132_134 := fun (h0_ : up b 7 5 = true) (h1_ : up b 7 7 = true) => (show gb132 ≠ gb134 from by have h_ := h0_; rw [up_ne (by decide)] at h_; have lt_ : gb132 < w'.heap.size := (by (cases hq_ : b 9 with | false => exact blk_lt (Q_BK132 h_ hq_) | true => exact blk_lt (Q_BK132_e9 hq_))); rw [hg]; exact Nat.ne_of_lt lt_)
      have z_NB134_133 := fun (h0_ : up b 7 6 = true) (h1_ : up b 7 7 = true) => (show gb134 ≠ gb133 from by have h_ := h0_; rw [up_ne (by decide)] at h_; have lt_ : gb133 < w'.heap.size := (by (cases hq_ : b 10 with | false => exact blk_lt (Q_BK133 h_ hq_) | true => exact blk_lt (Q_BK133_e10 hq_))); rw [hg]; exact Nat.ne_of_gt lt_)
      have z_NB133_134 := fun (h0_ : up b 7 6 = true) (h1_ : up b 7 7 = true) => (show gb133 ≠ gb134 from by have h_ := h0_; rw [up_ne (by decide)] at h_; have lt_ : gb133 < w'.heap.size := (by (cases hq_ : b 10 with | false => exact blk_lt (Q_BK133 h_ hq_) | true => exact blk_lt (Q_BK133_e10 hq_))); rw [hg]; exact Nat.ne_of_lt lt_)
      have z_BK131 := fun (h0_ : b 4 = true) (h1_ : b 8 = false) => (show w24.heap[gb131]? = some (.cells #[.int .i64 0, .int .i64 0, .int .i64 0, .int .i64 0, .int .i64 0] 35 (0, 0)) from by first | exact (bB (g := gb131) (o := .cells #[.int .i64 0, .int .i64 0, .int .i64 0, .int .i64 0, .int .i64 0] 35 (0, 0)) (by (with_reducible repeat (first | refine bN ?_ _ | refine bD ?_ | refine bA ?_ _)); exact (Q_BK131 h0_ h1_)) hb))
      have z_BK132 := fun (h0_ : b 5 = true) (h1_ : b 9 = false) => (show w24.heap[gb132]? = some (.cells #[.int .i64 0, .int .i64 0, .int .i64 0, .int .i64 0, .int .i64 0] 35 (0, 0)) from by first | exact (bB (g := gb132) (o := .cells #[.int .i64 0, .int .i64 0, .int .i64 0, .int .i64 0, .int .i64 0] 35 (0, 0)) (by (with_reducible repeat (first | refine bN ?_ _ | refine bD ?_ | refine bA ?_ _)); exact (Q_BK132 h0_ h1_)) hb))
      have z_BK133 := fun (h0_ : b 6 = true) (h1_ : b 10 = false) => (show w24.heap[gb133]? = some (.cells #[.int .i64 0, .int .i64 0, .int .i64 0, .int .i64 0, .int .i64 0] 35 (0, 0)) from by first | exact (bB (g := gb133) (o := .cells #[.int .i64 0, .int .i64 0, .int .i64 0, .int .i64 0, .int .i64 0] 35 (0, 0)) (by (with_reducible repeat (first | refine bN ?_ _ | refine bD ?_ | refine bA ?_ _)); exact (Q_BK133 h0_ h1_)) hb))
      clear BK126; clear HB; have BK126 := n0_; have HB := n1_; have BK134 := n2_; have GW134 := n3_; have GE134 := n4_; have NB126_134 := n5_; have NB134_126 := n6_; clear n0_ n1_ n2_ n3_ n4_ n5_ n6_; clear hb hbox hg; refine hK.out _ _ ⟨gb131, gb132, gb133, gb134, m4_, m5_, m6_, (.pointer (some ⟨gb134, 0, none⟩)), (by rw [ha.out]; exact putSel_upk 7 hb_ rfl rfl rfl), (by (with_reducible repeat (first | refine bN ?_ _ | refine bD ?_ | refine bA ?_ _)); exact BK126.out), (by repeat (first | (with_reducible first | exact HB.out | apply wA | apply wN | apply wD | refine wS ?_ GE126.out | refine wS ?_ GE134.out) | exact HB.out)), Q_NB132_131, Q_NB131_132, Q_NB133_131, Q_NB131_133, @z_NB134_131, @z_NB131_134, Q_NB133_132, Q_NB132_133, @z_NB134_132, @z_NB132_134, @z_NB134_133, @z_NB133_134, z_BK131, Q_GW131, Q_GE131, Q_NB126_131, Q_NB131_126, z_BK132, Q_GW132, Q_GE132, Q_NB126_132, Q_NB132_126, z_BK133, Q_GW133, Q_GE133, Q_NB126_133, Q_NB133_126, fun _ _ => (by (with_reducible repeat (first | refine bN ?_ _ | refine bD ?_ | refine bA ?_ _)); exact BK134.out), fun _ => GW134.out, fun _ => GE134.out, fun _ => NB126_134.out, fun _ => NB134_126.out, fun h0_ => absurd ((hoff 8 (by kernel_rfl)).symm.trans h0_) (by decide), fun h0_ => absurd ((hoff 9 (by kernel_rfl)).symm.trans h0_) (by decide), fun h0_ => absurd ((hoff 10 (by kernel_rfl)).symm.trans h0_) (by decide), fun h0_ => absurd ((hoff 11 (by kernel_rfl)).symm.trans h0_) (by decide), Q_X4_, Q_X5_, Q_X6_, fun _ => rfl⟩
     refine steps_cons ?_ ?_
     ·
      rintro b a w' ⟨gb131, gb132, gb133, gb134, m4_, m5_, m6_, m7_, ha, Q_BK126, Q_HB, Q_NB132_131, Q_NB131_132, Q_NB133_131, Q_NB131_133, Q_NB134_131, Q_NB131_134, Q_NB133_132, Q_NB132_133, Q_NB134_132, Q_NB132_134, Q_NB134_133, Q_NB133_134, Q_BK131, Q_GW131, Q_GE131, Q_NB126_131, Q_NB131_126, Q_BK132, Q_GW132, Q_GE132, Q_NB126_132, Q_NB132_126, Q_BK133, Q_GW133, Q_GE133, Q_NB126_133, Q_NB133_126, Q_BK134, Q_GW134, Q_GE134, Q_NB126_134, Q_NB134_126, Q_BK131_e8, Q_BK132_e9, Q_BK133_e10, Q_BK134_e11, Q_X4_, Q_X5_, Q_X6_, Q_X7_⟩ hb_ hon hoff; refine ⟨_, rfl, fun K hK => ?_⟩
      have e5 : a.tmps[5]? = some (m4_) := by rw [ha]; exact putSel_on (e := (4, 5, m4_)) 4 rfl rfl (hon 4 (by kernel_rfl)) rfl
      rw [Q_X4_ (hon 4 (by kernel_rfl))] at e5
      have e33 : a.tmps[33]? = some (.agg #[.int .i64 a0_0, .int .i64 a0_1, .int .i64 a0_2, .int .i64 a0_3, .int .i64 a0_4]) := by rw [ha]; exact putSel_on (e := (0, 33, .agg #[.int .i64 a0_0, .int .i64 a0_1, .int .i64 a0_2, .int .i64 a0_3, .int .i64 a0_4])) 0 rfl rfl (hon 0 (by kernel_rfl)) rfl
      replace ha := Aside0.mk ha; have BK126 := Aside0.mk Q_BK126; have HB := Aside0.mk Q_HB; have NB132_131 := Aside0.mk (Q_NB132_131 (hon 4 (by kernel_rfl)) (hon 5 (by kernel_rfl))); have NB131_132 := Aside0.mk (Q_NB131_132 (hon 4 (by kernel_rfl)) (hon 5 (by kernel_rfl))); have NB133_131 := Aside0.mk (Q_NB133_131 (hon 4 (by kernel_rfl)) (hon 6 (by kernel_rfl))); have NB131_133 := Aside0.mk (Q_NB131_133 (hon 4 (by kernel_rfl)) (hon 6 (by kernel_rfl))); have NB134_131 := Aside0.mk (Q_NB134_131 (hon 4 (by kernel_rfl)) (hon 7 (by kernel_rfl))); have NB131_134 := Aside0.mk (Q_NB131_134 (hon 4 (by kernel_rfl)) (hon 7 (by kernel_rfl))); have NB133_132 := Aside0.mk (Q_NB133_132 (hon 5 (by kernel_rfl)) (hon 6 (by kernel_rfl))); have NB132_133 := Aside0.mk (Q_NB132_133 (hon 5 (by kernel_rfl)) (hon 6 (by kernel_rfl))); have NB134_132 := Aside0.mk (Q_NB134_132 (hon 5 (by kernel_rfl)) (hon 7 (by kernel_rfl))); have NB132_134 := Aside0.mk (Q_NB132_134 (hon 5 (by kernel_rfl)) (hon 7 (by kernel_rfl))); have NB134_133 := Aside0.mk (Q_NB134_133 (hon 6 (by kernel_rfl)) (hon 7 (by kernel_rfl))); have NB133_134 := Aside0.mk (Q_NB133_134 (hon 6 (by kernel_rfl)) (hon 7 (by kernel_rfl))); have BK131 := Aside0.mk (Q_BK131 (hon 4 (by kernel_rfl)) hb_); have GW131 := Aside0.mk (Q_GW131 (hon 4 (by kernel_rfl))); have GE131 := Aside0.mk (Q_GE131 (hon 4 (by kernel_rfl))); have NB126_131 := Aside0.mk (Q_NB126_131 (hon 4 (by kernel_rfl))); have NB131_126 := Aside0.mk (Q_NB131_126 (hon 4 (by kernel_rfl))); have BK132 := Aside0.mk (Q_BK132 (hon 5 (by kernel_rfl)) (hoff 9 (by kernel_rfl))); have GW132 := Aside0.mk (Q_GW132 (hon 5 (by kernel_rfl))); have GE132 := Aside0.mk (Q_GE132 (hon 5 (by kernel_rfl))); have NB126_132 := Aside0.mk (Q_NB126_132 (hon 5 (by kernel_rfl))); have NB132_126 := Aside0.mk (Q_NB132_126 (hon 5 (by kernel_rfl))); have BK133 := Aside0.mk (Q_BK133 (hon 6 (by kernel_rfl)) (hoff 10 (by kernel_rfl))); have GW133 := Aside0.mk (Q_GW133 (hon 6 (by kernel_rfl))); have GE133 := Aside0.mk (Q_GE133 (hon 6 (by kernel_rfl))); have NB126_133 := Aside0.mk (Q_NB126_133 (hon 6 (by kernel_rfl))); have NB133_126 := Aside0.mk (Q_NB133_126 (hon 6 (by kernel_rfl))); have BK134 := Aside0.mk (Q_BK134 (hon 7 (by kernel_rfl)) (hoff 11 (by kernel_rfl))); have GW134 := Aside0.mk (Q_GW134 (hon 7 (by kernel_rfl))); have GE134 := Aside0.mk (Q_GE134 (hon 7 (by kernel_rfl))); have NB126_134 := Aside0.mk (Q_NB126_134 (hon 7 (by kernel_rfl))); have NB134_126 := Aside0.mk (Q_NB134_126 (hon 7 (by kernel_rfl))); have hs29 : w'.cell? ⟨gb131, 0, none⟩ = some (.int .i64 0) := (bC BK131.out 0).trans rfl; have hfs29 := bZ BK131.out 0; have hns29_0 := NB126_131.out; have hns29_2 := NB132_131.out; have hns29_3 := NB133_131.out; have hns29_4 := NB134_131.out; have hms29_0 := NB131_126.out; have hms29_2 := NB131_132.out; have hms29_3 := NB131_133.out; have hms29_4 := NB131_134.out; have hs30 : w'.cell? ⟨gb131, 1, none⟩ = some (.int .i64 0) := (bC BK131.out 1).trans rfl; have hfs30 := bZ BK131.out 1; have hns30_0 := NB126_131.out; have hns30_2 := NB132_131.out; have hns30_3 := NB133_131.out; have hns30_4 := NB134_131.out; have hms30_0 := NB131_126.out; have hms30_2 := NB131_132.out; have hms30_3 := NB131_133.out; have hms30_4 := NB131_134.out; have hs31 : w'.cell? ⟨gb131, 2, none⟩ = some (.int .i64 0) := (bC BK131.out 2).trans rfl; have hfs31 := bZ BK131.out 2; have hns31_0 := NB126_131.out; have hns31_2 := NB132_131.out; have hns31_3 := NB133_131.out; have hns31_4 := NB134_131.out; have hms31_0 := NB131_126.out; have hms31_2 := NB131_132.out; have hms31_3 := NB131_133.out; have hms31_4 := NB131_134.out; have hs32 : w'.cell? ⟨gb131, 3, none⟩ = some (.int .i64 0) := (bC BK131.out 3).trans rfl; have hfs32 := bZ BK131.out 3; have hns32_0 := NB126_131.out; have hns32_2 := NB132_131.out; have hns32_3 := NB133_131.out; have hns32_4 := NB134_131.out; have hms32_0 := NB131_126.out; have hms32_2 := NB131_132.out; have hms32_3 := NB131_133.out; have hms32_4 := NB131_134.out; have hs33 : w'.cell? ⟨gb131, 4, none⟩ = some (.int .i64 0) := (bC BK131.out 4).trans rfl; have hfs33 := bZ BK131.out 4; have hns33_0 := NB126_131.out; have hns33_2 := NB132_131.out; have hns33_3 := NB133_131.out; have hns33_4 := NB134_131.out; have hms33_0 := NB131_126.out; have hms33_2 := NB131_132.out; have hms33_3 := NB131_133.out; have hms33_4 := NB131_134.out; refine skip_ (w1 := ?_) (by rfl) rfl ?_ ?_; rotate_left
      ·
       go_simp; rfl
      refine hK.out _ _ ⟨gb131, gb132, gb133, gb134, m4_, m5_, m6_, m7_, (by rw [ha.out]; exact putSel_none (v := undef) rfl), (by (with_reducible repeat (first | refine bN ?_ _ | refine bD ?_ | refine bA ?_ _)); refine bF ?_ NB126_131.out _; (with_reducible repeat (first | refine bN ?_ _ | refine bD ?_ | refine bA ?_ _)); refine bF ?_ NB126_131.out _; (with_reducible repeat (first | refine bN ?_ _ | refine bD ?_ | refine bA ?_ _)); refine bF ?_ NB126_131.out _; (with_reducible repeat (first | refine bN ?_ _ | refine bD ?_ | refine bA ?_ _)); refine bF ?_ NB126_131.out _; (with_reducible repeat (first | refine bN ?_ _ | refine bD ?_ | refine bA ?_ _)); refine bF ?_ NB126_131.out _; (with_reducible repeat (first | refine bN ?_ _ | refine bD ?_ | refine bA ?_ _)); exact BK126.out), (by repeat (first | (with_reducible first | exact HB.out | apply wA | apply wN | apply wD | refine wS ?_ GE126.out | refine wS ?_ GE131.out | refine wS ?_ GE132.out | refine wS ?_ GE133.out | refine wS ?_ GE134.out) | exact HB.out)), fun _ _ => NB132_131.out, fun _ _ => NB131_132.out, fun _ _ => NB133_131.out, fun _ _ => NB131_133.out, fun _ _ => NB134_131.out, fun _ _ => NB131_134.out, fun _ _ => NB133_132.out, fun _ _ => NB132_133.out, fun _ _ => NB134_132.out, fun _ _ => NB132_134.out, fun _ _ => NB134_133.out, fun _ _ => NB133_134.out, fun _ h1_ => absurd ((up_self b 8).symm.trans h1_) (by decide), fun _ => GW131.out, fun _ => GE131.out, fun _ => NB126_131.out, fun _ => NB131_126.out, fun _ _ => (by (with_reducible repeat (first | refine bN ?_ _ | refine bD ?_ | refine bA ?_ _)); refine bF ?_ NB132_131.out _; (with_reducible repeat (first | refine bN ?_ _ | refine bD ?_ | refine bA ?_ _)); refine bF ?_ NB132_131.out _; (with_reducible repeat (first | refine bN ?_ _ | refine bD ?_ | refine bA ?_ _)); refine bF ?_ NB132_131.out _; (with_reducible repeat (first | refine bN ?_ _ | refine bD ?_ | refine bA ?_ _)); refine bF ?_ NB132_131.out _; (with_reducible repeat (first | refine bN ?_ _ | refine bD ?_ | refine bA ?_ _)); refine bF ?_ NB132_131.out _; (with_reducible repeat (first | refine bN ?_ _ | refine bD ?_ | refine bA ?_ _)); exact BK132.out), fun _ => GW132.out, fun _ => GE132.out, fun _ => NB126_132.out, fun _ => NB132_126.out, fun _ _ => (by (with_reducible repeat (first | refine bN ?_ _ | refine bD ?_ | refine bA ?_ _)); refine bF ?_ NB133_131.out _; (with_reducible repeat (first | refine bN ?_ _ | refine bD ?_ | refine bA ?_ _)); refine bF ?_ NB133_131.out _; (with_reducible repeat (first | refine bN ?_ _ | refine bD ?_ | refine bA ?_ _)); refine bF ?_ NB133_131.out _; (with_reducible repeat (first | refine bN ?_ _ | refine bD ?_ | refine bA ?_ _)); refine bF ?_ NB133_131.out _; (with_reducible repeat (first | refine bN ?_ _ | refine bD ?_ | refine bA ?_ _)); refine bF ?_ NB133_131.out _; (with_reducible repeat (first | refine bN ?_ _ | refine bD ?_ | refine bA ?_ _)); exact BK133.out), fun _ => GW133.out, fun _ => GE133.out, fun _ => NB126_133.out, fun _ => NB133_126.out, fun _ _ => (by (with_reducible repeat (first | refine bN ?_ _ | refine bD ?_ | refine bA ?_ _)); refine bF ?_ NB134_131.out _; (with_reducible repeat (first | refine bN ?_ _ | refine bD ?_ | refine bA ?_ _)); refine bF ?_ NB134_131.out _; (with_reducible repeat (first | refine bN ?_ _ | refine bD ?_ | refine bA ?_ _)); refine bF ?_ NB134_131.out _; (with_reducible repeat (first | refine bN ?_ _ | refine bD ?_ | refine bA ?_ _)); refine bF ?_ NB134_131.out _; (with_reducible repeat (first | refine bN ?_ _ | refine bD ?_ | refine bA ?_ _)); refine bF ?_ NB134_131.out _; (with_reducible repeat (first | refine bN ?_ _ | refine bD ?_ | refine bA ?_ _)); exact BK134.out), fun _ => GW134.out, fun _ => GE134.out, fun _ => NB126_134.out, fun _ => NB134_126.out, fun _ => (by (with_reducible repeat (first | refine bN ?_ _ | refine bD ?_ | refine bA ?_ _)); refine blk_put (cs := #[.int .i64 a0_0, .int .i64 a0_1, .int .i64 a0_2, .int .i64 a0_3, .int .i64 0]) ?_ 4 _ rfl; (with_reducible repeat (first | refine bN ?_ _ | refine bD ?_ | refine bA ?_ _)); refine blk_put (cs := #[.int .i64 a0_0, .int .i64 a0_1, .int .i64 a0_2, .int .i64 0, .int .i64 0]) ?_ 3 _ rfl; (with_reducible repeat (first | refine bN ?_ _ | refine bD ?_ | refine bA ?_ _)); refine blk_put (cs := #[.int .i64 a0_0, .int .i64 a0_1, .int .i64 0, .int .i64 0, .int .i64 0]) ?_ 2 _ rfl; (with_reducible repeat (first | refine bN ?_ _ | refine bD ?_ | refine bA ?_ _)); refine blk_put (cs := #[.int .i64 a0_0, .int .i64 0, .int .i64 0, .int .i64 0, .int .i64 0]) ?_ 1 _ rfl; (with_reducible repeat (first | refine bN ?_ _ | refine bD ?_ | refine bA ?_ _)); refine blk_put (cs := #[.int .i64 0, .int .i64 0, .int .i64 0, .int .i64 0, .int .i64 0]) ?_ 0 _ rfl; (with_reducible repeat (first | refine bN ?_ _ | refine bD ?_ | refine bA ?_ _)); exact BK131.out), fun h0_ => absurd ((hoff 9 (by kernel_rfl)).symm.trans h0_) (by decide), fun h0_ => absurd ((hoff 10 (by kernel_rfl)).symm.trans h0_) (by decide), fun h0_ => absurd ((hoff 11 (by kernel_rfl)).symm.trans h0_) (by decide), Q_X4_, Q_X5_, Q_X6_, Q_X7_⟩
     refine steps_cons ?_ ?_
     ·
      rintro b a w' ⟨gb131, gb132, gb133, gb134, m4_, m5_, m6_, m7_, ha, Q_BK126, Q_HB, Q_NB132_131, Q_NB131_132, Q_NB133_131, Q_NB131_133, Q_NB134_131, Q_NB131_134, Q_NB133_132, Q_NB132_133, Q_NB134_132, Q_NB132_134, Q_NB134_133, Q_NB133_134, Q_BK131, Q_GW131, Q_GE131, Q_NB126_131, Q_NB131_126, Q_BK132, Q_GW132, Q_GE132, Q_NB126_132, Q_NB132_126, Q_BK133, Q_GW133, Q_GE133, Q_NB126_133, Q_NB133_126, Q_BK134, Q_GW134, Q_GE134, Q_NB126_134, Q_NB134_126, Q_BK131_e8, Q_BK132_e9, Q_BK133_e10, Q_BK134_e11, Q_X4_, Q_X5_, Q_X6_, Q_X7_⟩ hb_ hon hoff; refine ⟨_, rfl, fun K hK => ?_⟩
      have e6 : a.tmps[6]? = some (m5_) := by rw [ha]; exact putSel_on (e := (5, 6, m5_)) 5 rfl rfl (hon 5 (by kernel_rfl)) rfl
      rw [Q_X5_ (hon 5 (by kernel_rfl))] at e6
      have e34 : a.tmps[34]? = some (.agg #[.int .i64 a0_0, .int .i64 a0_1, .int .i64 a0_2, .int .i64 a0_3, .int .i64 a0_4]) := by rw [ha]; exact putSel_on (e := (1, 34, .agg #[.int .i64 a0_0, .int .i64 a0_1, .int .i64 a0_2, .int .i64 a0_3, .int .i64 a0_4])) 1 rfl rfl (hon 1 (by kernel_rfl)) rfl
      replace ha := Aside0.mk ha; have BK126 := Aside0.mk Q_BK126; have HB := Aside0.mk Q_HB; have NB132_131 := Aside0.mk (Q_NB132_131 (hon 4 (by kernel_rfl)) (hon 5 (by kernel_rfl))); have NB131_132 := Aside0.mk (Q_NB131_132 (hon 4 (by kernel_rfl)) (hon 5 (by kernel_rfl))); have NB133_131 := Aside0.mk (Q_NB133_131 (hon 4 (by kernel_rfl)) (hon 6 (by kernel_rfl))); have NB131_133 := Aside0.mk (Q_NB131_133 (hon 4 (by kernel_rfl)) (hon 6 (by kernel_rfl))); have NB134_131 := Aside0.mk (Q_NB134_131 (hon 4 (by kernel_rfl)) (hon 7 (by kernel_rfl))); have NB131_134 := Aside0.mk (Q_NB131_134 (hon 4 (by kernel_rfl)) (hon 7 (by kernel_rfl))); have NB133_132 := Aside0.mk (Q_NB133_132 (hon 5 (by kernel_rfl)) (hon 6 (by kernel_rfl))); have NB132_133 := Aside0.mk (Q_NB132_133 (hon 5 (by kernel_rfl)) (hon 6 (by kernel_rfl))); have NB134_132 := Aside0.mk (Q_NB134_132 (hon 5 (by kernel_rfl)) (hon 7 (by kernel_rfl))); have NB132_134 := Aside0.mk (Q_NB132_134 (hon 5 (by kernel_rfl)) (hon 7 (by kernel_rfl))); have NB134_133 := Aside0.mk (Q_NB134_133 (hon 6 (by kernel_rfl)) (hon 7 (by kernel_rfl))); have NB133_134 := Aside0.mk (Q_NB133_134 (hon 6 (by kernel_rfl)) (hon 7 (by kernel_rfl))); have GW131 := Aside0.mk (Q_GW131 (hon 4 (by kernel_rfl))); have GE131 := Aside0.mk (Q_GE131 (hon 4 (by kernel_rfl))); have NB126_131 := Aside0.mk (Q_NB126_131 (hon 4 (by kernel_rfl))); have NB131_126 := Aside0.mk (Q_NB131_126 (hon 4 (by kernel_rfl))); have BK132 := Aside0.mk (Q_BK132 (hon 5 (by kernel_rfl)) hb_); have GW132 := Aside0.mk (Q_GW132 (hon 5 (by kernel_rfl))); have GE132 := Aside0.mk (Q_GE132 (hon 5 (by kernel_rfl))); have NB126_132 := Aside0.mk (Q_NB126_132 (hon 5 (by kernel_rfl))); have NB132_126 := Aside0.mk (Q_NB132_126 (hon 5 (by kernel_rfl))); have BK133 := Aside0.mk (Q_BK133 (hon 6 (by kernel_rfl)) (hoff 10 (by kernel_rfl))); have GW133 := Aside0.mk (Q_GW133 (hon 6 (by kernel_rfl))); have GE133 := Aside0.mk (Q_GE133 (hon 6 (by kernel_rfl))); have NB126_133 := Aside0.mk (Q_NB126_133 (hon 6 (by kernel_rfl))); have NB133_126 := Aside0.mk (Q_NB133_126 (hon 6 (by kernel_rfl))); have BK134 := Aside0.mk (Q_BK134 (hon 7 (by kernel_rfl)) (hoff 11 (by kernel_rfl))); have GW134 := Aside0.mk (Q_GW134 (hon 7 (by kernel_rfl))); have GE134 := Aside0.mk (Q_GE134 (hon 7 (by kernel_rfl))); have NB126_134 := Aside0.mk (Q_NB126_134 (hon 7 (by kernel_rfl))); have NB134_126 := Aside0.mk (Q_NB134_126 (hon 7 (by kernel_rfl))); have BK131 := Aside0.mk (Q_BK131_e8 (hon 8 (by kernel_rfl))); have hs34 : w'.cell? ⟨gb132, 0, none⟩ = some (.int .i64 0) := (bC BK132.out 0).trans rfl; have hfs34 := bZ BK132.out 0; have hns34_0 := NB126_132.out; have hns34_1 := NB131_132.out; have hns34_3 := NB133_132.out; have hns34_4 := NB134_132.out; have hms34_0 := NB132_126.out; have hms34_1 := NB132_131.out; have hms34_3 := NB132_133.out; have hms34_4 := NB132_134.out; have hs35 : w'.cell? ⟨gb132, 1, none⟩ = some (.int .i64 0) := (bC BK132.out 1).trans rfl; have hfs35 := bZ BK132.out 1; have hns35_0 := NB126_132.out; have hns35_1 := NB131_132.out; have hns35_3 := NB133_132.out; have hns35_4 := NB134_132.out; have hms35_0 := NB132_126.out; have hms35_1 := NB132_131.out; have hms35_3 := NB132_133.out; have hms35_4 := NB132_134.out; have hs36 : w'.cell? ⟨gb132, 2, none⟩ = some (.int .i64 0) := (bC BK132.out 2).trans rfl; have hfs36 := bZ BK132.out 2; have hns36_0 := NB126_132.out; have hns36_1 := NB131_132.out; have hns36_3 := NB133_132.out; have hns36_4 := NB134_132.out; have hms36_0 := NB132_126.out; have hms36_1 := NB132_131.out; have hms36_3 := NB132_133.out; have hms36_4 := NB132_134.out; have hs37 : w'.cell? ⟨gb132, 3, none⟩ = some (.int .i64 0) := (bC BK132.out 3).trans rfl; have hfs37 := bZ BK132.out 3; have hns37_0 := NB126_132.out; have hns37_1 := NB131_132.out; have hns37_3 := NB133_132.out; have hns37_4 := NB134_132.out; have hms37_0 := NB132_126.out; have hms37_1 := NB132_131.out; have hms37_3 := NB132_133.out; have hms37_4 := NB132_134.out; have hs38 : w'.cell? ⟨gb132, 4, none⟩ = some (.int .i64 0) := (bC BK132.out 4).trans rfl; have hfs38 := bZ BK132.out 4; have hns38_0 := NB126_132.out; have hns38_1 := NB131_132.out; have hns38_3 := NB133_132.out; have hns38_4 := NB134_132.out; have hms38_0 := NB132_126.out; have hms38_1 := NB132_131.out; have hms38_3 := NB132_133.out; have hms38_4 := NB132_134.out; refine skip_ (w1 := ?_) (by rfl) rfl ?_ ?_; rotate_left
      ·
       go_simp; rfl
      refine hK.out _ _ ⟨gb131, gb132, gb133, gb134, m4_, m5_, m6_, m7_, (by rw [ha.out]; exact putSel_none (v := undef) rfl), (by (with_reducible repeat (first | refine bN ?_ _ | refine bD ?_ | refine bA ?_ _)); refine bF ?_ NB126_132.out _; (with_reducible repeat (first | refine bN ?_ _ | refine bD ?_ | refine bA ?_ _)); refine bF ?_ NB126_132.out _; (with_reducible repeat (first | refine bN ?_ _ | refine bD ?_ | refine bA ?_ _)); refine bF ?_ NB126_132.out _; (with_reducible repeat (first | refine bN ?_ _ | refine bD ?_ | refine bA ?_ _)); refine bF ?_ NB126_132.out _; (with_reducible repeat (first | refine bN ?_ _ | refine bD ?_ | refine bA ?_ _)); refine bF ?_ NB126_132.out _; (with_reducible repeat (first | refine bN ?_ _ | refine bD ?_ | refine bA ?_ _)); exact BK126.out), (by repeat (first | (with_reducible first | exact HB.out | apply wA | apply wN | apply wD | refine wS ?_ GE126.out | refine wS ?_ GE131.out | refine wS ?_ GE132.out | refine wS ?_ GE133.out | refine wS ?_ GE134.out) | exact HB.out)), fun _ _ => NB132_131.out, fun _ _ => NB131_132.out, fun _ _ => NB133_131.out, fun _ _ => NB131_133.out, fun _ _ => NB134_131.out, fun _ _ => NB131_134.out, fun _ _ => NB133_132.out, fun _ _ => NB132_133.out, fun _ _ => NB134_132.out, fun _ _ => NB132_134.out, fun _ _ => NB134_133.out, fun _ _ => NB133_134.out, fun _ h1_ => absurd ((hon 8 (by kernel_rfl)).symm.trans h1_) (by decide), fun _ => GW131.out, fun _ => GE131.out, fun _ => NB126_131.out, fun _ => NB131_126.out, fun _ h1_ => absurd ((up_self b 9).symm.trans h1_) (by decide), fun _ => GW132.out, fun _ => GE132.out, fun _ => NB126_132.out, fun _ => NB132_126.out, fun _ _ => (by (with_reducible repeat (first | refine bN ?_ _ | refine bD ?_ | refine bA ?_ _)); refine bF ?_ NB133_132.out _; (with_reducible repeat (first | refine bN ?_ _ | refine bD ?_ | refine bA ?_ _)); refine bF ?_ NB133_132.out _; (with_reducible repeat (first | refine bN ?_ _ | refine bD ?_ | refine bA ?_ _)); refine bF ?_ NB133_132.out _; (with_reducible repeat (first | refine bN ?_ _ | refine bD ?_ | refine bA ?_ _)); refine bF ?_ NB133_132.out _; (with_reducible repeat (first | refine bN ?_ _ | refine bD ?_ | refine bA ?_ _)); refine bF ?_ NB133_132.out _; (with_reducible repeat (first | refine bN ?_ _ | refine bD ?_ | refine bA ?_ _)); exact BK133.out), fun _ => GW133.out, fun _ => GE133.out, fun _ => NB126_133.out, fun _ => NB133_126.out, fun _ _ => (by (with_reducible repeat (first | refine bN ?_ _ | refine bD ?_ | refine bA ?_ _)); refine bF ?_ NB134_132.out _; (with_reducible repeat (first | refine bN ?_ _ | refine bD ?_ | refine bA ?_ _)); refine bF ?_ NB134_132.out _; (with_reducible repeat (first | refine bN ?_ _ | refine bD ?_ | refine bA ?_ _)); refine bF ?_ NB134_132.out _; (with_reducible repeat (first | refine bN ?_ _ | refine bD ?_ | refine bA ?_ _)); refine bF ?_ NB134_132.out _; (with_reducible repeat (first | refine bN ?_ _ | refine bD ?_ | refine bA ?_ _)); refine bF ?_ NB134_132.out _; (with_reducible repeat (first | refine bN ?_ _ | refine bD ?_ | refine bA ?_ _)); exact BK134.out), fun _ => GW134.out, fun _ => GE134.out, fun _ => NB126_134.out, fun _ => NB134_126.out, fun _ => (by (with_reducible repeat (first | refine bN ?_ _ | refine bD ?_ | refine bA ?_ _)); refine bF ?_ NB131_132.out _; (with_reducible repeat (first | refine bN ?_ _ | refine bD ?_ | refine bA ?_ _)); refine bF ?_ NB131_132.out _; (with_reducible repeat (first | refine bN ?_ _ | refine bD ?_ | refine bA ?_ _)); refine bF ?_ NB131_132.out _; (with_reducible repeat (first | refine bN ?_ _ | refine bD ?_ | refine bA ?_ _)); refine bF ?_ NB131_132.out _; (with_reducible repeat (first | refine bN ?_ _ | refine bD ?_ | refine bA ?_ _)); refine bF ?_ NB131_132.out _; (with_reducible repeat (first | refine bN ?_ _ | refine bD ?_ | refine bA ?_ _)); exact BK131.out), fun _ => (by (with_reducible repeat (first | refine bN ?_ _ | refine bD ?_ | refine bA ?_ _)); refine blk_put (cs := #[.int .i64 a0_0, .int .i64 a0_1, .int .i64 a0_2, .int .i64 a0_3, .int .i64 0]) ?_ 4 _ rfl; (with_reducible repeat (first | refine bN ?_ _ | refine bD ?_ | refine bA ?_ _)); refine blk_put (cs := #[.int .i64 a0_0, .int .i64 a0_1, .int .i64 a0_2, .int .i64 0, .int .i64 0]) ?_ 3 _ rfl; (with_reducible repeat (first | refine bN ?_ _ | refine bD ?_ | refine bA ?_ _)); refine blk_put (cs := #[.int .i64 a0_0, .int .i64 a0_1, .int .i64 0, .int .i64 0, .int .i64 0]) ?_ 2 _ rfl; (with_reducible repeat (first | refine bN ?_ _ | refine bD ?_ | refine bA ?_ _)); refine blk_put (cs := #[.int .i64 a0_0, .int .i64 0, .int .i64 0, .int .i64 0, .int .i64 0]) ?_ 1 _ rfl; (with_reducible repeat (first | refine bN ?_ _ | refine bD ?_ | refine bA ?_ _)); refine blk_put (cs := #[.int .i64 0, .int .i64 0, .int .i64 0, .int .i64 0, .int .i64 0]) ?_ 0 _ rfl; (with_reducible repeat (first | refine bN ?_ _ | refine bD ?_ | refine bA ?_ _)); exact BK132.out), fun h0_ => absurd ((hoff 10 (by kernel_rfl)).symm.trans h0_) (by decide), fun h0_ => absurd ((hoff 11 (by kernel_rfl)).symm.trans h0_) (by decide), Q_X4_, Q_X5_, Q_X6_, Q_X7_⟩
     refine steps_cons ?_ ?_
     ·
      rintro b a w' ⟨gb131, gb132, gb133, gb134, m4_, m5_, m6_, m7_, ha, Q_BK126, Q_HB, Q_NB132_131, Q_NB131_132, Q_NB133_131, Q_NB131_133, Q_NB134_131, Q_NB131_134, Q_NB133_132, Q_NB132_133, Q_NB134_132, Q_NB132_134, Q_NB134_133, Q_NB133_134, Q_BK131, Q_GW131, Q_GE131, Q_NB126_131, Q_NB131_126, Q_BK132, Q_GW132, Q_GE132, Q_NB126_132, Q_NB132_126, Q_BK133, Q_GW133, Q_GE133, Q_NB126_133, Q_NB133_126, Q_BK134, Q_GW134, Q_GE134, Q_NB126_134, Q_NB134_126, Q_BK131_e8, Q_BK132_e9, Q_BK133_e10, Q_BK134_e11, Q_X4_, Q_X5_, Q_X6_, Q_X7_⟩ hb_ hon hoff; refine ⟨_, rfl, fun K hK => ?_⟩
      have e7 : a.tmps[7]? = some (m6_) := by rw [ha]; exact putSel_on (e := (6, 7, m6_)) 6 rfl rfl (hon 6 (by kernel_rfl)) rfl
      rw [Q_X6_ (hon 6 (by kernel_rfl))] at e7
      have e35 : a.tmps[35]? = some (.agg #[.int .i64 a0_0, .int .i64 a0_1, .int .i64 a0_2, .int .i64 a0_3, .int .i64 a0_4]) := by rw [ha]; exact putSel_on (e := (2, 35, .agg #[.int .i64 a0_0, .int .i64 a0_1, .int .i64 a0_2, .int .i64 a0_3, .int .i64 a0_4])) 2 rfl rfl (hon 2 (by kernel_rfl)) rfl
      replace ha := Aside0.mk ha; have BK126 := Aside0.mk Q_BK126; have HB := Aside0.mk Q_HB; have NB132_131 := Aside0.mk (Q_NB132_131 (hon 4 (by kernel_rfl)) (hon 5 (by kernel_rfl))); have NB131_132 := Aside0.mk (Q_NB131_132 (hon 4 (by kernel_rfl)) (hon 5 (by kernel_rfl))); have NB133_131 := Aside0.mk (Q_NB133_131 (hon 4 (by kernel_rfl)) (hon 6 (by kernel_rfl))); have NB131_133 := Aside0.mk (Q_NB131_133 (hon 4 (by kernel_rfl)) (hon 6 (by kernel_rfl))); have NB134_131 := Aside0.mk (Q_NB134_131 (hon 4 (by kernel_rfl)) (hon 7 (by kernel_rfl))); have NB131_134 := Aside0.mk (Q_NB131_134 (hon 4 (by kernel_rfl)) (hon 7 (by kernel_rfl))); have NB133_132 := Aside0.mk (Q_NB133_132 (hon 5 (by kernel_rfl)) (hon 6 (by kernel_rfl))); have NB132_133 := Aside0.mk (Q_NB132_133 (hon 5 (by kernel_rfl)) (hon 6 (by kernel_rfl))); have NB134_132 := Aside0.mk (Q_NB134_132 (hon 5 (by kernel_rfl)) (hon 7 (by kernel_rfl))); have NB132_134 := Aside0.mk (Q_NB132_134 (hon 5 (by kernel_rfl)) (hon 7 (by kernel_rfl))); have NB134_133 := Aside0.mk (Q_NB134_133 (hon 6 (by kernel_rfl)) (hon 7 (by kernel_rfl))); have NB133_134 := Aside0.mk (Q_NB133_134 (hon 6 (by kernel_rfl)) (hon 7 (by kernel_rfl))); have GW131 := Aside0.mk (Q_GW131 (hon 4 (by kernel_rfl))); have GE131 := Aside0.mk (Q_GE131 (hon 4 (by kernel_rfl))); have NB126_131 := Aside0.mk (Q_NB126_131 (hon 4 (by kernel_rfl))); have NB131_126 := Aside0.mk (Q_NB131_126 (hon 4 (by kernel_rfl))); have GW132 := Aside0.mk (Q_GW132 (hon 5 (by kernel_rfl))); have GE132 := Aside0.mk (Q_GE132 (hon 5 (by kernel_rfl))); have NB126_132 := Aside0.mk (Q_NB126_132 (hon 5 (by kernel_rfl))); have NB132_126 := Aside0.mk (Q_NB132_126 (hon 5 (by kernel_rfl))); have BK133 := Aside0.mk (Q_BK133 (hon 6 (by kernel_rfl)) hb_); have GW133 := Aside0.mk (Q_GW133 (hon 6 (by kernel_rfl))); have GE133 := Aside0.mk (Q_GE133 (hon 6 (by kernel_rfl))); have NB126_133 := Aside0.mk (Q_NB126_133 (hon 6 (by kernel_rfl))); have NB133_126 := Aside0.mk (Q_NB133_126 (hon 6 (by kernel_rfl))); have BK134 := Aside0.mk (Q_BK134 (hon 7 (by kernel_rfl)) (hoff 11 (by kernel_rfl))); have GW134 := Aside0.mk (Q_GW134 (hon 7 (by kernel_rfl))); have GE134 := Aside0.mk (Q_GE134 (hon 7 (by kernel_rfl))); have NB126_134 := Aside0.mk (Q_NB126_134 (hon 7 (by kernel_rfl))); have NB134_126 := Aside0.mk (Q_NB134_126 (hon 7 (by kernel_rfl))); have BK131 := Aside0.mk (Q_BK131_e8 (hon 8 (by kernel_rfl))); have BK132 := Aside0.mk (Q_BK132_e9 (hon 9 (by kernel_rfl))); have hs39 : w'.cell? ⟨gb133, 0, none⟩ = some (.int .i64 0) := (bC BK133.out 0).trans rfl; have hfs39 := bZ BK133.out 0; have hns39_0 := NB126_133.out; have hns39_1 := NB131_133.out; have hns39_2 := NB132_133.out; have hns39_4 := NB134_133.out; have hms39_0 := NB133_126.out; have hms39_1 := NB133_131.out; have hms39_2 := NB133_132.out; have hms39_4 := NB133_134.out; have hs40 : w'.cell? ⟨gb133, 1, none⟩ = some (.int .i64 0) := (bC BK133.out 1).trans rfl; have hfs40 := bZ BK133.out 1; have hns40_0 := NB126_133.out; have hns40_1 := NB131_133.out; have hns40_2 := NB132_133.out; have hns40_4 := NB134_133.out; have hms40_0 := NB133_126.out; have hms40_1 := NB133_131.out; have hms40_2 := NB133_132.out; have hms40_4 := NB133_134.out; have hs41 : w'.cell? ⟨gb133, 2, none⟩ = some (.int .i64 0) := (bC BK133.out 2).trans rfl; have hfs41 := bZ BK133.out 2; have hns41_0 := NB126_133.out; have hns41_1 := NB131_133.out; have hns41_2 := NB132_133.out; have hns41_4 := NB134_133.out; have hms41_0 := NB133_126.out; have hms41_1 := NB133_131.out; have hms41_2 := NB133_132.out; have hms41_4 := NB133_134.out; have hs42 : w'.cell? ⟨gb133, 3, none⟩ = some (.int .i64 0) := (bC BK133.out 3).trans rfl; have hfs42 := bZ BK133.out 3; have hns42_0 := NB126_133.out; have hns42_1 := NB131_133.out; have hns42_2 := NB132_133.out; have hns42_4 := NB134_133.out; have hms42_0 := NB133_126.out; have hms42_1 := NB133_131.out; have hms42_2 := NB133_132.out; have hms42_4 := NB133_134.out; have hs43 : w'.cell? ⟨gb133, 4, none⟩ = some (.int .i64 0) := (bC BK133.out 4).trans rfl; have hfs43 := bZ BK133.out 4; have hns43_0 := NB126_133.out; have hns43_1 := NB131_133.out; have hns43_2 := NB132_133.out; have hns43_4 := NB134_133.out; have hms43_0 := NB133_126.out; have hms43_1 := NB133_131.out; have hms43_2 := NB133_132.out; have hms43_4 := NB133_134.out; refine skip_ (w1 := ?_) (by rfl) rfl ?_ ?_; rotate_left
      ·
       go_simp; rfl
      refine hK.out _ _ ⟨gb131, gb132, gb133, gb134, m4_, m5_, m6_, m7_, (by rw [ha.out]; exact putSel_none (v := undef) rfl), (by (with_reducible repeat (first | refine bN ?_ _ | refine bD ?_ | refine bA ?_ _)); refine bF ?_ NB126_133.out _; (with_reducible repeat (first | refine bN ?_ _ | refine bD ?_ | refine bA ?_ _)); refine bF ?_ NB126_133.out _; (with_reducible repeat (first | refine bN ?_ _ | refine bD ?_ | refine bA ?_ _)); refine bF ?_ NB126_133.out _; (with_reducible repeat (first | refine bN ?_ _ | refine bD ?_ | refine bA ?_ _)); refine bF ?_ NB126_133.out _; (with_reducible repeat (first | refine bN ?_ _ | refine bD ?_ | refine bA ?_ _)); refine bF ?_ NB126_133.out _; (with_reducible repeat (first | refine bN ?_ _ | refine bD ?_ | refine bA ?_ _)); exact BK126.out), (by repeat (first | (with_reducible first | exact HB.out | apply wA | apply wN | apply wD | refine wS ?_ GE126.out | refine wS ?_ GE131.out | refine wS ?_ GE132.out | refine wS ?_ GE133.out | refine wS ?_ GE134.out) | exact HB.out)), fun _ _ => NB132_131.out, fun _ _ => NB131_132.out, fun _ _ => NB133_131.out, fun _ _ => NB131_133.out, fun _ _ => NB134_131.out, fun _ _ => NB131_134.out, fun _ _ => NB133_132.out, fun _ _ => NB132_133.out, fun _ _ => NB134_132.out, fun _ _ => NB132_134.out, fun _ _ => NB134_133.out, fun _ _ => NB133_134.out, fun _ h1_ => absurd ((hon 8 (by kernel_rfl)).symm.trans h1_) (by decide), fun _ => GW131.out, fun _ => GE131.out, fun _ => NB126_131.out, fun _ => NB131_126.out, fun _ h1_ => absurd ((hon 9 (by kernel_rfl)).symm.trans h1_) (by decide), fun _ => GW132.out, fun _ => GE132.out, fun _ => NB126_132.out, fun _ => NB132_126.out, fun _ h1_ => absurd ((up_self b 10).symm.trans h1_) (by decide), fun _ => GW133.out, fun _ => GE133.out, fun _ => NB126_133.out, fun _ => NB133_126.out, fun _ _ => (by (with_reducible repeat (first | refine bN ?_ _ | refine bD ?_ | refine bA ?_ _)); refine bF ?_ NB134_133.out _; (with_reducible repeat (first | refine bN ?_ _ | refine bD ?_ | refine bA ?_ _)); refine bF ?_ NB134_133.out _; (with_reducible repeat (first | refine bN ?_ _ | refine bD ?_ | refine bA ?_ _)); refine bF ?_ NB134_133.out _; (with_reducible repeat (first | refine bN ?_ _ | refine bD ?_ | refine bA ?_ _)); refine bF ?_ NB134_133.out _; (with_reducible repeat (first | refine bN ?_ _ | refine bD ?_ | refine bA ?_ _)); refine bF ?_ NB134_133.out _; (with_reducible repeat (first | refine bN ?_ _ | refine bD ?_ | refine bA ?_ _)); exact BK134.out), fun _ => GW134.out, fun _ => GE134.out, fun _ => NB126_134.out, fun _ => NB134_126.out, fun _ => (by (with_reducible repeat (first | refine bN ?_ _ | refine bD ?_ | refine bA ?_ _)); refine bF ?_ NB131_133.out _; (with_reducible repeat (first | refine bN ?_ _ | refine bD ?_ | refine bA ?_ _)); refine bF ?_ NB131_133.out _; (with_reducible repeat (first | refine bN ?_ _ | refine bD ?_ | refine bA ?_ _)); refine bF ?_ NB131_133.out _; (with_reducible repeat (first | refine bN ?_ _ | refine bD ?_ | refine bA ?_ _)); refine bF ?_ NB131_133.out _; (with_reducible repeat (first | refine bN ?_ _ | refine bD ?_ | refine bA ?_ _)); refine bF ?_ NB131_133.out _; (with_reducible repeat (first | refine bN ?_ _ | refine bD ?_ | refine bA ?_ _)); exact BK131.out), fun _ => (by (with_reducible repeat (first | refine bN ?_ _ | refine bD ?_ | refine bA ?_ _)); refine bF ?_ NB132_133.out _; (with_reducible repeat (first | refine bN ?_ _ | refine bD ?_ | refine bA ?_ _)); refine bF ?_ NB132_133.out _; (with_reducible repeat (first | refine bN ?_ _ | refine bD ?_ | refine bA ?_ _)); refine bF ?_ NB132_133.out _; (with_reducible repeat (first | refine bN ?_ _ | refine bD ?_ | refine bA ?_ _)); refine bF ?_ NB132_133.out _; (with_reducible repeat (first | refine bN ?_ _ | refine bD ?_ | refine bA ?_ _)); refine bF ?_ NB132_133.out _; (with_reducible repeat (first | refine bN ?_ _ | refine bD ?_ | refine bA ?_ _)); exact BK132.out), fun _ => (by (with_reducible repeat (first | refine bN ?_ _ | refine bD ?_ | refine bA ?_ _)); refine blk_put (cs := #[.int .i64 a0_0, .int .i64 a0_1, .int .i64 a0_2, .int .i64 a0_3, .int .i64 0]) ?_ 4 _ rfl; (with_reducible repeat (first | refine bN ?_ _ | refine bD ?_ | refine bA ?_ _)); refine blk_put (cs := #[.int .i64 a0_0, .int .i64 a0_1, .int .i64 a0_2, .int .i64 0, .int .i64 0]) ?_ 3 _ rfl; (with_reducible repeat (first | refine bN ?_ _ | refine bD ?_ | refine bA ?_ _)); refine blk_put (cs := #[.int .i64 a0_0, .int .i64 a0_1, .int .i64 0, .int .i64 0, .int .i64 0]) ?_ 2 _ rfl; (with_reducible repeat (first | refine bN ?_ _ | refine bD ?_ | refine bA ?_ _)); refine blk_put (cs := #[.int .i64 a0_0, .int .i64 0, .int .i64 0, .int .i64 0, .int .i64 0]) ?_ 1 _ rfl; (with_reducible repeat (first | refine bN ?_ _ | refine bD ?_ | refine bA ?_ _)); refine blk_put (cs := #[.int .i64 0, .int .i64 0, .int .i64 0, .int .i64 0, .int .i64 0]) ?_ 0 _ rfl; (with_reducible repeat (first | refine bN ?_ _ | refine bD ?_ | refine bA ?_ _)); exact BK133.out), fun h0_ => absurd ((hoff 11 (by kernel_rfl)).symm.trans h0_) (by decide), Q_X4_, Q_X5_, Q_X6_, Q_X7_⟩
     refine steps_cons ?_ ?_
     ·
      rintro b a w' ⟨gb131, gb132, gb133, gb134, m4_, m5_, m6_, m7_, ha, Q_BK126, Q_HB, Q_NB132_131, Q_NB131_132, Q_NB133_131, Q_NB131_133, Q_NB134_131, Q_NB131_134, Q_NB133_132, Q_NB132_133, Q_NB134_132, Q_NB132_134, Q_NB134_133, Q_NB133_134, Q_BK131, Q_GW131, Q_GE131, Q_NB126_131, Q_NB131_126, Q_BK132, Q_GW132, Q_GE132, Q_NB126_132, Q_NB132_126, Q_BK133, Q_GW133, Q_GE133, Q_NB126_133, Q_NB133_126, Q_BK134, Q_GW134, Q_GE134, Q_NB126_134, Q_NB134_126, Q_BK131_e8, Q_BK132_e9, Q_BK133_e10, Q_BK134_e11, Q_X4_, Q_X5_, Q_X6_, Q_X7_⟩ hb_ hon hoff; refine ⟨_, rfl, fun K hK => ?_⟩
      have e8 : a.tmps[8]? = some (m7_) := by rw [ha]; exact putSel_on (e := (7, 8, m7_)) 7 rfl rfl (hon 7 (by kernel_rfl)) rfl
      rw [Q_X7_ (hon 7 (by kernel_rfl))] at e8
      have e36 : a.tmps[36]? = some (.agg #[.int .i64 a0_0, .int .i64 a0_1, .int .i64 a0_2, .int .i64 a0_3, .int .i64 a0_4]) := by rw [ha]; exact putSel_on (e := (3, 36, .agg #[.int .i64 a0_0, .int .i64 a0_1, .int .i64 a0_2, .int .i64 a0_3, .int .i64 a0_4])) 3 rfl rfl (hon 3 (by kernel_rfl)) rfl
      replace ha := Aside0.mk ha; have BK126 := Aside0.mk Q_BK126; have HB := Aside0.mk Q_HB; have NB132_131 := Aside0.mk (Q_NB132_131 (hon 4 (by kernel_rfl)) (hon 5 (by kernel_rfl))); have NB131_132 := Aside0.mk (Q_NB131_132 (hon 4 (by kernel_rfl)) (hon 5 (by kernel_rfl))); have NB133_131 := Aside0.mk (Q_NB133_131 (hon 4 (by kernel_rfl)) (hon 6 (by kernel_rfl))); have NB131_133 := Aside0.mk (Q_NB131_133 (hon 4 (by kernel_rfl)) (hon 6 (by kernel_rfl))); have NB134_131 := Aside0.mk (Q_NB134_131 (hon 4 (by kernel_rfl)) (hon 7 (by kernel_rfl))); have NB131_134 := Aside0.mk (Q_NB131_134 (hon 4 (by kernel_rfl)) (hon 7 (by kernel_rfl))); have NB133_132 := Aside0.mk (Q_NB133_132 (hon 5 (by kernel_rfl)) (hon 6 (by kernel_rfl))); have NB132_133 := Aside0.mk (Q_NB132_133 (hon 5 (by kernel_rfl)) (hon 6 (by kernel_rfl))); have NB134_132 := Aside0.mk (Q_NB134_132 (hon 5 (by kernel_rfl)) (hon 7 (by kernel_rfl))); have NB132_134 := Aside0.mk (Q_NB132_134 (hon 5 (by kernel_rfl)) (hon 7 (by kernel_rfl))); have NB134_133 := Aside0.mk (Q_NB134_133 (hon 6 (by kernel_rfl)) (hon 7 (by kernel_rfl))); have NB133_134 := Aside0.mk (Q_NB133_134 (hon 6 (by kernel_rfl)) (hon 7 (by kernel_rfl))); have GW131 := Aside0.mk (Q_GW131 (hon 4 (by kernel_rfl))); have GE131 := Aside0.mk (Q_GE131 (hon 4 (by kernel_rfl))); have NB126_131 := Aside0.mk (Q_NB126_131 (hon 4 (by kernel_rfl))); have NB131_126 := Aside0.mk (Q_NB131_126 (hon 4 (by kernel_rfl))); have GW132 := Aside0.mk (Q_GW132 (hon 5 (by kernel_rfl))); have GE132 := Aside0.mk (Q_GE132 (hon 5 (by kernel_rfl))); have NB126_132 := Aside0.mk (Q_NB126_132 (hon 5 (by kernel_rfl))); have NB132_126 := Aside0.mk (Q_NB132_126 (hon 5 (by kernel_rfl))); have GW133 := Aside0.mk (Q_GW133 (hon 6 (by kernel_rfl))); have GE133 := Aside0.mk (Q_GE133 (hon 6 (by kernel_rfl))); have NB126_133 := Aside0.mk (Q_NB126_133 (hon 6 (by kernel_rfl))); have NB133_126 := Aside0.mk (Q_NB133_126 (hon 6 (by kernel_rfl))); have BK134 := Aside0.mk (Q_BK134 (hon 7 (by kernel_rfl)) hb_); have GW134 := Aside0.mk (Q_GW134 (hon 7 (by kernel_rfl))); have GE134 := Aside0.mk (Q_GE134 (hon 7 (by kernel_rfl))); have NB126_134 := Aside0.mk (Q_NB126_134 (hon 7 (by kernel_rfl))); have NB134_126 := Aside0.mk (Q_NB134_126 (hon 7 (by kernel_rfl))); have BK131 := Aside0.mk (Q_BK131_e8 (hon 8 (by kernel_rfl))); have BK132 := Aside0.mk (Q_BK132_e9 (hon 9 (by kernel_rfl))); have BK133 := Aside0.mk (Q_BK133_e10 (hon 10 (by kernel_rfl))); have hs44 : w'.cell? ⟨gb134, 0, none⟩ = some (.int .i64 0) := (bC BK134.out 0).trans rfl; have hfs44 := bZ BK134.out 0; have hns44_0 := NB126_134.out; have hns44_1 := NB131_134.out; have hns44_2 := NB132_134.out; have hns44_3 := NB133_134.out; have hms44_0 := NB134_126.out; have hms44_1 := NB134_131.out; have hms44_2 := NB134_132.out; have hms44_3 := NB134_133.out; have hs45 : w'.cell? ⟨gb134, 1, none⟩ = some (.int .i64 0) := (bC BK134.out 1).trans rfl; have hfs45 := bZ BK134.out 1; have hns45_0 := NB126_134.out; have hns45_1 := NB131_134.out; have hns45_2 := NB132_134.out; have hns45_3 := NB133_134.out; have hms45_0 := NB134_126.out; have hms45_1 := NB134_131.out; have hms45_2 := NB134_132.out; have hms45_3 := NB134_133.out; have hs46 : w'.cell? ⟨gb134, 2, none⟩ = some (.int .i64 0) := (bC BK134.out 2).trans rfl; have hfs46 := bZ BK134.out 2; have hns46_0 := NB126_134.out; have hns46_1 := NB131_134.out; have hns46_2 := NB132_134.out; have hns46_3 := NB133_134.out; have hms46_0 := NB134_126.out; have hms46_1 := NB134_131.out; have hms46_2 := NB134_132.out; have hms46_3 := NB134_133.out; have hs47 : w'.cell? ⟨gb134, 3, none⟩ = some (.int .i64 0) := (bC BK134.out 3).trans rfl; have hfs47 := bZ BK134.out 3; have hns47_0 := NB126_134.out; have hns47_1 := NB131_134.out; have hns47_2 := NB132_134.out; have hns47_3 := NB133_134.out; have hms47_0 := NB134_126.out; have hms47_1 := NB134_131.out; have hms47_2 := NB134_132.out; have hms47_3 := NB134_133.out; have hs48 : w'.cell? ⟨gb134, 4, none⟩ = some (.int .i64 0) := (bC BK134.out 4).trans rfl; have hfs48 := bZ BK134.out 4; have hns48_0 := NB126_134.out; have hns48_1 := NB131_134.out; have hns48_2 := NB132_134.out; have hns48_3 := NB133_134.out; have hms48_0 := NB134_126.out; have hms48_1 := NB134_131.out; have hms48_2 := NB134_132.out; have hms48_3 := NB134_133.out; refine skip_ (w1 := ?_) (by rfl) rfl ?_ ?_; rotate_left
      ·
       go_simp; rfl
      refine hK.out _ _ ⟨gb131, gb132, gb133, gb134, m4_, m5_, m6_, m7_, (by rw [ha.out]; exact putSel_none (v := undef) rfl), (by (with_reducible repeat (first | refine bN ?_ _ | refine bD ?_ | refine bA ?_ _)); refine bF ?_ NB126_134.out _; (with_reducible repeat (first | refine bN ?_ _ | refine bD ?_ | refine bA ?_ _)); refine bF ?_ NB126_134.out _; (with_reducible repeat (first | refine bN ?_ _ | refine bD ?_ | refine bA ?_ _)); refine bF ?_ NB126_134.out _; (with_reducible repeat (first | refine bN ?_ _ | refine bD ?_ | refine bA ?_ _)); refine bF ?_ NB126_134.out _; (with_reducible repeat (first | refine bN ?_ _ | refine bD ?_ | refine bA ?_ _)); refine bF ?_ NB126_134.out _; (with_reducible repeat (first | refine bN ?_ _ | refine bD ?_ | refine bA ?_ _)); exact BK126.out), (by repeat (first | (with_reducible first | exact HB.out | apply wA | apply wN | apply wD | refine wS ?_ GE126.out | refine wS ?_ GE131.out | refine wS ?_ GE132.out | refine wS ?_ GE133.out | refine wS ?_ GE134.out) | exact HB.out)), fun _ _ => NB132_131.out, fun _ _ => NB131_132.out, fun _ _ => NB133_131.out, fun _ _ => NB131_133.out, fun _ _ => NB134_131.out, fun _ _ => NB131_134.out, fun _ _ => NB133_132.out, fun _ _ => NB132_133.out, fun _ _ => NB134_132.out, fun _ _ => NB132_134.out, fun _ _ => NB134_133.out, fun _ _ => NB133_134.out, fun _ h1_ => absurd ((hon 8 (by kernel_rfl)).symm.trans h1_) (by decide), fun _ => GW131.out, fun _ => GE131.out, fun _ => NB126_131.out, fun _ => NB131_126.out, fun _ h1_ => absurd ((hon 9 (by kernel_rfl)).symm.trans h1_) (by decide), fun _ => GW132.out, fun _ => GE132.out, fun _ => NB126_132.out, fun _ => NB132_126.out, fun _ h1_ => absurd ((hon 10 (by kernel_rfl)).symm.trans h1_) (by decide), fun _ => GW133.out, fun _ => GE133.out, fun _ => NB126_133.out, fun _ => NB133_126.out, fun _ h1_ => absurd ((up_self b 11).symm.trans h1_) (by decide), fun _ => GW134.out, fun _ => GE134.out, fun _ => NB126_134.out, fun _ => NB134_126.out, fun _ => (by (with_reducible repeat (first | refine bN ?_ _ | refine bD ?_ | refine bA ?_ _)); refine bF ?_ NB131_134.out _; (with_reducible repeat (first | refine bN ?_ _ | refine bD ?_ | refine bA ?_ _)); refine bF ?_ NB131_134.out _; (with_reducible repeat (first | refine bN ?_ _ | refine bD ?_ | refine bA ?_ _)); refine bF ?_ NB131_134.out _; (with_reducible repeat (first | refine bN ?_ _ | refine bD ?_ | refine bA ?_ _)); refine bF ?_ NB131_134.out _; (with_reducible repeat (first | refine bN ?_ _ | refine bD ?_ | refine bA ?_ _)); refine bF ?_ NB131_134.out _; (with_reducible repeat (first | refine bN ?_ _ | refine bD ?_ | refine bA ?_ _)); exact BK131.out), fun _ => (by (with_reducible repeat (first | refine bN ?_ _ | refine bD ?_ | refine bA ?_ _)); refine bF ?_ NB132_134.out _; (with_reducible repeat (first | refine bN ?_ _ | refine bD ?_ | refine bA ?_ _)); refine bF ?_ NB132_134.out _; (with_reducible repeat (first | refine bN ?_ _ | refine bD ?_ | refine bA ?_ _)); refine bF ?_ NB132_134.out _; (with_reducible repeat (first | refine bN ?_ _ | refine bD ?_ | refine bA ?_ _)); refine bF ?_ NB132_134.out _; (with_reducible repeat (first | refine bN ?_ _ | refine bD ?_ | refine bA ?_ _)); refine bF ?_ NB132_134.out _; (with_reducible repeat (first | refine bN ?_ _ | refine bD ?_ | refine bA ?_ _)); exact BK132.out), fun _ => (by (with_reducible repeat (first | refine bN ?_ _ | refine bD ?_ | refine bA ?_ _)); refine bF ?_ NB133_134.out _; (with_reducible repeat (first | refine bN ?_ _ | refine bD ?_ | refine bA ?_ _)); refine bF ?_ NB133_134.out _; (with_reducible repeat (first | refine bN ?_ _ | refine bD ?_ | refine bA ?_ _)); refine bF ?_ NB133_134.out _; (with_reducible repeat (first | refine bN ?_ _ | refine bD ?_ | refine bA ?_ _)); refine bF ?_ NB133_134.out _; (with_reducible repeat (first | refine bN ?_ _ | refine bD ?_ | refine bA ?_ _)); refine bF ?_ NB133_134.out _; (with_reducible repeat (first | refine bN ?_ _ | refine bD ?_ | refine bA ?_ _)); exact BK133.out), fun _ => (by (with_reducible repeat (first | refine bN ?_ _ | refine bD ?_ | refine bA ?_ _)); refine blk_put (cs := #[.int .i64 a0_0, .int .i64 a0_1, .int .i64 a0_2, .int .i64 a0_3, .int .i64 0]) ?_ 4 _ rfl; (with_reducible repeat (first | refine bN ?_ _ | refine bD ?_ | refine bA ?_ _)); refine blk_put (cs := #[.int .i64 a0_0, .int .i64 a0_1, .int .i64 a0_2, .int .i64 0, .int .i64 0]) ?_ 3 _ rfl; (with_reducible repeat (first | refine bN ?_ _ | refine bD ?_ | refine bA ?_ _)); refine blk_put (cs := #[.int .i64 a0_0, .int .i64 a0_1, .int .i64 0, .int .i64 0, .int .i64 0]) ?_ 2 _ rfl; (with_reducible repeat (first | refine bN ?_ _ | refine bD ?_ | refine bA ?_ _)); refine blk_put (cs := #[.int .i64 a0_0, .int .i64 0, .int .i64 0, .int .i64 0, .int .i64 0]) ?_ 1 _ rfl; (with_reducible repeat (first | refine bN ?_ _ | refine bD ?_ | refine bA ?_ _)); refine blk_put (cs := #[.int .i64 0, .int .i64 0, .int .i64 0, .int .i64 0, .int .i64 0]) ?_ 0 _ rfl; (with_reducible repeat (first | refine bN ?_ _ | refine bD ?_ | refine bA ?_ _)); exact BK134.out), Q_X4_, Q_X5_, Q_X6_, Q_X7_⟩
     exact steps_nil
    rintro b a w48 hall ⟨gb131, gb132, gb133, gb134, m4_, m5_, m6_, m7_, ha, Q_BK126, Q_HB, Q_NB132_131, Q_NB131_132, Q_NB133_131, Q_NB131_133, Q_NB134_131, Q_NB131_134, Q_NB133_132, Q_NB132_133, Q_NB134_132, Q_NB132_134, Q_NB134_133, Q_NB133_134, Q_BK131, Q_GW131, Q_GE131, Q_NB126_131, Q_NB131_126, Q_BK132, Q_GW132, Q_GE132, Q_NB126_132, Q_NB132_126, Q_BK133, Q_GW133, Q_GE133, Q_NB126_133, Q_NB133_126, Q_BK134, Q_GW134, Q_GE134, Q_NB126_134, Q_NB134_126, Q_BK131_e8, Q_BK132_e9, Q_BK133_e10, Q_BK134_e11, Q_X4_, Q_X5_, Q_X6_, Q_X7_⟩; clear BK126 HB; have hb0_ := hall 0 (by kernel_rfl); have hb1_ := hall 1 (by kernel_rfl); have hb2_ := hall 2 (by kernel_rfl); have hb3_ := hall 3 (by kernel_rfl); have hb4_ := hall 4 (by kernel_rfl); have hb5_ := hall 5 (by kernel_rfl); have hb6_ := hall 6 (by kernel_rfl); have hb7_ := hall 7 (by kernel_rfl); have hb8_ := hall 8 (by kernel_rfl); have hb9_ := hall 9 (by kernel_rfl); have hb10_ := hall 10 (by kernel_rfl); have hb11_ := hall 11 (by kernel_rfl); subst ha; obtain rfl := Q_X4_ hb4_; obtain rfl := Q_X5_ hb5_; obtain rfl := Q_X6_ hb6_; obtain rfl := Q_X7_ hb7_; simp only [putSel, hb0_, hb1_, hb2_, hb3_, hb4_, hb5_, hb6_, hb7_, hb8_, hb9_, hb10_, hb11_, if_true, Act.put, lT, l0_, lS]; have BK126 := Aside0.mk Q_BK126; clear Q_BK126; have HB := Aside0.mk Q_HB; clear Q_HB; have NB132_131 := Aside0.mk (Q_NB132_131 hb4_ hb5_); clear Q_NB132_131; have NB131_132 := Aside0.mk (Q_NB131_132 hb4_ hb5_); clear Q_NB131_132; have NB133_131 := Aside0.mk (Q_NB133_131 hb4_ hb6_); clear Q_NB133_131; have NB131_133 := Aside0.mk (Q_NB131_133 hb4_ hb6_); clear Q_NB131_133; have NB134_131 := Aside0.mk (Q_NB134_131 hb4_ hb7_); clear Q_NB134_131; have NB131_134 := Aside0.mk (Q_NB131_134 hb4_ hb7_); clear Q_NB131_134; have NB133_132 := Aside0.mk (Q_NB133_132 hb5_ hb6_); clear Q_NB133_132; have NB132_133 := Aside0.mk (Q_NB132_133 hb5_ hb6_); clear Q_NB132_133; have NB134_132 := Aside0.mk (Q_NB134_132 hb5_ hb7_); clear Q_NB134_132; have NB132_134 := Aside0.mk (Q_NB132_134 hb5_ hb7_); clear Q_NB132_134; have NB134_133 := Aside0.mk (Q_NB134_133 hb6_ hb7_); clear Q_NB134_133; have NB133_134 := Aside0.mk (Q_NB133_134 hb6_ hb7_); clear Q_NB133_134; clear Q_BK131; have GW131 := Aside0.mk (Q_GW131 hb4_); clear Q_GW131; have GE131 := Aside0.mk (Q_GE131 hb4_); clear Q_GE131; have NB126_131 := Aside0.mk (Q_NB126_131 hb4_); clear Q_NB126_131; have NB131_126 := Aside0.mk (Q_NB131_126 hb4_); clear Q_NB131_126; clear Q_BK132; have GW132 := Aside0.mk (Q_GW132 hb5_); clear Q_GW132; have GE132 := Aside0.mk (Q_GE132 hb5_); clear Q_GE132; have NB126_132 := Aside0.mk (Q_NB126_132 hb5_); clear Q_NB126_132; have NB132_126 := Aside0.mk (Q_NB132_126 hb5_); clear Q_NB132_126; clear Q_BK133; have GW133 := Aside0.mk (Q_GW133 hb6_); clear Q_GW133; have GE133 := Aside0.mk (Q_GE133 hb6_); clear Q_GE133; have NB126_133 := Aside0.mk (Q_NB126_133 hb6_); clear Q_NB126_133; have NB133_126 := Aside0.mk (Q_NB133_126 hb6_); clear Q_NB133_126; clear Q_BK134; have GW134 := Aside0.mk (Q_GW134 hb7_); clear Q_GW134; have GE134 := Aside0.mk (Q_GE134 hb7_); clear Q_GE134; have NB126_134 := Aside0.mk (Q_NB126_134 hb7_); clear Q_NB126_134; have NB134_126 := Aside0.mk (Q_NB134_126 hb7_); clear Q_NB134_126; have BK131 := Aside0.mk (Q_BK131_e8 hb8_); clear Q_BK131_e8; have BK132 := Aside0.mk (Q_BK132_e9 hb9_); clear Q_BK132_e9; have BK133 := Aside0.mk (Q_BK133_e10 hb10_); clear Q_BK133_e10; have BK134 := Aside0.mk (Q_BK134_e11 hb11_); clear Q_BK134_e11; clear hall hb0_ hb1_ hb2_ hb3_ hb4_ hb5_ hb6_ hb7_ hb8_ hb9_ hb10_ hb11_; have hnb49 := NB131_126.out; have hnc49 := NB126_131.out; have hnb50 := NB131_132.out; have hnc50 := NB132_131.out; have hnb51 := NB131_133.out; have hnc51 := NB133_131.out; have hnb52 := NB131_134.out; have hnc52 := NB134_131.out; have hcz53_0 : w48.cell? ⟨gb131, 0, none⟩ = some (.int .i64 a0_0) := (bC BK131.out 0).trans rfl; have hcz53_1 : w48.cell? ⟨gb131, 1, none⟩ = some (.int .i64 a0_1) := (bC BK131.out 1).trans rfl; have hcz53_2 : w48.cell? ⟨gb131, 2, none⟩ = some (.int .i64 a0_2) := (bC BK131.out 2).trans rfl; have hcz53_3 : w48.cell? ⟨gb131, 3, none⟩ = some (.int .i64 a0_3) := (bC BK131.out 3).trans rfl; have hcz53_4 : w48.cell? ⟨gb131, 4, none⟩ = some (.int .i64 a0_4) := (bC BK131.out 4).trans rfl; have hfz53_0 := bZ BK131.out 0; have hfz53_1 := bZ BK131.out 1; have hfz53_2 := bZ BK131.out 2; have hfz53_3 := bZ BK131.out 3; have hfz53_4 := bZ BK131.out 4; have hnb54 := NB132_126.out; have hnc54 := NB126_132.out; have hnb55 := NB132_133.out; have hnc55 := NB133_132.out; have hnb56 := NB132_134.out; have hnc56 := NB134_132.out; have hcz57_0 : w48.cell? ⟨gb132, 0, none⟩ = some (.int .i64 a0_0) := (bC BK132.out 0).trans rfl; have hcz57_1 : w48.cell? ⟨gb132, 1, none⟩ = some (.int .i64 a0_1) := (bC BK132.out 1).trans rfl; have hcz57_2 : w48.cell? ⟨gb132, 2, none⟩ = some (.int .i64 a0_2) := (bC BK132.out 2).trans rfl; have hcz57_3 : w48.cell? ⟨gb132, 3, none⟩ = some (.int .i64 a0_3) := (bC BK132.out 3).trans rfl; have hcz57_4 : w48.cell? ⟨gb132, 4, none⟩ = some (.int .i64 a0_4) := (bC BK132.out 4).trans rfl; have hfz57_0 := bZ BK132.out 0; have hfz57_1 := bZ BK132.out 1; have hfz57_2 := bZ BK132.out 2; have hfz57_3 := bZ BK132.out 3; have hfz57_4 := bZ BK132.out 4; have hnb58 := NB133_126.out; have hnc58 := NB126_133.out; have hnb59 := NB133_134.out; have hnc59 := NB134_133.out; have hcz60_0 : w48.cell? ⟨gb133, 0, none⟩ = some (.int .i64 a0_0) := (bC BK133.out 0).trans rfl; have hcz60_1 : w48.cell? ⟨gb133, 1, none⟩ = some (.int .i64 a0_1) := (bC BK133.out 1).trans rfl; have hcz60_2 : w48.cell? ⟨gb133, 2, none⟩ = some (.int .i64 a0_2) := (bC BK133.out 2).trans rfl; have hcz60_3 : w48.cell? ⟨gb133, 3, none⟩ = some (.int .i64 a0_3) := (bC BK133.out 3).trans rfl; have hcz60_4 : w48.cell? ⟨gb133, 4, none⟩ = some (.int .i64 a0_4) := (bC BK133.out 4).trans rfl; have hfz60_0 := bZ BK133.out 0; have hfz60_1 := bZ BK133.out 1; have hfz60_2 := bZ BK133.out 2; have hfz60_3 := bZ BK133.out 3; have hfz60_4 := bZ BK133.out 4; have hnb61 := NB134_126.out; have hnc61 := NB126_134.out; have hcz62_0 : w48.cell? ⟨gb134, 0, none⟩ = some (.int .i64 a0_0) := (bC BK134.out 0).trans rfl; have hcz62_1 : w48.cell? ⟨gb134, 1, none⟩ = some (.int .i64 a0_1) := (bC BK134.out 1).trans rfl; have hcz62_2 : w48.cell? ⟨gb134, 2, none⟩ = some (.int .i64 a0_2) := (bC BK134.out 2).trans rfl; have hcz62_3 : w48.cell? ⟨gb134, 3, none⟩ = some (.int .i64 a0_3) := (bC BK134.out 3).trans rfl; have hcz62_4 : w48.cell? ⟨gb134, 4, none⟩ = some (.int .i64 a0_4) := (bC BK134.out 4).trans rfl; have hfz62_0 := bZ BK134.out 0; have hfz62_1 := bZ BK134.out 1; have hfz62_2 := bZ BK134.out 2; have hfz62_3 := bZ BK134.out 3; have hfz62_4 := bZ BK134.out 4
    try go_wp2_with (first | ((with_reducible refine gate_dst (N := 57) rfl ?_); refine Kd.R_lit k35 _ 35 ?hg (N := 57) ?hd (xs := ([(⟨wrap64 (a0_0 + 1), a0_1, a0_2, a0_3, a0_4⟩ : S35), (⟨a0_0, wrap64 (a0_1 + 1), a0_2, a0_3, a0_4⟩ : S35), (⟨a0_0, a0_1, wrap64 (a0_2 - 1), a0_3, a0_4⟩ : S35), (⟨a0_0, a0_1, a0_2, wrap64 (a0_3 - 1), a0_4⟩ : S35)] : List (S35))) (inner := [.int .i64 (wrap64 (a0_0 + 1)), .int .i64 a0_1, .int .i64 a0_2, .int .i64 a0_3, .int .i64 a0_4, .int .i64 a0_0, .int .i64 (wrap64 (a0_1 + 1)), .int .i64 a0_2, .int .i64 a0_3, .int .i64 a0_4, .int .i64 a0_0, .int .i64 a0_1, .int .i64 (wrap64 (a0_2 - 1)), .int .i64 a0_3, .int .i64 a0_4, .int .i64 a0_0, .int .i64 a0_1, .int .i64 a0_2, .int .i64 (wrap64 (a0_3 - 1)), .int .i64 a0_4]) (ok := fun _ => True) (okp := fun _ => True) ?hr ?hp (fun _ hk => hk) trivial (Below.refl _ _) (Nat.le_refl _) (by simp) ?_; (case hd => rfl); (case hg => rfl); (case hr => first | (go_simp; done) | (go_simp; rfl)); (case hp => exact (Reps.c5 (show Kd.M k35 _ _ _ (⟨wrap64 (a0_0 + 1), a0_1, a0_2, a0_3, a0_4⟩ : S35) [.int .i64 (wrap64 (a0_0 + 1)), .int .i64 a0_1, .int .i64 a0_2, .int .i64 a0_3, .int .i64 a0_4] from (k35_mkM _ _ _ (⟨wrap64 (a0_0 + 1), a0_1, a0_2, a0_3, a0_4⟩ : S35) )) (Reps.c5 (show Kd.M k35 _ _ _ (⟨a0_0, wrap64 (a0_1 + 1), a0_2, a0_3, a0_4⟩ : S35) [.int .i64 a0_0, .int .i64 (wrap64 (a0_1 + 1)), .int .i64 a0_2, .int .i64 a0_3, .int .i64 a0_4] from (k35_mkM _ _ _ (⟨a0_0, wrap64 (a0_1 + 1), a0_2, a0_3, a0_4⟩ : S35) )) (Reps.c5 (show Kd.M k35 _ _ _ (⟨a0_0, a0_1, wrap64 (a0_2 - 1), a0_3, a0_4⟩ : S35) [.int .i64 a0_0, .int .i64 a0_1, .int .i64 (wrap64 (a0_2 - 1)), .int .i64 a0_3, .int .i64 a0_4] from (k35_mkM _ _ _ (⟨a0_0, a0_1, wrap64 (a0_2 - 1), a0_3, a0_4⟩ : S35) )) (Reps.c5 (show Kd.M k35 _ _ _ (⟨a0_0, a0_1, a0_2, wrap64 (a0_3 - 1), a0_4⟩ : S35) [.int .i64 a0_0, .int .i64 a0_1, .int .i64 a0_2, .int .i64 (wrap64 (a0_3 - 1)), .int .i64 a0_4] from (k35_mkM _ _ _ (⟨a0_0, a0_1, a0_2, wrap64 (a0_3 - 1), a0_4⟩ : S35) )) (Reps.none _ _)))))); intro v136 w63 ho64 hb hg_ hnew_; clear hg_ hnew_; (first | rw [← Ny135.out] at ho64 | (simp only [Int.reduceToNat] at ho64; rw [← Ny135.out] at ho64)); have n0_ := Aside0.mk (Kd.R_lower (Kd.R_newB (Kd.R_newB (Kd.R_newB (Kd.R_newB (Kd.R_newB ho64 (g := gb126) (o := .cells #[.int .i64 a0_0, .int .i64 a0_1, .int .i64 a0_2, .int .i64 a0_3, .int .i64 a0_4] 35 (0, 0)) (by (with_reducible repeat (first | refine bN ?_ _ | refine bD ?_ | refine bA ?_ _)); refine bF ?_ NB126_134.out _; (with_reducible repeat (first | refine bN ?_ _ | refine bD ?_ | refine bA ?_ _)); refine bF ?_ NB126_133.out _; (with_reducible repeat (first | refine bN ?_ _ | refine bD ?_ | refine bA ?_ _)); refine bF ?_ NB126_132.out _; (with_reducible repeat (first | refine bN ?_ _ | refine bD ?_ | refine bA ?_ _)); refine bF ?_ NB126_131.out _; (with_reducible repeat (first | refine bN ?_ _ | refine bD ?_ | refine bA ?_ _)); exact BK126.out)) (g := gb131) (o := .cells #[.int .i64 (wrap64 (a0_0 + 1)), .int .i64 a0_1, .int .i64 a0_2, .int .i64 a0_3, .int .i64 a0_4] 35 (0, 0)) (by (with_reducible repeat (first | refine bN ?_ _ | refine bD ?_ | refine bA ?_ _)); refine bF ?_ NB131_134.out _; (with_reducible repeat (first | refine bN ?_ _ | refine bD ?_ | refine bA ?_ _)); refine bF ?_ NB131_133.out _; (with_reducible repeat (first | refine bN ?_ _ | refine bD ?_ | refine bA ?_ _)); refine bF ?_ NB131_132.out _; (with_reducible repeat (first | refine bN ?_ _ | refine bD ?_ | refine bA ?_ _)); refine blk_put (cs := #[.int .i64 a0_0, .int .i64 a0_1, .int .i64 a0_2, .int .i64 a0_3, .int .i64 a0_4]) ?_ 0 _ rfl; (with_reducible repeat (first | refine bN ?_ _ | refine bD ?_ | refine bA ?_ _)); exact BK131.out)) (g := gb132) (o := .cells #[.int .i64 a0_0, .int .i64 (wrap64 (a0_1 + 1)), .int .i64 a0_2, .int .i64 a0_3, .int .i64 a0_4] 35 (0, 0)) (by (with_reducible repeat (first | refine bN ?_ _ | refine bD ?_ | refine bA ?_ _)); refine bF ?_ NB132_134.out _; (with_reducible repeat (first | refine bN ?_ _ | refine bD ?_ | refine bA ?_ _)); refine bF ?_ NB132_133.out _; (with_reducible repeat (first | refine bN ?_ _ | refine bD ?_ | refine bA ?_ _)); refine blk_put (cs := #[.int .i64 a0_0, .int .i64 a0_1, .int .i64 a0_2, .int .i64 a0_3, .int .i64 a0_4]) ?_ 1 _ rfl; (with_reducible repeat (first | refine bN ?_ _ | refine bD ?_ | refine bA ?_ _)); refine bF ?_ NB132_131.out _; (with_reducible repeat (first | refine bN ?_ _ | refine bD ?_ | refine bA ?_ _)); exact BK132.out)) (g := gb133) (o := .cells #[.int .i64 a0_0, .int .i64 a0_1, .int .i64 (wrap64 (a0_2 - 1)), .int .i64 a0_3, .int .i64 a0_4] 35 (0, 0)) (by (with_reducible repeat (first | refine bN ?_ _ | refine bD ?_ | refine bA ?_ _)); refine bF ?_ NB133_134.out _; (with_reducible repeat (first | refine bN ?_ _ | refine bD ?_ | refine bA ?_ _)); refine blk_put (cs := #[.int .i64 a0_0, .int .i64 a0_1, .int .i64 a0_2, .int .i64 a0_3, .int .i64 a0_4]) ?_ 2 _ rfl; (with_reducible repeat (first | refine bN ?_ _ | refine bD ?_ | refine bA ?_ _)); refine bF ?_ NB133_132.out _; (with_reducible repeat (first | refine bN ?_ _ | refine bD ?_ | refine bA ?_ _)); refine bF ?_ NB133_131.out _; (with_reducible repeat (first | refine bN ?_ _ | refine bD ?_ | refine bA ?_ _)); exact BK133.out)) (g := gb134) (o := .cells #[.int .i64 a0_0, .int .i64 a0_1, .int .i64 a0_2, .int .i64 (wrap64 (a0_3 - 1)), .int .i64 a0_4] 35 (0, 0)) (by (with_reducible repeat (first | refine bN ?_ _ | refine bD ?_ | refine bA ?_ _)); refine blk_put (cs := #[.int .i64 a0_0, .int .i64 a0_1, .int .i64 a0_2, .int .i64 a0_3, .int .i64 a0_4]) ?_ 3 _ rfl; (with_reducible repeat (first | refine bN ?_ _ | refine bD ?_ | refine bA ?_ _)); refine bF ?_ NB134_133.out _; (with_reducible repeat (first | refine bN ?_ _ | refine bD ?_ | refine bA ?_ _)); refine bF ?_ NB134_132.out _; (with_reducible repeat (first | refine bN ?_ _ | refine bD ?_ | refine bA ?_ _)); refine bF ?_ NB134_131.out _; (with_reducible repeat (first | refine bN ?_ _ | refine bD ?_ | refine bA ?_ _)); exact BK134.out)) (below_size (by repeat (first | (with_reducible first | exact HB.out | apply wA | apply wN | apply wD | refine wS ?_ GE126.out | refine wS ?_ GE131.out | refine wS ?_ GE132.out | refine wS ?_ GE133.out | refine wS ?_ GE134.out) | exact HB.out)))); have n1_ := Aside0.mk (bB (g := gb126) (o := .cells #[.int .i64 a0_0, .int .i64 a0_1, .int .i64 a0_2, .int .i64 a0_3, .int .i64 a0_4] 35 (0, 0)) (by (with_reducible repeat (first | refine bN ?_ _ | refine bD ?_ | refine bA ?_ _)); refine bF ?_ NB126_134.out _; (with_reducible repeat (first | refine bN ?_ _ | refine bD ?_ | refine bA ?_ _)); refine bF ?_ NB126_133.out _; (with_reducible repeat (first | refine bN ?_ _ | refine bD ?_ | refine bA ?_ _)); refine bF ?_ NB126_132.out _; (with_reducible repeat (first | refine bN ?_ _ | refine bD ?_ | refine bA ?_ _)); refine bF ?_ NB126_131.out _; (with_reducible repeat (first | refine bN ?_ _ | refine bD ?_ | refine bA ?_ _)); exact BK126.out) hb); have n2_ := Aside0.mk (bB (g := gb131) (o := .cells #[.int .i64 (wrap64 (a0_0 + 1)), .int .i64 a0_1, .int .i64 a0_2, .int .i64 a0_3, .int .i64 a0_4] 35 (0, 0)) (by (with_reducible repeat (first | refine bN ?_ _ | refine bD ?_ | refine bA ?_ _)); refine bF ?_ NB131_134.out _; (with_reducible repeat (first | refine bN ?_ _ | refine bD ?_ | refine bA ?_ _)); refine bF ?_ NB131_133.out _; (with_reducible repeat (first | refine bN ?_ _ | refine bD ?_ | refine bA ?_ _)); refine bF ?_ NB131_132.out _; (with_reducible repeat (first | refine bN ?_ _ | refine bD ?_ | refine bA ?_ _)); refine blk_put (cs := #[.int .i64 a0_0, .int .i64 a0_1, .int .i64 a0_2, .int .i64 a0_3, .int .i64 a0_4]) ?_ 0 _ rfl; (with_reducible repeat (first | refine bN ?_ _ | refine bD ?_ | refine bA ?_ _)); exact BK131.out) hb); have n3_ := Aside0.mk (bB (g := gb132) (o := .cells #[.int .i64 a0_0, .int .i64 (wrap64 (a0_1 + 1)), .int .i64 a0_2, .int .i64 a0_3, .int .i64 a0_4] 35 (0, 0)) (by (with_reducible repeat (first | refine bN ?_ _ | refine bD ?_ | refine bA ?_ _)); refine bF ?_ NB132_134.out _; (with_reducible repeat (first | refine bN ?_ _ | refine bD ?_ | refine bA ?_ _)); refine bF ?_ NB132_133.out _; (with_reducible repeat (first | refine bN ?_ _ | refine bD ?_ | refine bA ?_ _)); refine blk_put (cs := #[.int .i64 a0_0, .int .i64 a0_1, .int .i64 a0_2, .int .i64 a0_3, .int .i64 a0_4]) ?_ 1 _ rfl; (with_reducible repeat (first | refine bN ?_ _ | refine bD ?_ | refine bA ?_ _)); refine bF ?_ NB132_131.out _; (with_reducible repeat (first | refine bN ?_ _ | refine bD ?_ | refine bA ?_ _)); exact BK132.out) hb); have n4_ := Aside0.mk (bB (g := gb133) (o := .cells #[.int .i64 a0_0, .int .i64 a0_1, .int .i64 (wrap64 (a0_2 - 1)), .int .i64 a0_3, .int .i64 a0_4] 35 (0, 0)) (by (with_reducible repeat (first | refine bN ?_ _ | refine bD ?_ | refine bA ?_ _)); refine bF ?_ NB133_134.out _; (with_reducible repeat (first | refine bN ?_ _ | refine bD ?_ | refine bA ?_ _)); refine blk_put (cs := #[.int .i64 a0_0, .int .i64 a0_1, .int .i64 a0_2, .int .i64 a0_3, .int .i64 a0_4]) ?_ 2 _ rfl; (with_reducible repeat (first | refine bN ?_ _ | refine bD ?_ | refine bA ?_ _)); refine bF ?_ NB133_132.out _; (with_reducible repeat (first | refine bN ?_ _ | refine bD ?_ | refine bA ?_ _)); refine bF ?_ NB133_131.out _; (with_reducible repeat (first | refine bN ?_ _ | refine bD ?_ | refine bA ?_ _)); exact BK133.out) hb); have n5_ := Aside0.mk (bB (g := gb134) (o := .cells #[.int .i64 a0_0, .int .i64 a0_1, .int .i64 a0_2, .int .i64 (wrap64 (a0_3 - 1)), .int .i64 a0_4] 35 (0, 0)) (by (with_reducible repeat (first | refine bN ?_ _ | refine bD ?_ | refine bA ?_ _)); refine blk_put (cs := #[.int .i64 a0_0, .int .i64 a0_1, .int .i64 a0_2, .int .i64 a0_3, .int .i64 a0_4]) ?_ 3 _ rfl; (with_reducible repeat (first | refine bN ?_ _ | refine bD ?_ | refine bA ?_ _)); refine bF ?_ NB134_133.out _; (with_reducible repeat (first | refine bN ?_ _ | refine bD ?_ | refine bA ?_ _)); refine bF ?_ NB134_132.out _; (with_reducible repeat (first | refine bN ?_ _ | refine bD ?_ | refine bA ?_ _)); refine bF ?_ NB134_131.out _; (with_reducible repeat (first | refine bN ?_ _ | refine bD ?_ | refine bA ?_ _)); exact BK134.out) hb); have n6_ := Aside0.mk (below_step (by repeat (first | (with_reducible first | exact HB.out | apply wA | apply wN | apply wD | refine wS ?_ GE126.out | refine wS ?_ GE131.out | refine wS ?_ GE132.out | refine wS ?_ GE133.out | refine wS ?_ GE134.out) | exact HB.out)) hb); clear BK126; clear BK131; clear BK132; clear BK133; clear BK134; clear HB; have HO137 := n0_; have BK126 := n1_; have BK131 := n2_; have BK132 := n3_; have BK133 := n4_; have BK134 := n5_; have HB := n6_; clear n0_ n1_ n2_ n3_ n4_ n5_ n6_; clear hb ho64; obtain ⟨Ao65, co65, eo65⟩ := Kd.R_slice HO137.out; subst eo65))
    go_loopg [59] kj2 (fun kq v59 w' => ∃ (x59_2 : Int), v59 = .int .i64 x59_2 ∧ Aside0 (potsherdlaw6_PlanLess.l0 kq a1 y135 (y135.length : Int) x59_2 a0_0 a0_1 a0_2 a0_3 a0_4 = some true) ∧ Aside0 (kq ≤ kj2) ∧ Aside0 (Kd.R k35 35 w' w.heap.size (fun k_ => k_ ≠ gb126 ∧ k_ ≠ gb131 ∧ k_ ≠ gb132 ∧ k_ ≠ gb133 ∧ k_ ≠ gb134) (.slice Ao65 y135.length co65) y135) ∧ Aside0 (w'.heap[gb126]? = some (.cells #[.int .i64 a0_0, .int .i64 a0_1, .int .i64 a0_2, .int .i64 a0_3, .int .i64 a0_4] 35 (0, 0))) ∧ Aside0 (w'.heap[gb131]? = some (.cells #[.int .i64 (wrap64 (a0_0 + 1)), .int .i64 a0_1, .int .i64 a0_2, .int .i64 a0_3, .int .i64 a0_4] 35 (0, 0))) ∧ Aside0 (w'.heap[gb132]? = some (.cells #[.int .i64 a0_0, .int .i64 (wrap64 (a0_1 + 1)), .int .i64 a0_2, .int .i64 a0_3, .int .i64 a0_4] 35 (0, 0))) ∧ Aside0 (w'.heap[gb133]? = some (.cells #[.int .i64 a0_0, .int .i64 a0_1, .int .i64 (wrap64 (a0_2 - 1)), .int .i64 a0_3, .int .i64 a0_4] 35 (0, 0))) ∧ Aside0 (w'.heap[gb134]? = some (.cells #[.int .i64 a0_0, .int .i64 a0_1, .int .i64 a0_2, .int .i64 (wrap64 (a0_3 - 1)), .int .i64 a0_4] 35 (0, 0))) ∧ Aside0 (Below w.heap.size w w'))
    case atStart => exact ⟨(0), (by first | rfl | (simp; done) | (simp [*]; done)), H', ⟨Nat.le_refl _⟩, ⟨by (with_reducible repeat (first | apply Kd.R_alloc | apply Kd.R_drewN | apply Kd.R_drew)); exact Kd.R_mono HO137.out (fun _ hk => ⟨hk.1.1.1.1.2, ⟨hk.1.1.1.2, ⟨hk.1.1.2, ⟨hk.1.2, hk.2⟩⟩⟩⟩)⟩, ⟨by (with_reducible repeat (first | refine bN ?_ _ | refine bD ?_ | refine bA ?_ _)); exact BK126.out⟩, ⟨by (with_reducible repeat (first | refine bN ?_ _ | refine bD ?_ | refine bA ?_ _)); exact BK131.out⟩, ⟨by (with_reducible repeat (first | refine bN ?_ _ | refine bD ?_ | refine bA ?_ _)); exact BK132.out⟩, ⟨by (with_reducible repeat (first | refine bN ?_ _ | refine bD ?_ | refine bA ?_ _)); exact BK133.out⟩, ⟨by (with_reducible repeat (first | refine bN ?_ _ | refine bD ?_ | refine bA ?_ _)); exact BK134.out⟩, ⟨by repeat (first | (with_reducible first | exact HB.out | apply wA | apply wN | apply wD | refine wS ?_ GE126.out | refine wS ?_ GE131.out | refine wS ?_ GE132.out | refine wS ?_ GE133.out | refine wS ?_ GE134.out) | exact HB.out)⟩⟩
    case round =>
     clear H'
     try clear p2
     try clear c4
     try clear c5
     try clear c6
     try clear p6
     try clear c49
     try clear c50
     try clear c51
     try clear c52
     try clear c54
     try clear c55
     try clear c56
     try clear c58
     try clear c59
     try clear c61
     try clear p64
     try clear hcz53_0
     try clear hcz53_1
     try clear hcz53_2
     try clear hcz53_3
     try clear hcz53_4
     try clear hcz57_0
     try clear hcz57_1
     try clear hcz57_2
     try clear hcz57_3
     try clear hcz57_4
     try clear hcz60_0
     try clear hcz60_1
     try clear hcz60_2
     try clear hcz60_3
     try clear hcz60_4
     try clear hcz62_0
     try clear hcz62_1
     try clear hcz62_2
     try clear hcz62_3
     try clear hcz62_4
     try clear hfz53_0
     try clear hfz53_1
     try clear hfz53_2
     try clear hfz53_3
     try clear hfz53_4
     try clear hfz57_0
     try clear hfz57_1
     try clear hfz57_2
     try clear hfz57_3
     try clear hfz57_4
     try clear hfz60_0
     try clear hfz60_1
     try clear hfz60_2
     try clear hfz60_3
     try clear hfz60_4
     try clear hfz62_0
     try clear hfz62_1
     try clear hfz62_2
     try clear hfz62_3
     try clear hfz62_4
     obtain ⟨x59_2, rfl, HA, HK2, HO_57, BK126, BK131, BK132, BK133, BK134, HB⟩ := hrel
     cases gk with
     | zero => exact absurd HA.out (by simp [potsherdlaw6_PlanLess.l0])
     | succ k2 =>
      have H := HA.out; clear HA; simp only [potsherdlaw6_PlanLess.l0] at H
      by_cases c66 : x59_2 < (y135.length : Int)
      ·
       rw [if_pos c66] at H; have c66b0 : decide (x59_2 < (y135.length : Int)) = true := decide_eq_true c66; clear c66
       by_cases c67 : 0 ≤ x59_2
       ·
        rw [if_pos c67] at H; have c67b0 : decide (0 ≤ x59_2) = true := decide_eq_true c67; clear c67
        by_cases c68 : x59_2 < (y135.length : Int)
        ·
         rw [if_pos c68] at H; have c68b0 : decide (x59_2 < (y135.length : Int)) = true := decide_eq_true c68; clear c68; have HC69 := Aside0.mk H; clear H; have p138 : 0 ≤ (x59_2 : Int) := of_decide_eq_true (by first | (with_reducible assumption) | assumption); have q138 : x59_2 < (y135.length : Int) := of_decide_eq_true (by first | (with_reducible assumption) | assumption); obtain ⟨ad138, e138, hx138_0, hx138_1, hx138_2, hx138_3, hx138_4⟩ := at_T35 (Kd.R_reads' HO_57.out).2.2 x59_2 p138 q138
         cases e138
         replace p138 := eq_true p138; replace q138 := eq_true q138
         go_upto_region 11 with (first | ((with_reducible refine gate_dst (N := 10) rfl ?_); refine box_event ?hg (N := 10) ?hd (cs := #[.int .i64 0, .int .i64 0, .int .i64 0, .int .i64 0, .int .i64 0]) (t := 35) ?hr ?_; (case hd => rfl); (case hg => rfl); (case hr => first | (go_simp; done) | (go_simp; rfl)); intro gb139 hg w70 hbox hb; have n0_ := Aside0.mk (Kd.R_below (Kd.R_elderB (by (with_reducible repeat (first | apply Kd.R_alloc | apply Kd.R_drewN | apply Kd.R_drew)); exact HO_57.out) gb139 (Nat.le_of_eq hg.symm)) hb); have n1_ := Aside0.mk (bB (g := gb126) (o := .cells #[.int .i64 a0_0, .int .i64 a0_1, .int .i64 a0_2, .int .i64 a0_3, .int .i64 a0_4] 35 (0, 0)) (by (with_reducible repeat (first | refine bN ?_ _ | refine bD ?_ | refine bA ?_ _)); exact BK126.out) hb); have n2_ := Aside0.mk (bB (g := gb131) (o := .cells #[.int .i64 (wrap64 (a0_0 + 1)), .int .i64 a0_1, .int .i64 a0_2, .int .i64 a0_3, .int .i64 a0_4] 35 (0, 0)) (by (with_reducible repeat (first | refine bN ?_ _ | refine bD ?_ | refine bA ?_ _)); exact BK131.out) hb); have n3_ := Aside0.mk (bB (g := gb132) (o := .cells #[.int .i64 a0_0, .int .i64 (wrap64 (a0_1 + 1)), .int .i64 a0_2, .int .i64 a0_3, .int .i64 a0_4] 35 (0, 0)) (by (with_reducible repeat (first | refine bN ?_ _ | refine bD ?_ | refine bA ?_ _)); exact BK132.out) hb); have n4_ := Aside0.mk (bB (g := gb133) (o := .cells #[.int .i64 a0_0, .int .i64 a0_1, .int .i64 (wrap64 (a0_2 - 1)), .int .i64 a0_3, .int .i64 a0_4] 35 (0, 0)) (by (with_reducible repeat (first | refine bN ?_ _ | refine bD ?_ | refine bA ?_ _)); exact BK133.out) hb); have n5_ := Aside0.mk (bB (g := gb134) (o := .cells #[.int .i64 a0_0, .int .i64 a0_1, .int .i64 a0_2, .int .i64 (wrap64 (a0_3 - 1)), .int .i64 a0_4] 35 (0, 0)) (by (with_reducible repeat (first | refine bN ?_ _ | refine bD ?_ | refine bA ?_ _)); exact BK134.out) hb); have n6_ := Aside0.mk (below_step (by repeat (first | (with_reducible first | exact HB.out | apply wA | apply wN | apply wD | refine wS ?_ GE126.out | refine wS ?_ GE131.out | refine wS ?_ GE132.out | refine wS ?_ GE133.out | refine wS ?_ GE134.out) | exact HB.out)) hb); have n7_ := Aside0.mk (hbox); have n8_ := Aside0.mk ((by rw [hg]; exact (below_size (by repeat (first | (with_reducible first | exact HB.out | apply wA | apply wN | apply wD | refine wS ?_ GE126.out | refine wS ?_ GE131.out | refine wS ?_ GE132.out | refine wS ?_ GE133.out | refine wS ?_ GE134.out) | exact HB.out))) : w.heap.size ≤ gb139)); have n9_ := Aside0.mk ((by rw [hg]; exact (below_size (by repeat (first | (with_reducible first | exact HB.out | apply wA | apply wN | apply wD | refine wS ?_ GE126.out | refine wS ?_ GE131.out | refine wS ?_ GE132.out | refine wS ?_ GE133.out | refine wS ?_ GE134.out) | exact HB.out))) : w.heap.size ≤ gb139)); have n10_ := Aside0.mk ((by rw [hg]; exact Nat.ne_of_lt (blk_lt (g := gb126) (o := .cells #[.int .i64 a0_0, .int .i64 a0_1, .int .i64 a0_2, .int .i64 a0_3, .int .i64 a0_4] 35 (0, 0)) (by (with_reducible repeat (first | refine bN ?_ _ | refine bD ?_ | refine bA ?_ _)); exact BK126.out)) : gb126 ≠ gb139)); have n11_ := Aside0.mk ((by rw [hg]; exact Nat.ne_of_gt (blk_lt (g := gb126) (o := .cells #[.int .i64 a0_0, .int .i64 a0_1, .int .i64 a0_2, .int .i64 a0_3, .int .i64 a0_4] 35 (0, 0)) (by (with_reducible repeat (first | refine bN ?_ _ | refine bD ?_ | refine bA ?_ _)); exact BK126.out)) : gb139 ≠ gb126)); have n12_ := Aside0.mk ((by rw [hg]; exact Nat.ne_of_lt (blk_lt (g := gb131) (o := .cells #[.int .i64 (wrap64 (a0_0 + 1)), .int .i64 a0_1, .int .i64 a0_2, .int .i64 a0_3, .int .i64 a0_4] 35 (0, 0)) (by (with_reducible repeat (first | refine bN ?_ _ | refine bD ?_ | refine bA ?_ _)); exact BK131.out)) : gb131 ≠ gb139)); have n13_ := Aside0.mk ((by rw [hg]; exact Nat.ne_of_gt (blk_lt (g := gb131) (o := .cells #[.int .i64 (wrap64 (a0_0 + 1)), .int .i64 a0_1, .int .i64 a0_2, .int .i64 a0_3, .int .i64 a0_4] 35 (0, 0)) (by (with_reducible repeat (first | refine bN ?_ _ | refine bD ?_ | refine bA ?_ _)); exact BK131.out)) : gb139 ≠ gb131)); have n14_ := Aside0.mk ((by rw [hg]; exact Nat.ne_of_lt (blk_lt (g := gb132) (o := .cells #[.int .i64 a0_0, .int .i64 (wrap64 (a0_1 + 1)), .int .i64 a0_2, .int .i64 a0_3, .int .i64 a0_4] 35 (0, 0)) (by (with_reducible repeat (first | refine bN ?_ _ | refine bD ?_ | refine bA ?_ _)); exact BK132.out)) : gb132 ≠ gb139)); have n15_ := Aside0.mk ((by rw [hg]; exact Nat.ne_of_gt (blk_lt (g := gb132) (o := .cells #[.int .i64 a0_0, .int .i64 (wrap64 (a0_1 + 1)), .int .i64 a0_2, .int .i64 a0_3, .int .i64 a0_4] 35 (0, 0)) (by (with_reducible repeat (first | refine bN ?_ _ | refine bD ?_ | refine bA ?_ _)); exact BK132.out)) : gb139 ≠ gb132)); have n16_ := Aside0.mk ((by rw [hg]; exact Nat.ne_of_lt (blk_lt (g := gb133) (o := .cells #[.int .i64 a0_0, .int .i64 a0_1, .int .i64 (wrap64 (a0_2 - 1)), .int .i64 a0_3, .int .i64 a0_4] 35 (0, 0)) (by (with_reducible repeat (first | refine bN ?_ _ | refine bD ?_ | refine bA ?_ _)); exact BK133.out)) : gb133 ≠ gb139)); have n17_ := Aside0.mk ((by rw [hg]; exact Nat.ne_of_gt (blk_lt (g := gb133) (o := .cells #[.int .i64 a0_0, .int .i64 a0_1, .int .i64 (wrap64 (a0_2 - 1)), .int .i64 a0_3, .int .i64 a0_4] 35 (0, 0)) (by (with_reducible repeat (first | refine bN ?_ _ | refine bD ?_ | refine bA ?_ _)); exact BK133.out)) : gb139 ≠ gb133)); have n18_ := Aside0.mk ((by rw [hg]; exact Nat.ne_of_lt (blk_lt (g := gb134) (o := .cells #[.int .i64 a0_0, .int .i64 a0_1, .int .i64 a0_2, .int .i64 (wrap64 (a0_3 - 1)), .int .i64 a0_4] 35 (0, 0)) (by (with_reducible repeat (first | refine bN ?_ _ | refine bD ?_ | refine bA ?_ _)); exact BK134.out)) : gb134 ≠ gb139)); have n19_ := Aside0.mk ((by rw [hg]; exact Nat.ne_of_gt (blk_lt (g := gb134) (o := .cells #[.int .i64 a0_0, .int .i64 a0_1, .int .i64 a0_2, .int .i64 (wrap64 (a0_3 - 1)), .int .i64 a0_4] 35 (0, 0)) (by (with_reducible repeat (first | refine bN ?_ _ | refine bD ?_ | refine bA ?_ _)); exact BK134.out)) : gb139 ≠ gb134)); clear HO_57; clear BK126; clear BK131; clear BK132; clear BK133; clear BK134; clear HB; have HO_57 := n0_; have BK126 := n1_; have BK131 := n2_; have BK132 := n3_; have BK133 := n4_; have BK134 := n5_; have HB := n6_; have BK139 := n7_; have GW139 := n8_; have GE139 := n9_; have NB126_139 := n10_; have NB139_126 := n11_; have NB131_139 := n12_; have NB139_131 := n13_; have NB132_139 := n14_; have NB139_132 := n15_; have NB133_139 := n16_; have NB139_133 := n17_; have NB134_139 := n18_; have NB139_134 := n19_; clear n0_ n1_ n2_ n3_ n4_ n5_ n6_ n7_ n8_ n9_ n10_ n11_ n12_ n13_ n14_ n15_ n16_ n17_ n18_ n19_; clear hb hbox hg; have hnb71 := NB139_126.out; have hnc71 := NB126_139.out; have hnb72 := NB139_131.out; have hnc72 := NB131_139.out; have hnb73 := NB139_132.out; have hnc73 := NB132_139.out; have hnb74 := NB139_133.out; have hnc74 := NB133_139.out; have hnb75 := NB139_134.out; have hnc75 := NB134_139.out; have hcz76_0 : w70.cell? ⟨gb139, 0, none⟩ = some (.int .i64 0) := (bC BK139.out 0).trans rfl; have hcz76_1 : w70.cell? ⟨gb139, 1, none⟩ = some (.int .i64 0) := (bC BK139.out 1).trans rfl; have hcz76_2 : w70.cell? ⟨gb139, 2, none⟩ = some (.int .i64 0) := (bC BK139.out 2).trans rfl; have hcz76_3 : w70.cell? ⟨gb139, 3, none⟩ = some (.int .i64 0) := (bC BK139.out 3).trans rfl; have hcz76_4 : w70.cell? ⟨gb139, 4, none⟩ = some (.int .i64 0) := (bC BK139.out 4).trans rfl; have hfz76_0 := bZ BK139.out 0; have hfz76_1 := bZ BK139.out 1; have hfz76_2 := bZ BK139.out 2; have hfz76_3 := bZ BK139.out 3; have hfz76_4 := bZ BK139.out 4))
         (try simp only [Act.put, lT, l0_, lS])
         go_cut [75] (fun v75 wc => ∃ (kq : Nat) (x75_68 : Bool), v75 = .bool x75_68 ∧ Aside0 (potsherdlaw6_PlanLess.j2 kq a1 y135 (y135.length : Int) x59_2 x75_68 a0_0 a0_1 a0_2 a0_3 a0_4 = some true) ∧ Aside0 (kq ≤ k2) ∧ Aside0 (Kd.R k35 35 wc w.heap.size (fun k_ => k_ ≠ gb126 ∧ k_ ≠ gb131 ∧ k_ ≠ gb132 ∧ k_ ≠ gb133 ∧ k_ ≠ gb134 ∧ k_ ≠ gb139) (.slice (some ad138) y135.length co65) y135) ∧ Aside0 (wc.heap[gb126]? = some (.cells #[.int .i64 a0_0, .int .i64 a0_1, .int .i64 a0_2, .int .i64 a0_3, .int .i64 a0_4] 35 (0, 0))) ∧ Aside0 (wc.heap[gb131]? = some (.cells #[.int .i64 (wrap64 (a0_0 + 1)), .int .i64 a0_1, .int .i64 a0_2, .int .i64 a0_3, .int .i64 a0_4] 35 (0, 0))) ∧ Aside0 (wc.heap[gb132]? = some (.cells #[.int .i64 a0_0, .int .i64 (wrap64 (a0_1 + 1)), .int .i64 a0_2, .int .i64 a0_3, .int .i64 a0_4] 35 (0, 0))) ∧ Aside0 (wc.heap[gb133]? = some (.cells #[.int .i64 a0_0, .int .i64 a0_1, .int .i64 (wrap64 (a0_2 - 1)), .int .i64 a0_3, .int .i64 a0_4] 35 (0, 0))) ∧ Aside0 (wc.heap[gb134]? = some (.cells #[.int .i64 a0_0, .int .i64 a0_1, .int .i64 a0_2, .int .i64 (wrap64 (a0_3 - 1)), .int .i64 a0_4] 35 (0, 0))) ∧ Aside0 (wc.heap[gb139]? = some (.cells #[.int .i64 ((rd_T35 y135 x59_2).f0), .int .i64 ((rd_T35 y135 x59_2).f1), .int .i64 ((rd_T35 y135 x59_2).f2), .int .i64 ((rd_T35 y135 x59_2).f3), .int .i64 ((rd_T35 y135 x59_2).f4)] 35 (0, 0))) ∧ Aside0 (Below w.heap.size w wc))
         case first =>
          have H := HC69.out; clear HC69; replace H := Option.bind_eq_some_iff.mp H; obtain ⟨t140, A770, H⟩ := H; replace H : (if t140 = true then ((plan_Fits.f a0_0 a0_1 a0_2 a0_3 a0_4 a1).bind fun t141 => (if t141 = true then ((plan_Fits.f ((rd_T35 y135 x59_2).f0) ((rd_T35 y135 x59_2).f1) ((rd_T35 y135 x59_2).f2) ((rd_T35 y135 x59_2).f3) ((rd_T35 y135 x59_2).f4) a1).bind fun t142 => (potsherdlaw6_PlanLess.j2 k2 a1 y135 (y135.length : Int) x59_2 (!t142) a0_0 a0_1 a0_2 a0_3 a0_4)) else (potsherdlaw6_PlanLess.j2 k2 a1 y135 (y135.length : Int) x59_2 false a0_0 a0_1 a0_2 a0_3 a0_4))) else (potsherdlaw6_PlanLess.j2 k2 a1 y135 (y135.length : Int) x59_2 false a0_0 a0_1 a0_2 a0_3 a0_4)) = some true := H; have A77 := Aside0.mk A770; clear A770
          by_cases c78 : t140 = true
          ·
           subst c78
           have H1 : ((plan_Fits.f a0_0 a0_1 a0_2 a0_3 a0_4 a1).bind fun t141 => (if t141 = true then ((plan_Fits.f ((rd_T35 y135 x59_2).f0) ((rd_T35 y135 x59_2).f1) ((rd_T35 y135 x59_2).f2) ((rd_T35 y135 x59_2).f3) ((rd_T35 y135 x59_2).f4) a1).bind fun t142 => (potsherdlaw6_PlanLess.j2 k2 a1 y135 (y135.length : Int) x59_2 (!t142) a0_0 a0_1 a0_2 a0_3 a0_4)) else (potsherdlaw6_PlanLess.j2 k2 a1 y135 (y135.length : Int) x59_2 false a0_0 a0_1 a0_2 a0_3 a0_4))) = some true := by rw [if_pos rfl] at H; exact H
           clear H; have H := H1; clear H1; replace H := Option.bind_eq_some_iff.mp H; obtain ⟨t141, A790, H⟩ := H; replace H : (if t141 = true then ((plan_Fits.f ((rd_T35 y135 x59_2).f0) ((rd_T35 y135 x59_2).f1) ((rd_T35 y135 x59_2).f2) ((rd_T35 y135 x59_2).f3) ((rd_T35 y135 x59_2).f4) a1).bind fun t142 => (potsherdlaw6_PlanLess.j2 k2 a1 y135 (y135.length : Int) x59_2 (!t142) a0_0 a0_1 a0_2 a0_3 a0_4)) else (potsherdlaw6_PlanLess.j2 k2 a1 y135 (y135.length : Int) x59_2 false a0_0 a0_1 a0_2 a0_3 a0_4)) = some true := H; have A79 := Aside0.mk A790; clear A790
           by_cases c80 : t141 = true
           ·
            subst c80
            have H1 : ((plan_Fits.f ((rd_T35 y135 x59_2).f0) ((rd_T35 y135 x59_2).f1) ((rd_T35 y135 x59_2).f2) ((rd_T35 y135 x59_2).f3) ((rd_T35 y135 x59_2).f4) a1).bind fun t142 => (potsherdlaw6_PlanLess.j2 k2 a1 y135 (y135.length : Int) x59_2 (!t142) a0_0 a0_1 a0_2 a0_3 a0_4)) = some true := by rw [if_pos rfl] at H; exact H
            clear H; have H := H1; clear H1; replace H := Option.bind_eq_some_iff.mp H; obtain ⟨t142, A810, H⟩ := H; replace H : (potsherdlaw6_PlanLess.j2 k2 a1 y135 (y135.length : Int) x59_2 (!t142) a0_0 a0_1 a0_2 a0_3 a0_4) = some true := H; have A81 := Aside0.mk A810; clear A810; have H' := Aside0.mk H; clear H; have hnb82 := NB139_126.out; have hnc82 := NB126_139.out; have hnb83 := NB139_131.out; have hnc83 := NB131_139.out; have hnb84 := NB139_132.out; have hnc84 := NB132_139.out; have hnb85 := NB139_133.out; have hnc85 := NB133_139.out; have hnb86 := NB139_134.out; have hnc86 := NB134_139.out; have hcz87_0 : w70.cell? ⟨gb139, 0, none⟩ = some (.int .i64 0) := (bC BK139.out 0).trans rfl; have hcz87_1 : w70.cell? ⟨gb139, 1, none⟩ = some (.int .i64 0) := (bC BK139.out 1).trans rfl; have hcz87_2 : w70.cell? ⟨gb139, 2, none⟩ = some (.int .i64 0) := (bC BK139.out 2).trans rfl; have hcz87_3 : w70.cell? ⟨gb139, 3, none⟩ = some (.int .i64 0) := (bC BK139.out 3).trans rfl; have hcz87_4 : w70.cell? ⟨gb139, 4, none⟩ = some (.int .i64 0) := (bC BK139.out 4).trans rfl; have hfz87_0 := bZ BK139.out 0; have hfz87_1 := bZ BK139.out 1; have hfz87_2 := bZ BK139.out 2; have hfz87_3 := bZ BK139.out 3; have hfz87_4 := bZ BK139.out 4
            go_wp2_with (first | ((with_reducible refine gate_callee (f := 22) rfl ?_); refine goesL_ (some 64) rfl rfl Try.func22 (by kernel_rfl) rfl #[.agg #[.int .i64 ((rd_T35 y135 x59_2).f0), .int .i64 ((rd_T35 y135 x59_2).f1), .int .i64 ((rd_T35 y135 x59_2).f2), .int .i64 ((rd_T35 y135 x59_2).f3), .int .i64 ((rd_T35 y135 x59_2).f4)]] rfl (by (try simp only [List.map_toArray, List.map_cons, List.map_nil]); first | done | rfl | (simp only [List.length_drop, List.length_take]; rfl)) ?_; (with_reducible refine (plan_May.calls ((rd_T35 y135 x59_2).f0) ((rd_T35 y135 x59_2).f1) ((rd_T35 y135 x59_2).f2) ((rd_T35 y135 x59_2).f3) ((rd_T35 y135 x59_2).f4) true _ A77.out).mono ?_); rintro e w88 ⟨rfl, hb⟩; refine ⟨_, rfl, ?_⟩; have n0_ := Aside0.mk (Kd.R_below (by (with_reducible repeat (first | apply Kd.R_alloc | apply Kd.R_drewN | apply Kd.R_drew)); exact (Kd.R_mono (Kd.R_far (p := ⟨gb139, 4, none⟩) (Kd.R_far (p := ⟨gb139, 3, none⟩) (Kd.R_far (p := ⟨gb139, 2, none⟩) (Kd.R_far (p := ⟨gb139, 1, none⟩) (Kd.R_far (p := ⟨gb139, 0, none⟩) (Kd.R_mono HO_57.out (fun k_ hk => (⟨hk, hk.2⟩ : _ ∧ k_ ≠ gb139))) (fun _ hk => hk.2) (.int .i64 ((rd_T35 y135 x59_2).f0))) (fun _ hk => hk.2) (.int .i64 ((rd_T35 y135 x59_2).f1))) (fun _ hk => hk.2) (.int .i64 ((rd_T35 y135 x59_2).f2))) (fun _ hk => hk.2) (.int .i64 ((rd_T35 y135 x59_2).f3))) (fun _ hk => hk.2) (.int .i64 ((rd_T35 y135 x59_2).f4))) (fun _ h_ => h_.1))) hb); have n1_ := Aside0.mk (bB (g := gb126) (o := .cells #[.int .i64 a0_0, .int .i64 a0_1, .int .i64 a0_2, .int .i64 a0_3, .int .i64 a0_4] 35 (0, 0)) (by (with_reducible repeat (first | refine bN ?_ _ | refine bD ?_ | refine bA ?_ _)); refine bF ?_ NB126_139.out _; (with_reducible repeat (first | refine bN ?_ _ | refine bD ?_ | refine bA ?_ _)); refine bF ?_ NB126_139.out _; (with_reducible repeat (first | refine bN ?_ _ | refine bD ?_ | refine bA ?_ _)); refine bF ?_ NB126_139.out _; (with_reducible repeat (first | refine bN ?_ _ | refine bD ?_ | refine bA ?_ _)); refine bF ?_ NB126_139.out _; (with_reducible repeat (first | refine bN ?_ _ | refine bD ?_ | refine bA ?_ _)); refine bF ?_ NB126_139.out _; (with_reducible repeat (first | refine bN ?_ _ | refine bD ?_ | refine bA ?_ _)); exact BK126.out) hb); have n2_ := Aside0.mk (bB (g := gb131) (o := .cells #[.int .i64 (wrap64 (a0_0 + 1)), .int .i64 a0_1, .int .i64 a0_2, .int .i64 a0_3, .int .i64 a0_4] 35 (0, 0)) (by (with_reducible repeat (first | refine bN ?_ _ | refine bD ?_ | refine bA ?_ _)); refine bF ?_ NB131_139.out _; (with_reducible repeat (first | refine bN ?_ _ | refine bD ?_ | refine bA ?_ _)); refine bF ?_ NB131_139.out _; (with_reducible repeat (first | refine bN ?_ _ | refine bD ?_ | refine bA ?_ _)); refine bF ?_ NB131_139.out _; (with_reducible repeat (first | refine bN ?_ _ | refine bD ?_ | refine bA ?_ _)); refine bF ?_ NB131_139.out _; (with_reducible repeat (first | refine bN ?_ _ | refine bD ?_ | refine bA ?_ _)); refine bF ?_ NB131_139.out _; (with_reducible repeat (first | refine bN ?_ _ | refine bD ?_ | refine bA ?_ _)); exact BK131.out) hb); have n3_ := Aside0.mk (bB (g := gb132) (o := .cells #[.int .i64 a0_0, .int .i64 (wrap64 (a0_1 + 1)), .int .i64 a0_2, .int .i64 a0_3, .int .i64 a0_4] 35 (0, 0)) (by (with_reducible repeat (first | refine bN ?_ _ | refine bD ?_ | refine bA ?_ _)); refine bF ?_ NB132_139.out _; (with_reducible repeat (first | refine bN ?_ _ | refine bD ?_ | refine bA ?_ _)); refine bF ?_ NB132_139.out _; (with_reducible repeat (first | refine bN ?_ _ | refine bD ?_ | refine bA ?_ _)); refine bF ?_ NB132_139.out _; (with_reducible repeat (first | refine bN ?_ _ | refine bD ?_ | refine bA ?_ _)); refine bF ?_ NB132_139.out _; (with_reducible repeat (first | refine bN ?_ _ | refine bD ?_ | refine bA ?_ _)); refine bF ?_ NB132_139.out _; (with_reducible repeat (first | refine bN ?_ _ | refine bD ?_ | refine bA ?_ _)); exact BK132.out) hb); have n4_ := Aside0.mk (bB (g := gb133) (o := .cells #[.int .i64 a0_0, .int .i64 a0_1, .int .i64 (wrap64 (a0_2 - 1)), .int .i64 a0_3, .int .i64 a0_4] 35 (0, 0)) (by (with_reducible repeat (first | refine bN ?_ _ | refine bD ?_ | refine bA ?_ _)); refine bF ?_ NB133_139.out _; (with_reducible repeat (first | refine bN ?_ _ | refine bD ?_ | refine bA ?_ _)); refine bF ?_ NB133_139.out _; (with_reducible repeat (first | refine bN ?_ _ | refine bD ?_ | refine bA ?_ _)); refine bF ?_ NB133_139.out _; (with_reducible repeat (first | refine bN ?_ _ | refine bD ?_ | refine bA ?_ _)); refine bF ?_ NB133_139.out _; (with_reducible repeat (first | refine bN ?_ _ | refine bD ?_ | refine bA ?_ _)); refine bF ?_ NB133_139.out _; (with_reducible repeat (first | refine bN ?_ _ | refine bD ?_ | refine bA ?_ _)); exact BK133.out) hb); have n5_ := Aside0.mk (bB (g := gb134) (o := .cells #[.int .i64 a0_0, .int .i64 a0_1, .int .i64 a0_2, .int .i64 (wrap64 (a0_3 - 1)), .int .i64 a0_4] 35 (0, 0)) (by (with_reducible repeat (first | refine bN ?_ _ | refine bD ?_ | refine bA ?_ _)); refine bF ?_ NB134_139.out _; (with_reducible repeat (first | refine bN ?_ _ | refine bD ?_ | refine bA ?_ _)); refine bF ?_ NB134_139.out _; (with_reducible repeat (first | refine bN ?_ _ | refine bD ?_ | refine bA ?_ _)); refine bF ?_ NB134_139.out _; (with_reducible repeat (first | refine bN ?_ _ | refine bD ?_ | refine bA ?_ _)); refine bF ?_ NB134_139.out _; (with_reducible repeat (first | refine bN ?_ _ | refine bD ?_ | refine bA ?_ _)); refine bF ?_ NB134_139.out _; (with_reducible repeat (first | refine bN ?_ _ | refine bD ?_ | refine bA ?_ _)); exact BK134.out) hb); have n6_ := Aside0.mk (bB (g := gb139) (o := .cells #[.int .i64 ((rd_T35 y135 x59_2).f0), .int .i64 ((rd_T35 y135 x59_2).f1), .int .i64 ((rd_T35 y135 x59_2).f2), .int .i64 ((rd_T35 y135 x59_2).f3), .int .i64 ((rd_T35 y135 x59_2).f4)] 35 (0, 0)) (by (with_reducible repeat (first | refine bN ?_ _ | refine bD ?_ | refine bA ?_ _)); refine blk_put (cs := #[.int .i64 ((rd_T35 y135 x59_2).f0), .int .i64 ((rd_T35 y135 x59_2).f1), .int .i64 ((rd_T35 y135 x59_2).f2), .int .i64 ((rd_T35 y135 x59_2).f3), .int .i64 0]) ?_ 4 _ rfl; (with_reducible repeat (first | refine bN ?_ _ | refine bD ?_ | refine bA ?_ _)); refine blk_put (cs := #[.int .i64 ((rd_T35 y135 x59_2).f0), .int .i64 ((rd_T35 y135 x59_2).f1), .int .i64 ((rd_T35 y135 x59_2).f2), .int .i64 0, .int .i64 0]) ?_ 3 _ rfl; (with_reducible repeat (first | refine bN ?_ _ | refine bD ?_ | refine bA ?_ _)); refine blk_put (cs := #[.int .i64 ((rd_T35 y135 x59_2).f0), .int .i64 ((rd_T35 y135 x59_2).f1), .int .i64 0, .int .i64 0, .int .i64 0]) ?_ 2 _ rfl; (with_reducible repeat (first | refine bN ?_ _ | refine bD ?_ | refine bA ?_ _)); refine blk_put (cs := #[.int .i64 ((rd_T35 y135 x59_2).f0), .int .i64 0, .int .i64 0, .int .i64 0, .int .i64 0]) ?_ 1 _ rfl; (with_reducible repeat (first | refine bN ?_ _ | refine bD ?_ | refine bA ?_ _)); refine blk_put (cs := #[.int .i64 0, .int .i64 0, .int .i64 0, .int .i64 0, .int .i64 0]) ?_ 0 _ rfl; (with_reducible repeat (first | refine bN ?_ _ | refine bD ?_ | refine bA ?_ _)); exact BK139.out) hb); have n7_ := Aside0.mk (below_step (by repeat (first | (with_reducible first | exact HB.out | apply wA | apply wN | apply wD | refine wS ?_ GE126.out | refine wS ?_ GE131.out | refine wS ?_ GE132.out | refine wS ?_ GE133.out | refine wS ?_ GE134.out | refine wS ?_ GE139.out) | exact HB.out)) hb); clear HO_57; clear BK126; clear BK131; clear BK132; clear BK133; clear BK134; clear BK139; clear HB; have HO_57 := n0_; have BK126 := n1_; have BK131 := n2_; have BK132 := n3_; have BK133 := n4_; have BK134 := n5_; have BK139 := n6_; have HB := n7_; clear n0_ n1_ n2_ n3_ n4_ n5_ n6_ n7_; (try clear hb); (try clear hb2); (try clear hk); (try clear hi); have hnb89 := NB126_131.out; have hnc89 := NB131_126.out; have hnb90 := NB126_132.out; have hnc90 := NB132_126.out; have hnb91 := NB126_133.out; have hnc91 := NB133_126.out; have hnb92 := NB126_134.out; have hnc92 := NB134_126.out; have hcz93_0 : w88.cell? ⟨gb126, 0, none⟩ = some (.int .i64 a0_0) := (bC BK126.out 0).trans rfl; have hcz93_1 : w88.cell? ⟨gb126, 1, none⟩ = some (.int .i64 a0_1) := (bC BK126.out 1).trans rfl; have hcz93_2 : w88.cell? ⟨gb126, 2, none⟩ = some (.int .i64 a0_2) := (bC BK126.out 2).trans rfl; have hcz93_3 : w88.cell? ⟨gb126, 3, none⟩ = some (.int .i64 a0_3) := (bC BK126.out 3).trans rfl; have hcz93_4 : w88.cell? ⟨gb126, 4, none⟩ = some (.int .i64 a0_4) := (bC BK126.out 4).trans rfl; have hfz93_0 := bZ BK126.out 0; have hfz93_1 := bZ BK126.out 1; have hfz93_2 := bZ BK126.out 2; have hfz93_3 := bZ BK126.out 3; have hfz93_4 := bZ BK126.out 4) | (go_at_call 28; (with_reducible refine (plan_Fits.calls a0_0 a0_1 a0_2 a0_3 a0_4 a1 true _ A79.out).mono ?_); rintro e w94 ⟨rfl, hb⟩; have n0_ := Aside0.mk (Kd.R_below (by (with_reducible repeat (first | apply Kd.R_alloc | apply Kd.R_drewN | apply Kd.R_drew)); exact HO_57.out) hb); have n1_ := Aside0.mk (bB (g := gb126) (o := .cells #[.int .i64 a0_0, .int .i64 a0_1, .int .i64 a0_2, .int .i64 a0_3, .int .i64 a0_4] 35 (0, 0)) (by (with_reducible repeat (first | refine bN ?_ _ | refine bD ?_ | refine bA ?_ _)); exact BK126.out) hb); have n2_ := Aside0.mk (bB (g := gb131) (o := .cells #[.int .i64 (wrap64 (a0_0 + 1)), .int .i64 a0_1, .int .i64 a0_2, .int .i64 a0_3, .int .i64 a0_4] 35 (0, 0)) (by (with_reducible repeat (first | refine bN ?_ _ | refine bD ?_ | refine bA ?_ _)); exact BK131.out) hb); have n3_ := Aside0.mk (bB (g := gb132) (o := .cells #[.int .i64 a0_0, .int .i64 (wrap64 (a0_1 + 1)), .int .i64 a0_2, .int .i64 a0_3, .int .i64 a0_4] 35 (0, 0)) (by (with_reducible repeat (first | refine bN ?_ _ | refine bD ?_ | refine bA ?_ _)); exact BK132.out) hb); have n4_ := Aside0.mk (bB (g := gb133) (o := .cells #[.int .i64 a0_0, .int .i64 a0_1, .int .i64 (wrap64 (a0_2 - 1)), .int .i64 a0_3, .int .i64 a0_4] 35 (0, 0)) (by (with_reducible repeat (first | refine bN ?_ _ | refine bD ?_ | refine bA ?_ _)); exact BK133.out) hb); have n5_ := Aside0.mk (bB (g := gb134) (o := .cells #[.int .i64 a0_0, .int .i64 a0_1, .int .i64 a0_2, .int .i64 (wrap64 (a0_3 - 1)), .int .i64 a0_4] 35 (0, 0)) (by (with_reducible repeat (first | refine bN ?_ _ | refine bD ?_ | refine bA ?_ _)); exact BK134.out) hb); have n6_ := Aside0.mk (bB (g := gb139) (o := .cells #[.int .i64 ((rd_T35 y135 x59_2).f0), .int .i64 ((rd_T35 y135 x59_2).f1), .int .i64 ((rd_T35 y135 x59_2).f2), .int .i64 ((rd_T35 y135 x59_2).f3), .int .i64 ((rd_T35 y135 x59_2).f4)] 35 (0, 0)) (by (with_reducible repeat (first | refine bN ?_ _ | refine bD ?_ | refine bA ?_ _)); exact BK139.out) hb); have n7_ := Aside0.mk (below_step (by repeat (first | (with_reducible first | exact HB.out | apply wA | apply wN | apply wD | refine wS ?_ GE126.out | refine wS ?_ GE131.out | refine wS ?_ GE132.out | refine wS ?_ GE133.out | refine wS ?_ GE134.out | refine wS ?_ GE139.out) | exact HB.out)) hb); clear HO_57; clear BK126; clear BK131; clear BK132; clear BK133; clear BK134; clear BK139; clear HB; have HO_57 := n0_; have BK126 := n1_; have BK131 := n2_; have BK132 := n3_; have BK133 := n4_; have BK134 := n5_; have BK139 := n6_; have HB := n7_; clear n0_ n1_ n2_ n3_ n4_ n5_ n6_ n7_; (try clear hb); (try clear hb2); (try clear hk); (try clear hi); have hcz95_0 : w94.cell? ⟨gb139, 0, none⟩ = some (.int .i64 ((rd_T35 y135 x59_2).f0)) := (bC BK139.out 0).trans rfl; have hcz95_1 : w94.cell? ⟨gb139, 1, none⟩ = some (.int .i64 ((rd_T35 y135 x59_2).f1)) := (bC BK139.out 1).trans rfl; have hcz95_2 : w94.cell? ⟨gb139, 2, none⟩ = some (.int .i64 ((rd_T35 y135 x59_2).f2)) := (bC BK139.out 2).trans rfl; have hcz95_3 : w94.cell? ⟨gb139, 3, none⟩ = some (.int .i64 ((rd_T35 y135 x59_2).f3)) := (bC BK139.out 3).trans rfl; have hcz95_4 : w94.cell? ⟨gb139, 4, none⟩ = some (.int .i64 ((rd_T35 y135 x59_2).f4)) := (bC BK139.out 4).trans rfl; have hfz95_0 := bZ BK139.out 0; have hfz95_1 := bZ BK139.out 1; have hfz95_2 := bZ BK139.out 2; have hfz95_3 := bZ BK139.out 3; have hfz95_4 := bZ BK139.out 4) | (go_at_call 28; (with_reducible refine (plan_Fits.calls ((rd_T35 y135 x59_2).f0) ((rd_T35 y135 x59_2).f1) ((rd_T35 y135 x59_2).f2) ((rd_T35 y135 x59_2).f3) ((rd_T35 y135 x59_2).f4) a1 t142 _ A81.out).mono ?_); rintro e w96 ⟨rfl, hb⟩; have n0_ := Aside0.mk (Kd.R_below (by (with_reducible repeat (first | apply Kd.R_alloc | apply Kd.R_drewN | apply Kd.R_drew)); exact HO_57.out) hb); have n1_ := Aside0.mk (bB (g := gb126) (o := .cells #[.int .i64 a0_0, .int .i64 a0_1, .int .i64 a0_2, .int .i64 a0_3, .int .i64 a0_4] 35 (0, 0)) (by (with_reducible repeat (first | refine bN ?_ _ | refine bD ?_ | refine bA ?_ _)); exact BK126.out) hb); have n2_ := Aside0.mk (bB (g := gb131) (o := .cells #[.int .i64 (wrap64 (a0_0 + 1)), .int .i64 a0_1, .int .i64 a0_2, .int .i64 a0_3, .int .i64 a0_4] 35 (0, 0)) (by (with_reducible repeat (first | refine bN ?_ _ | refine bD ?_ | refine bA ?_ _)); exact BK131.out) hb); have n3_ := Aside0.mk (bB (g := gb132) (o := .cells #[.int .i64 a0_0, .int .i64 (wrap64 (a0_1 + 1)), .int .i64 a0_2, .int .i64 a0_3, .int .i64 a0_4] 35 (0, 0)) (by (with_reducible repeat (first | refine bN ?_ _ | refine bD ?_ | refine bA ?_ _)); exact BK132.out) hb); have n4_ := Aside0.mk (bB (g := gb133) (o := .cells #[.int .i64 a0_0, .int .i64 a0_1, .int .i64 (wrap64 (a0_2 - 1)), .int .i64 a0_3, .int .i64 a0_4] 35 (0, 0)) (by (with_reducible repeat (first | refine bN ?_ _ | refine bD ?_ | refine bA ?_ _)); exact BK133.out) hb); have n5_ := Aside0.mk (bB (g := gb134) (o := .cells #[.int .i64 a0_0, .int .i64 a0_1, .int .i64 a0_2, .int .i64 (wrap64 (a0_3 - 1)), .int .i64 a0_4] 35 (0, 0)) (by (with_reducible repeat (first | refine bN ?_ _ | refine bD ?_ | refine bA ?_ _)); exact BK134.out) hb); have n6_ := Aside0.mk (bB (g := gb139) (o := .cells #[.int .i64 ((rd_T35 y135 x59_2).f0), .int .i64 ((rd_T35 y135 x59_2).f1), .int .i64 ((rd_T35 y135 x59_2).f2), .int .i64 ((rd_T35 y135 x59_2).f3), .int .i64 ((rd_T35 y135 x59_2).f4)] 35 (0, 0)) (by (with_reducible repeat (first | refine bN ?_ _ | refine bD ?_ | refine bA ?_ _)); exact BK139.out) hb); have n7_ := Aside0.mk (below_step (by repeat (first | (with_reducible first | exact HB.out | apply wA | apply wN | apply wD | refine wS ?_ GE126.out | refine wS ?_ GE131.out | refine wS ?_ GE132.out | refine wS ?_ GE133.out | refine wS ?_ GE134.out | refine wS ?_ GE139.out) | exact HB.out)) hb); clear HO_57; clear BK126; clear BK131; clear BK132; clear BK133; clear BK134; clear BK139; clear HB; have HO_57 := n0_; have BK126 := n1_; have BK131 := n2_; have BK132 := n3_; have BK133 := n4_; have BK134 := n5_; have BK139 := n6_; have HB := n7_; clear n0_ n1_ n2_ n3_ n4_ n5_ n6_ n7_; (try clear hb); (try clear hb2); (try clear hk); (try clear hi)))
            go_meet
            case rel => exact ⟨_, (!t142), (by first | rfl | (simp; done) | (simp [*]; done)), H', ⟨by have := HJ2.out; have := HK2.out; first | omega | exact Nat.le_refl _⟩, ⟨by (with_reducible repeat (first | apply Kd.R_alloc | apply Kd.R_drewN | apply Kd.R_drew)); exact Kd.R_mono HO_57.out (fun _ hk => ⟨hk.1.1, ⟨hk.1.2.1, ⟨hk.1.2.2.1, ⟨hk.1.2.2.2.1, ⟨hk.1.2.2.2.2, hk.2⟩⟩⟩⟩⟩)⟩, ⟨by (with_reducible repeat (first | refine bN ?_ _ | refine bD ?_ | refine bA ?_ _)); exact BK126.out⟩, ⟨by (with_reducible repeat (first | refine bN ?_ _ | refine bD ?_ | refine bA ?_ _)); exact BK131.out⟩, ⟨by (with_reducible repeat (first | refine bN ?_ _ | refine bD ?_ | refine bA ?_ _)); exact BK132.out⟩, ⟨by (with_reducible repeat (first | refine bN ?_ _ | refine bD ?_ | refine bA ?_ _)); exact BK133.out⟩, ⟨by (with_reducible repeat (first | refine bN ?_ _ | refine bD ?_ | refine bA ?_ _)); exact BK134.out⟩, ⟨by (with_reducible repeat (first | refine bN ?_ _ | refine bD ?_ | refine bA ?_ _)); exact BK139.out⟩, ⟨by repeat (first | (with_reducible first | exact HB.out | apply wA | apply wN | apply wD | refine wS ?_ GE126.out | refine wS ?_ GE131.out | refine wS ?_ GE132.out | refine wS ?_ GE133.out | refine wS ?_ GE134.out | refine wS ?_ GE139.out) | exact HB.out)⟩⟩
           ·
            replace c80 := Bool.eq_false_iff.mpr c80; subst c80
            have H1 : (potsherdlaw6_PlanLess.j2 k2 a1 y135 (y135.length : Int) x59_2 false a0_0 a0_1 a0_2 a0_3 a0_4) = some true := by rw [if_neg (show ¬ (false = true) by decide)] at H; exact H
            clear H; have H := H1; clear H1; have H' := Aside0.mk H; clear H; have hnb97 := NB139_126.out; have hnc97 := NB126_139.out; have hnb98 := NB139_131.out; have hnc98 := NB131_139.out; have hnb99 := NB139_132.out; have hnc99 := NB132_139.out; have hnb100 := NB139_133.out; have hnc100 := NB133_139.out; have hnb101 := NB139_134.out; have hnc101 := NB134_139.out; have hcz102_0 : w70.cell? ⟨gb139, 0, none⟩ = some (.int .i64 0) := (bC BK139.out 0).trans rfl; have hcz102_1 : w70.cell? ⟨gb139, 1, none⟩ = some (.int .i64 0) := (bC BK139.out 1).trans rfl; have hcz102_2 : w70.cell? ⟨gb139, 2, none⟩ = some (.int .i64 0) := (bC BK139.out 2).trans rfl; have hcz102_3 : w70.cell? ⟨gb139, 3, none⟩ = some (.int .i64 0) := (bC BK139.out 3).trans rfl; have hcz102_4 : w70.cell? ⟨gb139, 4, none⟩ = some (.int .i64 0) := (bC BK139.out 4).trans rfl; have hfz102_0 := bZ BK139.out 0; have hfz102_1 := bZ BK139.out 1; have hfz102_2 := bZ BK139.out 2; have hfz102_3 := bZ BK139.out 3; have hfz102_4 := bZ BK139.out 4
            go_wp2_with (first | ((with_reducible refine gate_callee (f := 22) rfl ?_); refine goesL_ (some 64) rfl rfl Try.func22 (by kernel_rfl) rfl #[.agg #[.int .i64 ((rd_T35 y135 x59_2).f0), .int .i64 ((rd_T35 y135 x59_2).f1), .int .i64 ((rd_T35 y135 x59_2).f2), .int .i64 ((rd_T35 y135 x59_2).f3), .int .i64 ((rd_T35 y135 x59_2).f4)]] rfl (by (try simp only [List.map_toArray, List.map_cons, List.map_nil]); first | done | rfl | (simp only [List.length_drop, List.length_take]; rfl)) ?_; (with_reducible refine (plan_May.calls ((rd_T35 y135 x59_2).f0) ((rd_T35 y135 x59_2).f1) ((rd_T35 y135 x59_2).f2) ((rd_T35 y135 x59_2).f3) ((rd_T35 y135 x59_2).f4) true _ A77.out).mono ?_); rintro e w103 ⟨rfl, hb⟩; refine ⟨_, rfl, ?_⟩; have n0_ := Aside0.mk (Kd.R_below (by (with_reducible repeat (first | apply Kd.R_alloc | apply Kd.R_drewN | apply Kd.R_drew)); exact (Kd.R_mono (Kd.R_far (p := ⟨gb139, 4, none⟩) (Kd.R_far (p := ⟨gb139, 3, none⟩) (Kd.R_far (p := ⟨gb139, 2, none⟩) (Kd.R_far (p := ⟨gb139, 1, none⟩) (Kd.R_far (p := ⟨gb139, 0, none⟩) (Kd.R_mono HO_57.out (fun k_ hk => (⟨hk, hk.2⟩ : _ ∧ k_ ≠ gb139))) (fun _ hk => hk.2) (.int .i64 ((rd_T35 y135 x59_2).f0))) (fun _ hk => hk.2) (.int .i64 ((rd_T35 y135 x59_2).f1))) (fun _ hk => hk.2) (.int .i64 ((rd_T35 y135 x59_2).f2))) (fun _ hk => hk.2) (.int .i64 ((rd_T35 y135 x59_2).f3))) (fun _ hk => hk.2) (.int .i64 ((rd_T35 y135 x59_2).f4))) (fun _ h_ => h_.1))) hb); have n1_ := Aside0.mk (bB (g := gb126) (o := .cells #[.int .i64 a0_0, .int .i64 a0_1, .int .i64 a0_2, .int .i64 a0_3, .int .i64 a0_4] 35 (0, 0)) (by (with_reducible repeat (first | refine bN ?_ _ | refine bD ?_ | refine bA ?_ _)); refine bF ?_ NB126_139.out _; (with_reducible repeat (first | refine bN ?_ _ | refine bD ?_ | refine bA ?_ _)); refine bF ?_ NB126_139.out _; (with_reducible repeat (first | refine bN ?_ _ | refine bD ?_ | refine bA ?_ _)); refine bF ?_ NB126_139.out _; (with_reducible repeat (first | refine bN ?_ _ | refine bD ?_ | refine bA ?_ _)); refine bF ?_ NB126_139.out _; (with_reducible repeat (first | refine bN ?_ _ | refine bD ?_ | refine bA ?_ _)); refine bF ?_ NB126_139.out _; (with_reducible repeat (first | refine bN ?_ _ | refine bD ?_ | refine bA ?_ _)); exact BK126.out) hb); have n2_ := Aside0.mk (bB (g := gb131) (o := .cells #[.int .i64 (wrap64 (a0_0 + 1)), .int .i64 a0_1, .int .i64 a0_2, .int .i64 a0_3, .int .i64 a0_4] 35 (0, 0)) (by (with_reducible repeat (first | refine bN ?_ _ | refine bD ?_ | refine bA ?_ _)); refine bF ?_ NB131_139.out _; (with_reducible repeat (first | refine bN ?_ _ | refine bD ?_ | refine bA ?_ _)); refine bF ?_ NB131_139.out _; (with_reducible repeat (first | refine bN ?_ _ | refine bD ?_ | refine bA ?_ _)); refine bF ?_ NB131_139.out _; (with_reducible repeat (first | refine bN ?_ _ | refine bD ?_ | refine bA ?_ _)); refine bF ?_ NB131_139.out _; (with_reducible repeat (first | refine bN ?_ _ | refine bD ?_ | refine bA ?_ _)); refine bF ?_ NB131_139.out _; (with_reducible repeat (first | refine bN ?_ _ | refine bD ?_ | refine bA ?_ _)); exact BK131.out) hb); have n3_ := Aside0.mk (bB (g := gb132) (o := .cells #[.int .i64 a0_0, .int .i64 (wrap64 (a0_1 + 1)), .int .i64 a0_2, .int .i64 a0_3, .int .i64 a0_4] 35 (0, 0)) (by (with_reducible repeat (first | refine bN ?_ _ | refine bD ?_ | refine bA ?_ _)); refine bF ?_ NB132_139.out _; (with_reducible repeat (first | refine bN ?_ _ | refine bD ?_ | refine bA ?_ _)); refine bF ?_ NB132_139.out _; (with_reducible repeat (first | refine bN ?_ _ | refine bD ?_ | refine bA ?_ _)); refine bF ?_ NB132_139.out _; (with_reducible repeat (first | refine bN ?_ _ | refine bD ?_ | refine bA ?_ _)); refine bF ?_ NB132_139.out _; (with_reducible repeat (first | refine bN ?_ _ | refine bD ?_ | refine bA ?_ _)); refine bF ?_ NB132_139.out _; (with_reducible repeat (first | refine bN ?_ _ | refine bD ?_ | refine bA ?_ _)); exact BK132.out) hb); have n4_ := Aside0.mk (bB (g := gb133) (o := .cells #[.int .i64 a0_0, .int .i64 a0_1, .int .i64 (wrap64 (a0_2 - 1)), .int .i64 a0_3, .int .i64 a0_4] 35 (0, 0)) (by (with_reducible repeat (first | refine bN ?_ _ | refine bD ?_ | refine bA ?_ _)); refine bF ?_ NB133_139.out _; (with_reducible repeat (first | refine bN ?_ _ | refine bD ?_ | refine bA ?_ _)); refine bF ?_ NB133_139.out _; (with_reducible repeat (first | refine bN ?_ _ | refine bD ?_ | refine bA ?_ _)); refine bF ?_ NB133_139.out _; (with_reducible repeat (first | refine bN ?_ _ | refine bD ?_ | refine bA ?_ _)); refine bF ?_ NB133_139.out _; (with_reducible repeat (first | refine bN ?_ _ | refine bD ?_ | refine bA ?_ _)); refine bF ?_ NB133_139.out _; (with_reducible repeat (first | refine bN ?_ _ | refine bD ?_ | refine bA ?_ _)); exact BK133.out) hb); have n5_ := Aside0.mk (bB (g := gb134) (o := .cells #[.int .i64 a0_0, .int .i64 a0_1, .int .i64 a0_2, .int .i64 (wrap64 (a0_3 - 1)), .int .i64 a0_4] 35 (0, 0)) (by (with_reducible repeat (first | refine bN ?_ _ | refine bD ?_ | refine bA ?_ _)); refine bF ?_ NB134_139.out _; (with_reducible repeat (first | refine bN ?_ _ | refine bD ?_ | refine bA ?_ _)); refine bF ?_ NB134_139.out _; (with_reducible repeat (first | refine bN ?_ _ | refine bD ?_ | refine bA ?_ _)); refine bF ?_ NB134_139.out _; (with_reducible repeat (first | refine bN ?_ _ | refine bD ?_ | refine bA ?_ _)); refine bF ?_ NB134_139.out _; (with_reducible repeat (first | refine bN ?_ _ | refine bD ?_ | refine bA ?_ _)); refine bF ?_ NB134_139.out _; (with_reducible repeat (first | refine bN ?_ _ | refine bD ?_ | refine bA ?_ _)); exact BK134.out) hb); have n6_ := Aside0.mk (bB (g := gb139) (o := .cells #[.int .i64 ((rd_T35 y135 x59_2).f0), .int .i64 ((rd_T35 y135 x59_2).f1), .int .i64 ((rd_T35 y135 x59_2).f2), .int .i64 ((rd_T35 y135 x59_2).f3), .int .i64 ((rd_T35 y135 x59_2).f4)] 35 (0, 0)) (by (with_reducible repeat (first | refine bN ?_ _ | refine bD ?_ | refine bA ?_ _)); refine blk_put (cs := #[.int .i64 ((rd_T35 y135 x59_2).f0), .int .i64 ((rd_T35 y135 x59_2).f1), .int .i64 ((rd_T35 y135 x59_2).f2), .int .i64 ((rd_T35 y135 x59_2).f3), .int .i64 0]) ?_ 4 _ rfl; (with_reducible repeat (first | refine bN ?_ _ | refine bD ?_ | refine bA ?_ _)); refine blk_put (cs := #[.int .i64 ((rd_T35 y135 x59_2).f0), .int .i64 ((rd_T35 y135 x59_2).f1), .int .i64 ((rd_T35 y135 x59_2).f2), .int .i64 0, .int .i64 0]) ?_ 3 _ rfl; (with_reducible repeat (first | refine bN ?_ _ | refine bD ?_ | refine bA ?_ _)); refine blk_put (cs := #[.int .i64 ((rd_T35 y135 x59_2).f0), .int .i64 ((rd_T35 y135 x59_2).f1), .int .i64 0, .int .i64 0, .int .i64 0]) ?_ 2 _ rfl; (with_reducible repeat (first | refine bN ?_ _ | refine bD ?_ | refine bA ?_ _)); refine blk_put (cs := #[.int .i64 ((rd_T35 y135 x59_2).f0), .int .i64 0, .int .i64 0, .int .i64 0, .int .i64 0]) ?_ 1 _ rfl; (with_reducible repeat (first | refine bN ?_ _ | refine bD ?_ | refine bA ?_ _)); refine blk_put (cs := #[.int .i64 0, .int .i64 0, .int .i64 0, .int .i64 0, .int .i64 0]) ?_ 0 _ rfl; (with_reducible repeat (first | refine bN ?_ _ | refine bD ?_ | refine bA ?_ _)); exact BK139.out) hb); have n7_ := Aside0.mk (below_step (by repeat (first | (with_reducible first | exact HB.out | apply wA | apply wN | apply wD | refine wS ?_ GE126.out | refine wS ?_ GE131.out | refine wS ?_ GE132.out | refine wS ?_ GE133.out | refine wS ?_ GE134.out | refine wS ?_ GE139.out) | exact HB.out)) hb); clear HO_57; clear BK126; clear BK131; clear BK132; clear BK133; clear BK134; clear BK139; clear HB; have HO_57 := n0_; have BK126 := n1_; have BK131 := n2_; have BK132 := n3_; have BK133 := n4_; have BK134 := n5_; have BK139 := n6_; have HB := n7_; clear n0_ n1_ n2_ n3_ n4_ n5_ n6_ n7_; (try clear hb); (try clear hb2); (try clear hk); (try clear hi); have hnb104 := NB126_131.out; have hnc104 := NB131_126.out; have hnb105 := NB126_132.out; have hnc105 := NB132_126.out; have hnb106 := NB126_133.out; have hnc106 := NB133_126.out; have hnb107 := NB126_134.out; have hnc107 := NB134_126.out; have hcz108_0 : w103.cell? ⟨gb126, 0, none⟩ = some (.int .i64 a0_0) := (bC BK126.out 0).trans rfl; have hcz108_1 : w103.cell? ⟨gb126, 1, none⟩ = some (.int .i64 a0_1) := (bC BK126.out 1).trans rfl; have hcz108_2 : w103.cell? ⟨gb126, 2, none⟩ = some (.int .i64 a0_2) := (bC BK126.out 2).trans rfl; have hcz108_3 : w103.cell? ⟨gb126, 3, none⟩ = some (.int .i64 a0_3) := (bC BK126.out 3).trans rfl; have hcz108_4 : w103.cell? ⟨gb126, 4, none⟩ = some (.int .i64 a0_4) := (bC BK126.out 4).trans rfl; have hfz108_0 := bZ BK126.out 0; have hfz108_1 := bZ BK126.out 1; have hfz108_2 := bZ BK126.out 2; have hfz108_3 := bZ BK126.out 3; have hfz108_4 := bZ BK126.out 4) | (go_at_call 28; (with_reducible refine (plan_Fits.calls a0_0 a0_1 a0_2 a0_3 a0_4 a1 false _ A79.out).mono ?_); rintro e w109 ⟨rfl, hb⟩; have n0_ := Aside0.mk (Kd.R_below (by (with_reducible repeat (first | apply Kd.R_alloc | apply Kd.R_drewN | apply Kd.R_drew)); exact HO_57.out) hb); have n1_ := Aside0.mk (bB (g := gb126) (o := .cells #[.int .i64 a0_0, .int .i64 a0_1, .int .i64 a0_2, .int .i64 a0_3, .int .i64 a0_4] 35 (0, 0)) (by (with_reducible repeat (first | refine bN ?_ _ | refine bD ?_ | refine bA ?_ _)); exact BK126.out) hb); have n2_ := Aside0.mk (bB (g := gb131) (o := .cells #[.int .i64 (wrap64 (a0_0 + 1)), .int .i64 a0_1, .int .i64 a0_2, .int .i64 a0_3, .int .i64 a0_4] 35 (0, 0)) (by (with_reducible repeat (first | refine bN ?_ _ | refine bD ?_ | refine bA ?_ _)); exact BK131.out) hb); have n3_ := Aside0.mk (bB (g := gb132) (o := .cells #[.int .i64 a0_0, .int .i64 (wrap64 (a0_1 + 1)), .int .i64 a0_2, .int .i64 a0_3, .int .i64 a0_4] 35 (0, 0)) (by (with_reducible repeat (first | refine bN ?_ _ | refine bD ?_ | refine bA ?_ _)); exact BK132.out) hb); have n4_ := Aside0.mk (bB (g := gb133) (o := .cells #[.int .i64 a0_0, .int .i64 a0_1, .int .i64 (wrap64 (a0_2 - 1)), .int .i64 a0_3, .int .i64 a0_4] 35 (0, 0)) (by (with_reducible repeat (first | refine bN ?_ _ | refine bD ?_ | refine bA ?_ _)); exact BK133.out) hb); have n5_ := Aside0.mk (bB (g := gb134) (o := .cells #[.int .i64 a0_0, .int .i64 a0_1, .int .i64 a0_2, .int .i64 (wrap64 (a0_3 - 1)), .int .i64 a0_4] 35 (0, 0)) (by (with_reducible repeat (first | refine bN ?_ _ | refine bD ?_ | refine bA ?_ _)); exact BK134.out) hb); have n6_ := Aside0.mk (bB (g := gb139) (o := .cells #[.int .i64 ((rd_T35 y135 x59_2).f0), .int .i64 ((rd_T35 y135 x59_2).f1), .int .i64 ((rd_T35 y135 x59_2).f2), .int .i64 ((rd_T35 y135 x59_2).f3), .int .i64 ((rd_T35 y135 x59_2).f4)] 35 (0, 0)) (by (with_reducible repeat (first | refine bN ?_ _ | refine bD ?_ | refine bA ?_ _)); exact BK139.out) hb); have n7_ := Aside0.mk (below_step (by repeat (first | (with_reducible first | exact HB.out | apply wA | apply wN | apply wD | refine wS ?_ GE126.out | refine wS ?_ GE131.out | refine wS ?_ GE132.out | refine wS ?_ GE133.out | refine wS ?_ GE134.out | refine wS ?_ GE139.out) | exact HB.out)) hb); clear HO_57; clear BK126; clear BK131; clear BK132; clear BK133; clear BK134; clear BK139; clear HB; have HO_57 := n0_; have BK126 := n1_; have BK131 := n2_; have BK132 := n3_; have BK133 := n4_; have BK134 := n5_; have BK139 := n6_; have HB := n7_; clear n0_ n1_ n2_ n3_ n4_ n5_ n6_ n7_; (try clear hb); (try clear hb2); (try clear hk); (try clear hi)))
            go_meet
            case rel => exact ⟨_, (false), (by first | rfl | (simp; done) | (simp [*]; done)), H', ⟨by have := HJ2.out; have := HK2.out; first | omega | exact Nat.le_refl _⟩, ⟨by (with_reducible repeat (first | apply Kd.R_alloc | apply Kd.R_drewN | apply Kd.R_drew)); exact Kd.R_mono HO_57.out (fun _ hk => ⟨hk.1.1, ⟨hk.1.2.1, ⟨hk.1.2.2.1, ⟨hk.1.2.2.2.1, ⟨hk.1.2.2.2.2, hk.2⟩⟩⟩⟩⟩)⟩, ⟨by (with_reducible repeat (first | refine bN ?_ _ | refine bD ?_ | refine bA ?_ _)); exact BK126.out⟩, ⟨by (with_reducible repeat (first | refine bN ?_ _ | refine bD ?_ | refine bA ?_ _)); exact BK131.out⟩, ⟨by (with_reducible repeat (first | refine bN ?_ _ | refine bD ?_ | refine bA ?_ _)); exact BK132.out⟩, ⟨by (with_reducible repeat (first | refine bN ?_ _ | refine bD ?_ | refine bA ?_ _)); exact BK133.out⟩, ⟨by (with_reducible repeat (first | refine bN ?_ _ | refine bD ?_ | refine bA ?_ _)); exact BK134.out⟩, ⟨by (with_reducible repeat (first | refine bN ?_ _ | refine bD ?_ | refine bA ?_ _)); exact BK139.out⟩, ⟨by repeat (first | (with_reducible first | exact HB.out | apply wA | apply wN | apply wD | refine wS ?_ GE126.out | refine wS ?_ GE131.out | refine wS ?_ GE132.out | refine wS ?_ GE133.out | refine wS ?_ GE134.out | refine wS ?_ GE139.out) | exact HB.out)⟩⟩
          ·
           replace c78 := Bool.eq_false_iff.mpr c78; subst c78
           have H1 : (potsherdlaw6_PlanLess.j2 k2 a1 y135 (y135.length : Int) x59_2 false a0_0 a0_1 a0_2 a0_3 a0_4) = some true := by rw [if_neg (show ¬ (false = true) by decide)] at H; exact H
           clear H; have H := H1; clear H1; have H' := Aside0.mk H; clear H; have hnb110 := NB139_126.out; have hnc110 := NB126_139.out; have hnb111 := NB139_131.out; have hnc111 := NB131_139.out; have hnb112 := NB139_132.out; have hnc112 := NB132_139.out; have hnb113 := NB139_133.out; have hnc113 := NB133_139.out; have hnb114 := NB139_134.out; have hnc114 := NB134_139.out; have hcz115_0 : w70.cell? ⟨gb139, 0, none⟩ = some (.int .i64 0) := (bC BK139.out 0).trans rfl; have hcz115_1 : w70.cell? ⟨gb139, 1, none⟩ = some (.int .i64 0) := (bC BK139.out 1).trans rfl; have hcz115_2 : w70.cell? ⟨gb139, 2, none⟩ = some (.int .i64 0) := (bC BK139.out 2).trans rfl; have hcz115_3 : w70.cell? ⟨gb139, 3, none⟩ = some (.int .i64 0) := (bC BK139.out 3).trans rfl; have hcz115_4 : w70.cell? ⟨gb139, 4, none⟩ = some (.int .i64 0) := (bC BK139.out 4).trans rfl; have hfz115_0 := bZ BK139.out 0; have hfz115_1 := bZ BK139.out 1; have hfz115_2 := bZ BK139.out 2; have hfz115_3 := bZ BK139.out 3; have hfz115_4 := bZ BK139.out 4
           go_wp2_with (first | ((with_reducible refine gate_callee (f := 22) rfl ?_); refine goesL_ (some 64) rfl rfl Try.func22 (by kernel_rfl) rfl #[.agg #[.int .i64 ((rd_T35 y135 x59_2).f0), .int .i64 ((rd_T35 y135 x59_2).f1), .int .i64 ((rd_T35 y135 x59_2).f2), .int .i64 ((rd_T35 y135 x59_2).f3), .int .i64 ((rd_T35 y135 x59_2).f4)]] rfl (by (try simp only [List.map_toArray, List.map_cons, List.map_nil]); first | done | rfl | (simp only [List.length_drop, List.length_take]; rfl)) ?_; (with_reducible refine (plan_May.calls ((rd_T35 y135 x59_2).f0) ((rd_T35 y135 x59_2).f1) ((rd_T35 y135 x59_2).f2) ((rd_T35 y135 x59_2).f3) ((rd_T35 y135 x59_2).f4) false _ A77.out).mono ?_); rintro e w116 ⟨rfl, hb⟩; refine ⟨_, rfl, ?_⟩; have n0_ := Aside0.mk (Kd.R_below (by (with_reducible repeat (first | apply Kd.R_alloc | apply Kd.R_drewN | apply Kd.R_drew)); exact (Kd.R_mono (Kd.R_far (p := ⟨gb139, 4, none⟩) (Kd.R_far (p := ⟨gb139, 3, none⟩) (Kd.R_far (p := ⟨gb139, 2, none⟩) (Kd.R_far (p := ⟨gb139, 1, none⟩) (Kd.R_far (p := ⟨gb139, 0, none⟩) (Kd.R_mono HO_57.out (fun k_ hk => (⟨hk, hk.2⟩ : _ ∧ k_ ≠ gb139))) (fun _ hk => hk.2) (.int .i64 ((rd_T35 y135 x59_2).f0))) (fun _ hk => hk.2) (.int .i64 ((rd_T35 y135 x59_2).f1))) (fun _ hk => hk.2) (.int .i64 ((rd_T35 y135 x59_2).f2))) (fun _ hk => hk.2) (.int .i64 ((rd_T35 y135 x59_2).f3))) (fun _ hk => hk.2) (.int .i64 ((rd_T35 y135 x59_2).f4))) (fun _ h_ => h_.1))) hb); have n1_ := Aside0.mk (bB (g := gb126) (o := .cells #[.int .i64 a0_0, .int .i64 a0_1, .int .i64 a0_2, .int .i64 a0_3, .int .i64 a0_4] 35 (0, 0)) (by (with_reducible repeat (first | refine bN ?_ _ | refine bD ?_ | refine bA ?_ _)); refine bF ?_ NB126_139.out _; (with_reducible repeat (first | refine bN ?_ _ | refine bD ?_ | refine bA ?_ _)); refine bF ?_ NB126_139.out _; (with_reducible repeat (first | refine bN ?_ _ | refine bD ?_ | refine bA ?_ _)); refine bF ?_ NB126_139.out _; (with_reducible repeat (first | refine bN ?_ _ | refine bD ?_ | refine bA ?_ _)); refine bF ?_ NB126_139.out _; (with_reducible repeat (first | refine bN ?_ _ | refine bD ?_ | refine bA ?_ _)); refine bF ?_ NB126_139.out _; (with_reducible repeat (first | refine bN ?_ _ | refine bD ?_ | refine bA ?_ _)); exact BK126.out) hb); have n2_ := Aside0.mk (bB (g := gb131) (o := .cells #[.int .i64 (wrap64 (a0_0 + 1)), .int .i64 a0_1, .int .i64 a0_2, .int .i64 a0_3, .int .i64 a0_4] 35 (0, 0)) (by (with_reducible repeat (first | refine bN ?_ _ | refine bD ?_ | refine bA ?_ _)); refine bF ?_ NB131_139.out _; (with_reducible repeat (first | refine bN ?_ _ | refine bD ?_ | refine bA ?_ _)); refine bF ?_ NB131_139.out _; (with_reducible repeat (first | refine bN ?_ _ | refine bD ?_ | refine bA ?_ _)); refine bF ?_ NB131_139.out _; (with_reducible repeat (first | refine bN ?_ _ | refine bD ?_ | refine bA ?_ _)); refine bF ?_ NB131_139.out _; (with_reducible repeat (first | refine bN ?_ _ | refine bD ?_ | refine bA ?_ _)); refine bF ?_ NB131_139.out _; (with_reducible repeat (first | refine bN ?_ _ | refine bD ?_ | refine bA ?_ _)); exact BK131.out) hb); have n3_ := Aside0.mk (bB (g := gb132) (o := .cells #[.int .i64 a0_0, .int .i64 (wrap64 (a0_1 + 1)), .int .i64 a0_2, .int .i64 a0_3, .int .i64 a0_4] 35 (0, 0)) (by (with_reducible repeat (first | refine bN ?_ _ | refine bD ?_ | refine bA ?_ _)); refine bF ?_ NB132_139.out _; (with_reducible repeat (first | refine bN ?_ _ | refine bD ?_ | refine bA ?_ _)); refine bF ?_ NB132_139.out _; (with_reducible repeat (first | refine bN ?_ _ | refine bD ?_ | refine bA ?_ _)); refine bF ?_ NB132_139.out _; (with_reducible repeat (first | refine bN ?_ _ | refine bD ?_ | refine bA ?_ _)); refine bF ?_ NB132_139.out _; (with_reducible repeat (first | refine bN ?_ _ | refine bD ?_ | refine bA ?_ _)); refine bF ?_ NB132_139.out _; (with_reducible repeat (first | refine bN ?_ _ | refine bD ?_ | refine bA ?_ _)); exact BK132.out) hb); have n4_ := Aside0.mk (bB (g := gb133) (o := .cells #[.int .i64 a0_0, .int .i64 a0_1, .int .i64 (wrap64 (a0_2 - 1)), .int .i64 a0_3, .int .i64 a0_4] 35 (0, 0)) (by (with_reducible repeat (first | refine bN ?_ _ | refine bD ?_ | refine bA ?_ _)); refine bF ?_ NB133_139.out _; (with_reducible repeat (first | refine bN ?_ _ | refine bD ?_ | refine bA ?_ _)); refine bF ?_ NB133_139.out _; (with_reducible repeat (first | refine bN ?_ _ | refine bD ?_ | refine bA ?_ _)); refine bF ?_ NB133_139.out _; (with_reducible repeat (first | refine bN ?_ _ | refine bD ?_ | refine bA ?_ _)); refine bF ?_ NB133_139.out _; (with_reducible repeat (first | refine bN ?_ _ | refine bD ?_ | refine bA ?_ _)); refine bF ?_ NB133_139.out _; (with_reducible repeat (first | refine bN ?_ _ | refine bD ?_ | refine bA ?_ _)); exact BK133.out) hb); have n5_ := Aside0.mk (bB (g := gb134) (o := .cells #[.int .i64 a0_0, .int .i64 a0_1, .int .i64 a0_2, .int .i64 (wrap64 (a0_3 - 1)), .int .i64 a0_4] 35 (0, 0)) (by (with_reducible repeat (first | refine bN ?_ _ | refine bD ?_ | refine bA ?_ _)); refine bF ?_ NB134_139.out _; (with_reducible repeat (first | refine bN ?_ _ | refine bD ?_ | refine bA ?_ _)); refine bF ?_ NB134_139.out _; (with_reducible repeat (first | refine bN ?_ _ | refine bD ?_ | refine bA ?_ _)); refine bF ?_ NB134_139.out _; (with_reducible repeat (first | refine bN ?_ _ | refine bD ?_ | refine bA ?_ _)); refine bF ?_ NB134_139.out _; (with_reducible repeat (first | refine bN ?_ _ | refine bD ?_ | refine bA ?_ _)); refine bF ?_ NB134_139.out _; (with_reducible repeat (first | refine bN ?_ _ | refine bD ?_ | refine bA ?_ _)); exact BK134.out) hb); have n6_ := Aside0.mk (bB (g := gb139) (o := .cells #[.int .i64 ((rd_T35 y135 x59_2).f0), .int .i64 ((rd_T35 y135 x59_2).f1), .int .i64 ((rd_T35 y135 x59_2).f2), .int .i64 ((rd_T35 y135 x59_2).f3), .int .i64 ((rd_T35 y135 x59_2).f4)] 35 (0, 0)) (by (with_reducible repeat (first | refine bN ?_ _ | refine bD ?_ | refine bA ?_ _)); refine blk_put (cs := #[.int .i64 ((rd_T35 y135 x59_2).f0), .int .i64 ((rd_T35 y135 x59_2).f1), .int .i64 ((rd_T35 y135 x59_2).f2), .int .i64 ((rd_T35 y135 x59_2).f3), .int .i64 0]) ?_ 4 _ rfl; (with_reducible repeat (first | refine bN ?_ _ | refine bD ?_ | refine bA ?_ _)); refine blk_put (cs := #[.int .i64 ((rd_T35 y135 x59_2).f0), .int .i64 ((rd_T35 y135 x59_2).f1), .int .i64 ((rd_T35 y135 x59_2).f2), .int .i64 0, .int .i64 0]) ?_ 3 _ rfl; (with_reducible repeat (first | refine bN ?_ _ | refine bD ?_ | refine bA ?_ _)); refine blk_put (cs := #[.int .i64 ((rd_T35 y135 x59_2).f0), .int .i64 ((rd_T35 y135 x59_2).f1), .int .i64 0, .int .i64 0, .int .i64 0]) ?_ 2 _ rfl; (with_reducible repeat (first | refine bN ?_ _ | refine bD ?_ | refine bA ?_ _)); refine blk_put (cs := #[.int .i64 ((rd_T35 y135 x59_2).f0), .int .i64 0, .int .i64 0, .int .i64 0, .int .i64 0]) ?_ 1 _ rfl; (with_reducible repeat (first | refine bN ?_ _ | refine bD ?_ | refine bA ?_ _)); refine blk_put (cs := #[.int .i64 0, .int .i64 0, .int .i64 0, .int .i64 0, .int .i64 0]) ?_ 0 _ rfl; (with_reducible repeat (first | refine bN ?_ _ | refine bD ?_ | refine bA ?_ _)); exact BK139.out) hb); have n7_ := Aside0.mk (below_step (by repeat (first | (with_reducible first | exact HB.out | apply wA | apply wN | apply wD | refine wS ?_ GE126.out | refine wS ?_ GE131.out | refine wS ?_ GE132.out | refine wS ?_ GE133.out | refine wS ?_ GE134.out | refine wS ?_ GE139.out) | exact HB.out)) hb); clear HO_57; clear BK126; clear BK131; clear BK132; clear BK133; clear BK134; clear BK139; clear HB; have HO_57 := n0_; have BK126 := n1_; have BK131 := n2_; have BK132 := n3_; have BK133 := n4_; have BK134 := n5_; have BK139 := n6_; have HB := n7_; clear n0_ n1_ n2_ n3_ n4_ n5_ n6_ n7_; (try clear hb); (try clear hb2); (try clear hk); (try clear hi)))
           go_meet
           case rel => exact ⟨_, (false), (by first | rfl | (simp; done) | (simp [*]; done)), H', ⟨by have := HJ2.out; have := HK2.out; first | omega | exact Nat.le_refl _⟩, ⟨by (with_reducible repeat (first | apply Kd.R_alloc | apply Kd.R_drewN | apply Kd.R_drew)); exact Kd.R_mono HO_57.out (fun _ hk => ⟨hk.1.1, ⟨hk.1.2.1, ⟨hk.1.2.2.1, ⟨hk.1.2.2.2.1, ⟨hk.1.2.2.2.2, hk.2⟩⟩⟩⟩⟩)⟩, ⟨by (with_reducible repeat (first | refine bN ?_ _ | refine bD ?_ | refine bA ?_ _)); exact BK126.out⟩, ⟨by (with_reducible repeat (first | refine bN ?_ _ | refine bD ?_ | refine bA ?_ _)); exact BK131.out⟩, ⟨by (with_reducible repeat (first | refine bN ?_ _ | refine bD ?_ | refine bA ?_ _)); exact BK132.out⟩, ⟨by (with_reducible repeat (first | refine bN ?_ _ | refine bD ?_ | refine bA ?_ _)); exact BK133.out⟩, ⟨by (with_reducible repeat (first | refine bN ?_ _ | refine bD ?_ | refine bA ?_ _)); exact BK134.out⟩, ⟨by (with_reducible repeat (first | refine bN ?_ _ | refine bD ?_ | refine bA ?_ _)); exact BK139.out⟩, ⟨by repeat (first | (with_reducible first | exact HB.out | apply wA | apply wN | apply wD | refine wS ?_ GE126.out | refine wS ?_ GE131.out | refine wS ?_ GE132.out | refine wS ?_ GE133.out | refine wS ?_ GE134.out | refine wS ?_ GE139.out) | exact HB.out)⟩⟩
         case rest =>
          clear HC69
          try clear c1
          try clear p1
          try clear q1
          try clear hx1
          try clear c2
          try clear p2
          try clear c4
          try clear c5
          try clear c6
          try clear p6
          try clear c7
          try clear c8
          try clear c9
          try clear c10
          try clear c11
          try clear p13
          try clear q13
          try clear hx13
          try clear c22
          try clear c49
          try clear c50
          try clear c51
          try clear c52
          try clear c54
          try clear c55
          try clear c56
          try clear c58
          try clear c59
          try clear c61
          try clear p64
          try clear c66
          try clear c66b0
          try clear c67
          try clear c67b0
          try clear c68
          try clear c68b0
          try clear c71
          try clear c72
          try clear c73
          try clear c74
          try clear c75
          try clear c78
          try clear c80
          try clear c82
          try clear c83
          try clear c84
          try clear c85
          try clear c86
          try clear c89
          try clear c90
          try clear c91
          try clear c92
          try clear c97
          try clear c98
          try clear c99
          try clear c100
          try clear c101
          try clear c104
          try clear c105
          try clear c106
          try clear c107
          try clear c110
          try clear c111
          try clear c112
          try clear c113
          try clear c114
          try clear hcz102_0
          try clear hcz102_1
          try clear hcz102_2
          try clear hcz102_3
          try clear hcz102_4
          try clear hcz108_0
          try clear hcz108_1
          try clear hcz108_2
          try clear hcz108_3
          try clear hcz108_4
          try clear hcz115_0
          try clear hcz115_1
          try clear hcz115_2
          try clear hcz115_3
          try clear hcz115_4
          try clear hcz53_0
          try clear hcz53_1
          try clear hcz53_2
          try clear hcz53_3
          try clear hcz53_4
          try clear hcz57_0
          try clear hcz57_1
          try clear hcz57_2
          try clear hcz57_3
          try clear hcz57_4
          try clear hcz60_0
          try clear hcz60_1
          try clear hcz60_2
          try clear hcz60_3
          try clear hcz60_4
          try clear hcz62_0
          try clear hcz62_1
          try clear hcz62_2
          try clear hcz62_3
          try clear hcz62_4
          try clear hcz76_0
          try clear hcz76_1
          try clear hcz76_2
          try clear hcz76_3
          try clear hcz76_4
          try clear hcz87_0
          try clear hcz87_1
          try clear hcz87_2
          try clear hcz87_3
          try clear hcz87_4
          try clear hcz93_0
          try clear hcz93_1
          try clear hcz93_2
          try clear hcz93_3
          try clear hcz93_4
          try clear hcz95_0
          try clear hcz95_1
          try clear hcz95_2
          try clear hcz95_3
          try clear hcz95_4
          try clear hfz102_0
          try clear hfz102_1
          try clear hfz102_2
          try clear hfz102_3
          try clear hfz102_4
          try clear hfz108_0
          try clear hfz108_1
          try clear hfz108_2
          try clear hfz108_3
          try clear hfz108_4
          try clear hfz115_0
          try clear hfz115_1
          try clear hfz115_2
          try clear hfz115_3
          try clear hfz115_4
          try clear hfz53_0
          try clear hfz53_1
          try clear hfz53_2
          try clear hfz53_3
          try clear hfz53_4
          try clear hfz57_0
          try clear hfz57_1
          try clear hfz57_2
          try clear hfz57_3
          try clear hfz57_4
          try clear hfz60_0
          try clear hfz60_1
          try clear hfz60_2
          try clear hfz60_3
          try clear hfz60_4
          try clear hfz62_0
          try clear hfz62_1
          try clear hfz62_2
          try clear hfz62_3
          try clear hfz62_4
          try clear hfz76_0
          try clear hfz76_1
          try clear hfz76_2
          try clear hfz76_3
          try clear hfz76_4
          try clear hfz87_0
          try clear hfz87_1
          try clear hfz87_2
          try clear hfz87_3
          try clear hfz87_4
          try clear hfz93_0
          try clear hfz93_1
          try clear hfz93_2
          try clear hfz93_3
          try clear hfz93_4
          try clear hfz95_0
          try clear hfz95_1
          try clear hfz95_2
          try clear hfz95_3
          try clear hfz95_4
          try clear hx138_0
          try clear hx138_1
          try clear hx138_2
          try clear hx138_3
          try clear hx138_4
          try clear p138
          try clear p2
          try clear p6
          try clear p64
          try clear q138
          obtain ⟨kq, x75_68, rfl, HA, HJ68, HO_57, BK126, BK131, BK132, BK133, BK134, BK139, HB⟩ := hcut
          cases kq with
          | zero => exact absurd HA.out (by simp [potsherdlaw6_PlanLess.j2])
          | succ kj68 =>
           have H := HA.out; clear HA; simp only [potsherdlaw6_PlanLess.j2] at H
           by_cases c117 : x75_68 = true
           ·
            subst c117
            have H1 : (some false) = some true := by rw [if_pos rfl] at H; exact H
            clear H; have H := H1; clear H1; exact absurd H (by simp)
           ·
            replace c117 := Bool.eq_false_iff.mpr c117; subst c117
            have H1 : (potsherdlaw6_PlanLess.l0 kj68 a1 y135 (y135.length : Int) (wrap64 (x59_2 + 1)) a0_0 a0_1 a0_2 a0_3 a0_4) = some true := by rw [if_neg (show ¬ (false = true) by decide)] at H; exact H
            clear H; have H := H1; clear H1; have H' := Aside0.mk H; clear H
            go_wp2
            go_roundg kj68
            case measure => have := HJ2.out; have := HK2.out; have := HJ68.out; omega
            case rel => exact ⟨(wrap64 (x59_2 + 1)), (by first | rfl | (simp; done) | (simp [*]; done)), H', ⟨by have := HJ2.out; have := HK2.out; have := HJ68.out; omega⟩, ⟨by (with_reducible repeat (first | apply Kd.R_alloc | apply Kd.R_drewN | apply Kd.R_drew)); exact Kd.R_mono HO_57.out (fun _ hk => ⟨hk.1, ⟨hk.2.1, ⟨hk.2.2.1, ⟨hk.2.2.2.1, hk.2.2.2.2.1⟩⟩⟩⟩)⟩, ⟨by (with_reducible repeat (first | refine bN ?_ _ | refine bD ?_ | refine bA ?_ _)); exact BK126.out⟩, ⟨by (with_reducible repeat (first | refine bN ?_ _ | refine bD ?_ | refine bA ?_ _)); exact BK131.out⟩, ⟨by (with_reducible repeat (first | refine bN ?_ _ | refine bD ?_ | refine bA ?_ _)); exact BK132.out⟩, ⟨by (with_reducible repeat (first | refine bN ?_ _ | refine bD ?_ | refine bA ?_ _)); exact BK133.out⟩, ⟨by (with_reducible repeat (first | refine bN ?_ _ | refine bD ?_ | refine bA ?_ _)); exact BK134.out⟩, ⟨by repeat (first | (with_reducible first | exact HB.out | apply wA | apply wN | apply wD | refine wS ?_ GE126.out | refine wS ?_ GE131.out | refine wS ?_ GE132.out | refine wS ?_ GE133.out | refine wS ?_ GE134.out | refine wS ?_ GE139.out) | exact HB.out)⟩⟩
        ·
         rw [if_neg c68] at H; exact absurd H (by simp)
       ·
        rw [if_neg c67] at H; exact absurd H (by simp)
      ·
       rw [if_neg c66] at H; have c66b0 : decide (x59_2 < (y135.length : Int)) = false := decide_eq_false c66; clear c66; replace H := Option.bind_eq_some_iff.mp H; obtain ⟨t143, A1180, H⟩ := H; replace H : (if t143 > 0 then (if a1 < a0_0 then ((plan_Room.f a0_0 a0_1 a0_2 a0_3 a0_4 (wrap64 (a1 + 1))).bind fun t144 => (potsherdlaw6_PlanLess.j3 k2 a1 (t144 != (wrap64 (t143 - a0_1))) a0_0 a0_1 a0_2 a0_3 a0_4)) else (potsherdlaw6_PlanLess.j3 k2 a1 false a0_0 a0_1 a0_2 a0_3 a0_4)) else (potsherdlaw6_PlanLess.j3 k2 a1 false a0_0 a0_1 a0_2 a0_3 a0_4)) = some true := H; have A118 := Aside0.mk A1180; clear A1180; have HC119 := Aside0.mk H; clear H; have hnb120 := NB126_131.out; have hnc120 := NB131_126.out; have hnb121 := NB126_132.out; have hnc121 := NB132_126.out; have hnb122 := NB126_133.out; have hnc122 := NB133_126.out; have hnb123 := NB126_134.out; have hnc123 := NB134_126.out; have hcz124_0 : wr.cell? ⟨gb126, 0, none⟩ = some (.int .i64 a0_0) := (bC BK126.out 0).trans rfl; have hcz124_1 : wr.cell? ⟨gb126, 1, none⟩ = some (.int .i64 a0_1) := (bC BK126.out 1).trans rfl; have hcz124_2 : wr.cell? ⟨gb126, 2, none⟩ = some (.int .i64 a0_2) := (bC BK126.out 2).trans rfl; have hcz124_3 : wr.cell? ⟨gb126, 3, none⟩ = some (.int .i64 a0_3) := (bC BK126.out 3).trans rfl; have hcz124_4 : wr.cell? ⟨gb126, 4, none⟩ = some (.int .i64 a0_4) := (bC BK126.out 4).trans rfl; have hfz124_0 := bZ BK126.out 0; have hfz124_1 := bZ BK126.out 1; have hfz124_2 := bZ BK126.out 2; have hfz124_3 := bZ BK126.out 3; have hfz124_4 := bZ BK126.out 4
       go_upto_region 15 with (first | ((with_reducible refine gate_callee (f := 26) rfl ?_); refine goesL_ (some 79) rfl rfl Try.func26 (by kernel_rfl) rfl #[.agg #[.int .i64 a0_0, .int .i64 a0_1, .int .i64 a0_2, .int .i64 a0_3, .int .i64 a0_4], .int .i64 a1] rfl (by (try simp only [List.map_toArray, List.map_cons, List.map_nil]); first | done | rfl | (simp only [List.length_drop, List.length_take]; rfl)) ?_; (with_reducible refine (plan_Room.calls a0_0 a0_1 a0_2 a0_3 a0_4 a1 t143 _ A118.out).mono ?_); rintro e w125 ⟨rfl, hb⟩; refine ⟨_, rfl, ?_⟩; have n0_ := Aside0.mk (Kd.R_below (by (with_reducible repeat (first | apply Kd.R_alloc | apply Kd.R_drewN | apply Kd.R_drew)); exact HO_57.out) hb); have n1_ := Aside0.mk (bB (g := gb126) (o := .cells #[.int .i64 a0_0, .int .i64 a0_1, .int .i64 a0_2, .int .i64 a0_3, .int .i64 a0_4] 35 (0, 0)) (by (with_reducible repeat (first | refine bN ?_ _ | refine bD ?_ | refine bA ?_ _)); exact BK126.out) hb); have n2_ := Aside0.mk (bB (g := gb131) (o := .cells #[.int .i64 (wrap64 (a0_0 + 1)), .int .i64 a0_1, .int .i64 a0_2, .int .i64 a0_3, .int .i64 a0_4] 35 (0, 0)) (by (with_reducible repeat (first | refine bN ?_ _ | refine bD ?_ | refine bA ?_ _)); exact BK131.out) hb); have n3_ := Aside0.mk (bB (g := gb132) (o := .cells #[.int .i64 a0_0, .int .i64 (wrap64 (a0_1 + 1)), .int .i64 a0_2, .int .i64 a0_3, .int .i64 a0_4] 35 (0, 0)) (by (with_reducible repeat (first | refine bN ?_ _ | refine bD ?_ | refine bA ?_ _)); exact BK132.out) hb); have n4_ := Aside0.mk (bB (g := gb133) (o := .cells #[.int .i64 a0_0, .int .i64 a0_1, .int .i64 (wrap64 (a0_2 - 1)), .int .i64 a0_3, .int .i64 a0_4] 35 (0, 0)) (by (with_reducible repeat (first | refine bN ?_ _ | refine bD ?_ | refine bA ?_ _)); exact BK133.out) hb); have n5_ := Aside0.mk (bB (g := gb134) (o := .cells #[.int .i64 a0_0, .int .i64 a0_1, .int .i64 a0_2, .int .i64 (wrap64 (a0_3 - 1)), .int .i64 a0_4] 35 (0, 0)) (by (with_reducible repeat (first | refine bN ?_ _ | refine bD ?_ | refine bA ?_ _)); exact BK134.out) hb); have n6_ := Aside0.mk (below_step (by repeat (first | (with_reducible first | exact HB.out | apply wA | apply wN | apply wD | refine wS ?_ GE126.out | refine wS ?_ GE131.out | refine wS ?_ GE132.out | refine wS ?_ GE133.out | refine wS ?_ GE134.out) | exact HB.out)) hb); clear HO_57; clear BK126; clear BK131; clear BK132; clear BK133; clear BK134; clear HB; have HO_57 := n0_; have BK126 := n1_; have BK131 := n2_; have BK132 := n3_; have BK133 := n4_; have BK134 := n5_; have HB := n6_; clear n0_ n1_ n2_ n3_ n4_ n5_ n6_; (try clear hb); (try clear hb2); (try clear hk); (try clear hi)))
       (try simp only [Act.put, lT, l0_, lS])
       go_cut [98] (fun v98 wc => ∃ (kq : Nat) (x98_118 : Bool), v98 = .bool x98_118 ∧ Aside0 (potsherdlaw6_PlanLess.j3 kq a1 x98_118 a0_0 a0_1 a0_2 a0_3 a0_4 = some true) ∧ Aside0 (kq ≤ k2) ∧ Aside0 (wc.heap[gb126]? = some (.cells #[.int .i64 a0_0, .int .i64 a0_1, .int .i64 a0_2, .int .i64 a0_3, .int .i64 a0_4] 35 (0, 0))) ∧ Aside0 (wc.heap[gb131]? = some (.cells #[.int .i64 (wrap64 (a0_0 + 1)), .int .i64 a0_1, .int .i64 a0_2, .int .i64 a0_3, .int .i64 a0_4] 35 (0, 0))) ∧ Aside0 (wc.heap[gb132]? = some (.cells #[.int .i64 a0_0, .int .i64 (wrap64 (a0_1 + 1)), .int .i64 a0_2, .int .i64 a0_3, .int .i64 a0_4] 35 (0, 0))) ∧ Aside0 (wc.heap[gb133]? = some (.cells #[.int .i64 a0_0, .int .i64 a0_1, .int .i64 (wrap64 (a0_2 - 1)), .int .i64 a0_3, .int .i64 a0_4] 35 (0, 0))) ∧ Aside0 (wc.heap[gb134]? = some (.cells #[.int .i64 a0_0, .int .i64 a0_1, .int .i64 a0_2, .int .i64 (wrap64 (a0_3 - 1)), .int .i64 a0_4] 35 (0, 0))) ∧ Aside0 (Below w.heap.size w wc))
       case first =>
        have H := HC119.out; clear HC119
        by_cases c126 : t143 > 0
        ·
         rw [if_pos c126] at H; have c126b0 : decide (0 < t143) = true := decide_eq_true c126; clear c126
         (first | rw [c126b0] | (simp only [i64_w, i32_w]; rw [c126b0]) | skip)
         by_cases c127 : a1 < a0_0
         ·
          rw [if_pos c127] at H; have c127b0 : decide (a1 < a0_0) = true := decide_eq_true c127; clear c127; replace H := Option.bind_eq_some_iff.mp H; obtain ⟨t144, A1280, H⟩ := H; replace H : (potsherdlaw6_PlanLess.j3 k2 a1 (t144 != (wrap64 (t143 - a0_1))) a0_0 a0_1 a0_2 a0_3 a0_4) = some true := H; have A128 := Aside0.mk A1280; clear A1280; have H' := Aside0.mk H; clear H
          try go_wp2
          have n0_ := Aside0.mk (Kd.R_drew HO_57.out); have n1_ := Aside0.mk (bD BK126.out); have n2_ := Aside0.mk (bD BK131.out); have n3_ := Aside0.mk (bD BK132.out); have n4_ := Aside0.mk (bD BK133.out); have n5_ := Aside0.mk (bD BK134.out); have n6_ := Aside0.mk (wD HB.out); clear HO_57; clear BK126; clear BK131; clear BK132; clear BK133; clear BK134; clear HB; have HO_57 := n0_; have BK126 := n1_; have BK131 := n2_; have BK132 := n3_; have BK133 := n4_; have BK134 := n5_; have HB := n6_; clear n0_ n1_ n2_ n3_ n4_ n5_ n6_; refine start_ (n := 19) (S := fun w' => w'.cell? ⟨gb126, 0, none⟩ = some (.int .i64 a0_0) ∧ w'.cell? ⟨gb126, 1, none⟩ = some (.int .i64 a0_1) ∧ w'.cell? ⟨gb126, 2, none⟩ = some (.int .i64 a0_2) ∧ w'.cell? ⟨gb126, 3, none⟩ = some (.int .i64 a0_3) ∧ w'.cell? ⟨gb126, 4, none⟩ = some (.int .i64 a0_4)) (ds := []) B_13 (by kernel_rfl) rfl rfl ⟨(bC BK126.out 0).trans rfl, (bC BK126.out 1).trans rfl, (bC BK126.out 2).trans rfl, (bC BK126.out 3).trans rfl, (bC BK126.out 4).trans rfl⟩ (fun hHeld => ?_); refine with_tabW potsherdlaw6_PlanLess.tab15 potsherdlaw6_PlanLess.bits15 (fun HT_ HW_ => ?_); generalize w125.drew = w129 at HO_57 BK126 BK131 BK132 BK133 BK134 HB hHeld ⊢; refine pure_ (i := 0) (N := some 80) (v := ?_) (a' := ?_) B_14 rfl rfl (any_of HT_.out (by kernel_rfl)) (fun _ _ _ h => h) (Or.inl ⟨by rfl, ?_⟩) ?_ ?_; rotate_left
          ·
           intro w'; go_simp; with_reducible rfl
          rotate_left
          ·
           simp only [Act.put, lT, l0_, lS, i64_w, i32_w]; rfl
          refine pure_ (i := 1) (N := some 81) (v := ?_) (a' := ?_) B_15 rfl rfl (any_of HT_.out (by kernel_rfl)) (fun _ _ _ h => h) (Or.inl ⟨by rfl, ?_⟩) ?_ ?_; rotate_left
          ·
           intro w'; go_simp; with_reducible rfl
          rotate_left
          ·
           simp only [Act.put, lT, l0_, lS, i64_w, i32_w]; rfl
          refine pure_ (i := 2) (N := some 82) (v := ?_) (a' := ?_) B_16 rfl rfl (any_of HT_.out (by kernel_rfl)) (fun _ _ _ h => h) (Or.inl ⟨by rfl, ?_⟩) ?_ ?_; rotate_left
          ·
           intro w'; go_simp; with_reducible rfl
          rotate_left
          ·
           simp only [Act.put, lT, l0_, lS, i64_w, i32_w]; rfl
          refine pure_ (i := 3) (N := some 83) (v := ?_) (a' := ?_) B_17 rfl rfl (any_of HT_.out (by kernel_rfl)) (fun _ _ _ h => h) (Or.inl ⟨by rfl, ?_⟩) ?_ ?_; rotate_left
          ·
           intro w'; go_simp; with_reducible rfl
          rotate_left
          ·
           simp only [Act.put, lT, l0_, lS, i64_w, i32_w]; rfl
          refine pure_ (i := 4) (N := some 84) (v := ?_) (a' := ?_) B_18 rfl rfl (any_of HT_.out (by kernel_rfl)) (fun _ _ _ h => h) (Or.inl ⟨by rfl, ?_⟩) ?_ ?_; rotate_left
          ·
           intro w'; go_simp; with_reducible rfl
          rotate_left
          ·
           simp only [Act.put, lT, l0_, lS, i64_w, i32_w]; rfl
          refine take_ (i := 5) (N := some 85) (v := ?_) (a' := ?_) B_19 rfl rfl (take_ofW HT_.out HW_.out (by kernel_rfl)) (fun _ _ _ h => h) (Or.inl ⟨by rfl, ?_⟩) hHeld ?_ ?_; rotate_left
          ·
           rintro w' ⟨s0, s1, s2, s3, s4⟩; go_simp; with_reducible rfl
          rotate_left
          ·
           simp only [Act.put, lT, l0_, lS, i64_w, i32_w]; rfl
          refine pure_ (i := 6) (N := some 86) (v := ?_) (a' := ?_) B_20 rfl rfl (any_of HT_.out (by kernel_rfl)) (fun _ _ _ h => h) (Or.inl ⟨by rfl, ?_⟩) ?_ ?_; rotate_left
          ·
           intro w'; go_simp; with_reducible rfl
          rotate_left
          ·
           simp only [Act.put, lT, l0_, lS, i64_w, i32_w]; rfl
          refine pure_ (i := 7) (N := some 87) (v := ?_) (a' := ?_) B_21 rfl rfl (any_of HT_.out (by kernel_rfl)) (fun _ _ _ h => h) (Or.inl ⟨by rfl, ?_⟩) ?_ ?_; rotate_left
          ·
           intro w'; go_simp; with_reducible rfl
          rotate_left
          ·
           simp only [Act.put, lT, l0_, lS, i64_w, i32_w]; rfl
          refine pure_ (i := 8) (N := some 88) (v := ?_) (a' := ?_) B_22 rfl rfl (any_of HT_.out (by kernel_rfl)) (fun _ _ _ h => h) (Or.inl ⟨by rfl, ?_⟩) ?_ ?_; rotate_left
          ·
           intro w'; go_simp; with_reducible rfl
          rotate_left
          ·
           simp only [Act.put, lT, l0_, lS, i64_w, i32_w]; rfl
          refine pure_ (i := 10) (N := some 90) (v := ?_) (a' := ?_) B_23 rfl rfl (any_of HT_.out (by kernel_rfl)) (fun _ _ _ h => h) (Or.inl ⟨by rfl, ?_⟩) ?_ ?_; rotate_left
          ·
           intro w'; go_simp; with_reducible rfl
          rotate_left
          ·
           simp only [Act.put, lT, l0_, lS, i64_w, i32_w]; rfl
          refine pure_ (i := 11) (N := some 91) (v := ?_) (a' := ?_) B_24 rfl rfl (any_of HT_.out (by kernel_rfl)) (fun _ _ _ h => h) (Or.inl ⟨by rfl, ?_⟩) ?_ ?_; rotate_left
          ·
           intro w'; go_simp; with_reducible rfl
          rotate_left
          ·
           simp only [Act.put, lT, l0_, lS, i64_w, i32_w]; rfl
          refine pure_ (i := 13) (N := some 93) (v := ?_) (a' := ?_) B_25 rfl rfl (any_of HT_.out (by kernel_rfl)) (fun _ _ _ h => h) (Or.inl ⟨by rfl, ?_⟩) ?_ ?_; rotate_left
          ·
           intro w'; go_simp; with_reducible rfl
          rotate_left
          ·
           simp only [Act.put, lT, l0_, lS, i64_w, i32_w]; rfl
          refine pure_ (i := 14) (N := some 94) (v := ?_) (a' := ?_) B_26 rfl rfl (any_of HT_.out (by kernel_rfl)) (fun _ _ _ h => h) (Or.inl ⟨by rfl, ?_⟩) ?_ ?_; rotate_left
          ·
           intro w'; go_simp; with_reducible rfl
          rotate_left
          ·
           simp only [Act.put, lT, l0_, lS, i64_w, i32_w]; rfl
          refine take_ (i := 9) (N := some 89) (v := ?_) (a' := ?_) B_27 rfl rfl (take_ofW HT_.out HW_.out (by kernel_rfl)) (fun _ _ _ h => h) (Or.inl ⟨by rfl, ?_⟩) hHeld ?_ ?_; rotate_left
          ·
           rintro w' ⟨s0, s1, s2, s3, s4⟩; go_simp; with_reducible rfl
          rotate_left
          ·
           simp only [Act.put, lT, l0_, lS, i64_w, i32_w]; rfl
          refine take_ (i := 15) (N := some 95) (v := ?_) (a' := ?_) B_28 rfl rfl (take_ofW HT_.out HW_.out (by kernel_rfl)) (fun _ _ _ h => h) (Or.inl ⟨by rfl, ?_⟩) hHeld ?_ ?_; rotate_left
          ·
           rintro w' ⟨s0, s1, s2, s3, s4⟩; go_simp; with_reducible rfl
          rotate_left
          ·
           simp only [Act.put, lT, l0_, lS, i64_w, i32_w]; rfl
          refine pure_ (i := 16) (N := some 96) (v := ?_) (a' := ?_) B_29 rfl rfl (any_of HT_.out (by kernel_rfl)) (fun _ _ _ h => h) (Or.inl ⟨by rfl, ?_⟩) ?_ ?_; rotate_left
          ·
           intro w'; go_simp; with_reducible rfl
          rotate_left
          ·
           simp only [Act.put, lT, l0_, lS, i64_w, i32_w]; rfl
          refine one_ (i := 12) (N := some 92) B_30 rfl rfl (one_of HT_.out (by kernel_rfl)) (by decide) (fun K hK => ?_); refine goes_ Try.func26 (by kernel_rfl) rfl #[.agg #[.int .i64 a0_0, .int .i64 a0_1, .int .i64 a0_2, .int .i64 a0_3, .int .i64 a0_4], .int .i64 (wrap64 (a1 + 1))] (by rfl) rfl rfl (by (try simp only [List.map_toArray, List.map_cons, List.map_nil]); first | done | rfl | (simp only [List.length_drop, List.length_take]; rfl)) ?_
          with_reducible refine (plan_Room.calls a0_0 a0_1 a0_2 a0_3 a0_4 (wrap64 (a1 + 1)) t144 _ A128.out).mono ?_
          rintro e w130 ⟨rfl, hb⟩; refine ⟨_, rfl, ?_⟩; have n0_ := Aside0.mk (Kd.R_below (by (with_reducible repeat (first | apply Kd.R_alloc | apply Kd.R_drewN | apply Kd.R_drew)); exact HO_57.out) hb)
          have n1_ := Aside0.mk (bB (g := gb126) (o := .cells #[.int .i64 a0_0, .int .i64 a0_1, .int .i64 a0_2, .int .i64 a0_3, .int .i64 a0_4] 35 (0, 0)) (by (with_reducible repeat (first | refine bN ?_ _ | refine bD ?_ | refine bA ?_ _)); exact BK126.out) hb)
          have n2_ := Aside0.mk (bB (g := gb131) (o := .cells #[.int .i64 (wrap64 (a0_0 + 1)), .int .i64 a0_1, .int .i64 a0_2, .int .i64 a0_3, .int .i64 a0_4] 35 (0, 0)) (by (with_reducible repeat (first | refine bN ?_ _ | refine bD ?_ | refine bA ?_ _)); exact BK131.out) hb)
          have n3_ := Aside0.mk (bB (g := gb132) (o := .cells #[.int .i64 a0_0, .int .i64 (wrap64 (a0_1 + 1)), .int .i64 a0_2, .int .i64 a0_3, .int .i64 a0_4] 35 (0, 0)) (by (with_reducible repeat (first | refine bN ?_ _ | refine bD ?_ | refine bA ?_ _)); exact BK132.out) hb)
          have n4_ := Aside0.mk (bB (g := gb133) (o := .cells #[.int .i64 a0_0, .int .i64 a0_1, .int .i64 (wrap64 (a0_2 - 1)), .int .i64 a0_3, .int .i64 a0_4] 35 (0, 0)) (by (with_reducible repeat (first | refine bN ?_ _ | refine bD ?_ | refine bA ?_ _)); exact BK133.out) hb)
          have n5_ := Aside0.mk (bB (g := gb134) (o := .cells #[.int .i64 a0_0, .int .i64 a0_1, .int .i64 a0_2, .int .i64 (wrap64 (a0_3 - 1)), .int .i64 a0_4] 35 (0, 0)) (by (with_reducible repeat (first | refine bN ?_ _ | refine bD ?_ | refine bA ?_ _)); exact BK134.out) hb)
          have n6_ := Aside0.mk (below_step (by repeat (first | (with_reducible first | exact HB.out | apply wA | apply wN | apply wD | refine wS ?_ GE126.out | refine wS ?_ GE131.out | refine wS ?_ GE132.out | refine wS ?_ GE133.out | refine wS ?_ GE134.out) | exact HB.out)) hb); clear HO_57; clear BK126; clear BK131; clear BK132; clear BK133; clear BK134; clear HB; have HO_57 := n0_; have BK126 := n1_; have BK131 := n2_; have BK132 := n3_; have BK133 := n4_; have BK134 := n5_; have HB := n6_; clear n0_ n1_ n2_ n3_ n4_ n5_ n6_
          (try clear hb)
          (try clear hb2)
          (try clear hk)
          (try clear hi)
          refine hK.out _ _ ⟨(bC BK126.out 0).trans rfl, (bC BK126.out 1).trans rfl, (bC BK126.out 2).trans rfl, (bC BK126.out 3).trans rfl, (bC BK126.out 4).trans rfl⟩ (fun hHeld => ?_); clear hK K; refine norm_ (a' := ?_) ?_ ?_; rotate_left
          ·
           show Act.put _ (some 92) _ = _
           simp only [Act.put, lT, l0_, lS, i64_w, i32_w]; rfl
          refine pure_ (i := 17) (N := some 97) (v := ?_) (a' := ?_) B_31 rfl rfl (any_of HT_.out (by kernel_rfl)) (fun _ _ _ h => h) (Or.inl ⟨by rfl, ?_⟩) ?_ ?_; rotate_left
          ·
           intro w'; go_simp; with_reducible rfl
          rotate_left
          ·
           simp only [Act.put, lT, l0_, lS, i64_w, i32_w]; rfl
          refine pure_ (i := 18) (N := some 98) (v := ?_) (a' := ?_) B_32 rfl rfl (any_of HT_.out (by kernel_rfl)) (fun _ _ _ h => h) (Or.inl ⟨by rfl, ?_⟩) ?_ ?_; rotate_left
          ·
           intro w'; go_simp; with_reducible rfl
          rotate_left
          ·
           simp only [Act.put, lT, l0_, lS, i64_w, i32_w]; rfl
          refine done_ (done_of HT_.out (by kernel_rfl)) ?_
          try go_wp2
          go_meet
          case rel => exact ⟨_, ((t144 != (wrap64 (t143 - a0_1)))), (by first | rfl | (simp; done) | (simp [*]; done)), H', ⟨by have := HJ2.out; have := HK2.out; first | omega | exact Nat.le_refl _⟩, ⟨by (with_reducible repeat (first | refine bN ?_ _ | refine bD ?_ | refine bA ?_ _)); exact BK126.out⟩, ⟨by (with_reducible repeat (first | refine bN ?_ _ | refine bD ?_ | refine bA ?_ _)); exact BK131.out⟩, ⟨by (with_reducible repeat (first | refine bN ?_ _ | refine bD ?_ | refine bA ?_ _)); exact BK132.out⟩, ⟨by (with_reducible repeat (first | refine bN ?_ _ | refine bD ?_ | refine bA ?_ _)); exact BK133.out⟩, ⟨by (with_reducible repeat (first | refine bN ?_ _ | refine bD ?_ | refine bA ?_ _)); exact BK134.out⟩, ⟨by repeat (first | (with_reducible first | exact HB.out | apply wA | apply wN | apply wD | refine wS ?_ GE126.out | refine wS ?_ GE131.out | refine wS ?_ GE132.out | refine wS ?_ GE133.out | refine wS ?_ GE134.out) | exact HB.out)⟩⟩
         ·
          rw [if_neg c127] at H; have c127b0 : decide (a1 < a0_0) = false := decide_eq_false c127; clear c127; have H' := Aside0.mk H; clear H
          try go_wp2
          have n0_ := Aside0.mk (Kd.R_drew HO_57.out); have n1_ := Aside0.mk (bD BK126.out); have n2_ := Aside0.mk (bD BK131.out); have n3_ := Aside0.mk (bD BK132.out); have n4_ := Aside0.mk (bD BK133.out); have n5_ := Aside0.mk (bD BK134.out); have n6_ := Aside0.mk (wD HB.out); clear HO_57; clear BK126; clear BK131; clear BK132; clear BK133; clear BK134; clear HB; have HO_57 := n0_; have BK126 := n1_; have BK131 := n2_; have BK132 := n3_; have BK133 := n4_; have BK134 := n5_; have HB := n6_; clear n0_ n1_ n2_ n3_ n4_ n5_ n6_; refine start_ (n := 19) (S := fun w' => w'.cell? ⟨gb126, 0, none⟩ = some (.int .i64 a0_0) ∧ w'.cell? ⟨gb126, 1, none⟩ = some (.int .i64 a0_1) ∧ w'.cell? ⟨gb126, 2, none⟩ = some (.int .i64 a0_2) ∧ w'.cell? ⟨gb126, 3, none⟩ = some (.int .i64 a0_3) ∧ w'.cell? ⟨gb126, 4, none⟩ = some (.int .i64 a0_4)) (ds := []) B_13 (by kernel_rfl) rfl rfl ⟨(bC BK126.out 0).trans rfl, (bC BK126.out 1).trans rfl, (bC BK126.out 2).trans rfl, (bC BK126.out 3).trans rfl, (bC BK126.out 4).trans rfl⟩ (fun hHeld => ?_); refine with_tabW potsherdlaw6_PlanLess.tab15 potsherdlaw6_PlanLess.bits15 (fun HT_ HW_ => ?_); generalize w125.drew = w131 at HO_57 BK126 BK131 BK132 BK133 BK134 HB hHeld ⊢; refine pure_ (i := 0) (N := some 80) (v := ?_) (a' := ?_) B_14 rfl rfl (any_of HT_.out (by kernel_rfl)) (fun _ _ _ h => h) (Or.inl ⟨by rfl, ?_⟩) ?_ ?_; rotate_left
          ·
           intro w'; go_simp; with_reducible rfl
          rotate_left
          ·
           simp only [Act.put, lT, l0_, lS, i64_w, i32_w]; rfl
          refine pure_ (i := 1) (N := some 81) (v := ?_) (a' := ?_) B_15 rfl rfl (any_of HT_.out (by kernel_rfl)) (fun _ _ _ h => h) (Or.inl ⟨by rfl, ?_⟩) ?_ ?_; rotate_left
          ·
           intro w'; go_simp; with_reducible rfl
          rotate_left
          ·
           simp only [Act.put, lT, l0_, lS, i64_w, i32_w]; rfl
          refine pure_ (i := 2) (N := some 82) (v := ?_) (a' := ?_) B_16 rfl rfl (any_of HT_.out (by kernel_rfl)) (fun _ _ _ h => h) (Or.inl ⟨by rfl, ?_⟩) ?_ ?_; rotate_left
          ·
           intro w'; go_simp; with_reducible rfl
          rotate_left
          ·
           simp only [Act.put, lT, l0_, lS, i64_w, i32_w]; rfl
          refine pure_ (i := 3) (N := some 83) (v := ?_) (a' := ?_) B_17 rfl rfl (any_of HT_.out (by kernel_rfl)) (fun _ _ _ h => h) (Or.inl ⟨by rfl, ?_⟩) ?_ ?_; rotate_left
          ·
           intro w'; go_simp; with_reducible rfl
          rotate_left
          ·
           simp only [Act.put, lT, l0_, lS, i64_w, i32_w]; rfl
          refine pure_ (i := 4) (N := some 84) (v := ?_) (a' := ?_) B_18 rfl rfl (any_of HT_.out (by kernel_rfl)) (fun _ _ _ h => h) (Or.inl ⟨by rfl, ?_⟩) ?_ ?_; rotate_left
          ·
           intro w'; go_simp; with_reducible rfl
          rotate_left
          ·
           simp only [Act.put, lT, l0_, lS, i64_w, i32_w]; rfl
          refine take_ (i := 5) (N := some 85) (v := ?_) (a' := ?_) B_19 rfl rfl (take_ofW HT_.out HW_.out (by kernel_rfl)) (fun _ _ _ h => h) (Or.inl ⟨by rfl, ?_⟩) hHeld ?_ ?_; rotate_left
          ·
           rintro w' ⟨s0, s1, s2, s3, s4⟩; go_simp; with_reducible rfl
          rotate_left
          ·
           simp only [Act.put, lT, l0_, lS, i64_w, i32_w]; rfl
          refine pure_ (i := 6) (N := some 86) (v := ?_) (a' := ?_) B_20 rfl rfl (any_of HT_.out (by kernel_rfl)) (fun _ _ _ h => h) (Or.inl ⟨by rfl, ?_⟩) ?_ ?_; rotate_left
          ·
           intro w'; go_simp; with_reducible rfl
          rotate_left
          ·
           simp only [Act.put, lT, l0_, lS, i64_w, i32_w]; rfl
          refine pure_ (i := 7) (N := some 87) (v := ?_) (a' := ?_) B_21 rfl rfl (any_of HT_.out (by kernel_rfl)) (fun _ _ _ h => h) (Or.inl ⟨by rfl, ?_⟩) ?_ ?_; rotate_left
          ·
           intro w'; go_simp; with_reducible rfl
          rotate_left
          ·
           simp only [Act.put, lT, l0_, lS, i64_w, i32_w]; rfl
          refine pure_ (i := 8) (N := some 88) (v := ?_) (a' := ?_) B_22 rfl rfl (any_of HT_.out (by kernel_rfl)) (fun _ _ _ h => h) (Or.inl ⟨by rfl, ?_⟩) ?_ ?_; rotate_left
          ·
           intro w'; go_simp; with_reducible rfl
          rotate_left
          ·
           simp only [Act.put, lT, l0_, lS, i64_w, i32_w]; rfl
          refine pure_ (i := 9) (N := some 89) (v := undef) (a' := ?_) B_33 rfl rfl (any_of HT_.out (by kernel_rfl)) (fun _ _ _ h => h) (Or.inr ⟨by rfl, rfl⟩) ?_ ?_; rotate_left
          ·
           simp only [Act.put, lT, l0_, lS, i64_w, i32_w]; rfl
          refine pure_ (i := 10) (N := some 90) (v := undef) (a' := ?_) B_34 rfl rfl (any_of HT_.out (by kernel_rfl)) (fun _ _ _ h => h) (Or.inr ⟨by rfl, rfl⟩) ?_ ?_; rotate_left
          ·
           simp only [Act.put, lT, l0_, lS, i64_w, i32_w]; rfl
          refine pure_ (i := 11) (N := some 91) (v := undef) (a' := ?_) B_35 rfl rfl (any_of HT_.out (by kernel_rfl)) (fun _ _ _ h => h) (Or.inr ⟨by rfl, rfl⟩) ?_ ?_; rotate_left
          ·
           simp only [Act.put, lT, l0_, lS, i64_w, i32_w]; rfl
          refine pure_ (i := 12) (N := some 92) (v := undef) (a' := ?_) B_36 rfl rfl (any_of HT_.out (by kernel_rfl)) (fun _ _ _ h => h) (Or.inr ⟨by rfl, rfl⟩) ?_ ?_; rotate_left
          ·
           simp only [Act.put, lT, l0_, lS, i64_w, i32_w]; rfl
          refine pure_ (i := 13) (N := some 93) (v := undef) (a' := ?_) B_37 rfl rfl (any_of HT_.out (by kernel_rfl)) (fun _ _ _ h => h) (Or.inr ⟨by rfl, rfl⟩) ?_ ?_; rotate_left
          ·
           simp only [Act.put, lT, l0_, lS, i64_w, i32_w]; rfl
          refine pure_ (i := 14) (N := some 94) (v := undef) (a' := ?_) B_38 rfl rfl (any_of HT_.out (by kernel_rfl)) (fun _ _ _ h => h) (Or.inr ⟨by rfl, rfl⟩) ?_ ?_; rotate_left
          ·
           simp only [Act.put, lT, l0_, lS, i64_w, i32_w]; rfl
          refine pure_ (i := 15) (N := some 95) (v := undef) (a' := ?_) B_39 rfl rfl (any_of HT_.out (by kernel_rfl)) (fun _ _ _ h => h) (Or.inr ⟨by rfl, rfl⟩) ?_ ?_; rotate_left
          ·
           simp only [Act.put, lT, l0_, lS, i64_w, i32_w]; rfl
          refine pure_ (i := 16) (N := some 96) (v := undef) (a' := ?_) B_30 rfl rfl (any_of HT_.out (by kernel_rfl)) (fun _ _ _ h => h) (Or.inr ⟨by rfl, rfl⟩) ?_ ?_; rotate_left
          ·
           simp only [Act.put, lT, l0_, lS, i64_w, i32_w]; rfl
          refine pure_ (i := 17) (N := some 97) (v := undef) (a' := ?_) B_31 rfl rfl (any_of HT_.out (by kernel_rfl)) (fun _ _ _ h => h) (Or.inr ⟨by rfl, rfl⟩) ?_ ?_; rotate_left
          ·
           simp only [Act.put, lT, l0_, lS, i64_w, i32_w]; rfl
          refine pure_ (i := 18) (N := some 98) (v := ?_) (a' := ?_) B_32 rfl rfl (any_of HT_.out (by kernel_rfl)) (fun _ _ _ h => h) (Or.inl ⟨by rfl, ?_⟩) ?_ ?_; rotate_left
          ·
           intro w'; go_simp; with_reducible rfl
          rotate_left
          ·
           simp only [Act.put, lT, l0_, lS, i64_w, i32_w]; rfl
          refine done_ (done_of HT_.out (by kernel_rfl)) ?_
          try go_wp2
          go_meet
          case rel => exact ⟨_, (false), (by first | rfl | (simp; done) | (simp [*]; done)), H', ⟨by have := HJ2.out; have := HK2.out; first | omega | exact Nat.le_refl _⟩, ⟨by (with_reducible repeat (first | refine bN ?_ _ | refine bD ?_ | refine bA ?_ _)); exact BK126.out⟩, ⟨by (with_reducible repeat (first | refine bN ?_ _ | refine bD ?_ | refine bA ?_ _)); exact BK131.out⟩, ⟨by (with_reducible repeat (first | refine bN ?_ _ | refine bD ?_ | refine bA ?_ _)); exact BK132.out⟩, ⟨by (with_reducible repeat (first | refine bN ?_ _ | refine bD ?_ | refine bA ?_ _)); exact BK133.out⟩, ⟨by (with_reducible repeat (first | refine bN ?_ _ | refine bD ?_ | refine bA ?_ _)); exact BK134.out⟩, ⟨by repeat (first | (with_reducible first | exact HB.out | apply wA | apply wN | apply wD | refine wS ?_ GE126.out | refine wS ?_ GE131.out | refine wS ?_ GE132.out | refine wS ?_ GE133.out | refine wS ?_ GE134.out) | exact HB.out)⟩⟩
        ·
         rw [if_neg c126] at H; have c126b0 : decide (0 < t143) = false := decide_eq_false c126; clear c126
         (first | rw [c126b0] | (simp only [i64_w, i32_w]; rw [c126b0]) | skip)
         have H' := Aside0.mk H; clear H
         try go_wp2
         have n0_ := Aside0.mk (Kd.R_drew HO_57.out); have n1_ := Aside0.mk (bD BK126.out); have n2_ := Aside0.mk (bD BK131.out); have n3_ := Aside0.mk (bD BK132.out); have n4_ := Aside0.mk (bD BK133.out); have n5_ := Aside0.mk (bD BK134.out); have n6_ := Aside0.mk (wD HB.out); clear HO_57; clear BK126; clear BK131; clear BK132; clear BK133; clear BK134; clear HB; have HO_57 := n0_; have BK126 := n1_; have BK131 := n2_; have BK132 := n3_; have BK133 := n4_; have BK134 := n5_; have HB := n6_; clear n0_ n1_ n2_ n3_ n4_ n5_ n6_; refine start_ (n := 19) (S := fun w' => True) (ds := []) B_13 (by kernel_rfl) rfl rfl trivial (fun hHeld => ?_); refine with_tabW potsherdlaw6_PlanLess.tab15 potsherdlaw6_PlanLess.bits15 (fun HT_ HW_ => ?_); generalize w125.drew = w132 at HO_57 BK126 BK131 BK132 BK133 BK134 HB hHeld ⊢; refine pure_ (i := 0) (N := some 80) (v := ?_) (a' := ?_) B_14 rfl rfl (any_of HT_.out (by kernel_rfl)) (fun _ _ _ h => h) (Or.inl ⟨by rfl, ?_⟩) ?_ ?_; rotate_left
         ·
          intro w'; go_simp; with_reducible rfl
         rotate_left
         ·
          simp only [Act.put, lT, l0_, lS, i64_w, i32_w]; rfl
         refine pure_ (i := 1) (N := some 81) (v := ?_) (a' := ?_) B_15 rfl rfl (any_of HT_.out (by kernel_rfl)) (fun _ _ _ h => h) (Or.inl ⟨by rfl, ?_⟩) ?_ ?_; rotate_left
         ·
          intro w'; go_simp; with_reducible rfl
         rotate_left
         ·
          simp only [Act.put, lT, l0_, lS, i64_w, i32_w]; rfl
         refine pure_ (i := 2) (N := some 82) (v := ?_) (a' := ?_) B_16 rfl rfl (any_of HT_.out (by kernel_rfl)) (fun _ _ _ h => h) (Or.inl ⟨by rfl, ?_⟩) ?_ ?_; rotate_left
         ·
          intro w'; go_simp; with_reducible rfl
         rotate_left
         ·
          simp only [Act.put, lT, l0_, lS, i64_w, i32_w]; rfl
         refine pure_ (i := 3) (N := some 83) (v := undef) (a' := ?_) B_17 rfl rfl (any_of HT_.out (by kernel_rfl)) (fun _ _ _ h => h) (Or.inr ⟨by rfl, rfl⟩) ?_ ?_; rotate_left
         ·
          simp only [Act.put, lT, l0_, lS, i64_w, i32_w]; rfl
         refine pure_ (i := 4) (N := some 84) (v := undef) (a' := ?_) B_18 rfl rfl (any_of HT_.out (by kernel_rfl)) (fun _ _ _ h => h) (Or.inr ⟨by rfl, rfl⟩) ?_ ?_; rotate_left
         ·
          simp only [Act.put, lT, l0_, lS, i64_w, i32_w]; rfl
         refine pure_ (i := 5) (N := some 85) (v := undef) (a' := ?_) B_19 rfl rfl (any_of HT_.out (by kernel_rfl)) (fun _ _ _ h => h) (Or.inr ⟨by rfl, rfl⟩) ?_ ?_; rotate_left
         ·
          simp only [Act.put, lT, l0_, lS, i64_w, i32_w]; rfl
         refine pure_ (i := 6) (N := some 86) (v := undef) (a' := ?_) B_20 rfl rfl (any_of HT_.out (by kernel_rfl)) (fun _ _ _ h => h) (Or.inr ⟨by rfl, rfl⟩) ?_ ?_; rotate_left
         ·
          simp only [Act.put, lT, l0_, lS, i64_w, i32_w]; rfl
         refine pure_ (i := 7) (N := some 87) (v := ?_) (a' := ?_) B_21 rfl rfl (any_of HT_.out (by kernel_rfl)) (fun _ _ _ h => h) (Or.inl ⟨by rfl, ?_⟩) ?_ ?_; rotate_left
         ·
          intro w'; go_simp; with_reducible rfl
         rotate_left
         ·
          simp only [Act.put, lT, l0_, lS, i64_w, i32_w]; rfl
         refine pure_ (i := 8) (N := some 88) (v := ?_) (a' := ?_) B_22 rfl rfl (any_of HT_.out (by kernel_rfl)) (fun _ _ _ h => h) (Or.inl ⟨by rfl, ?_⟩) ?_ ?_; rotate_left
         ·
          intro w'; go_simp; with_reducible rfl
         rotate_left
         ·
          simp only [Act.put, lT, l0_, lS, i64_w, i32_w]; rfl
         refine pure_ (i := 9) (N := some 89) (v := undef) (a' := ?_) B_33 rfl rfl (any_of HT_.out (by kernel_rfl)) (fun _ _ _ h => h) (Or.inr ⟨by rfl, rfl⟩) ?_ ?_; rotate_left
         ·
          simp only [Act.put, lT, l0_, lS, i64_w, i32_w]; rfl
         refine pure_ (i := 10) (N := some 90) (v := undef) (a' := ?_) B_34 rfl rfl (any_of HT_.out (by kernel_rfl)) (fun _ _ _ h => h) (Or.inr ⟨by rfl, rfl⟩) ?_ ?_; rotate_left
         ·
          simp only [Act.put, lT, l0_, lS, i64_w, i32_w]; rfl
         refine pure_ (i := 11) (N := some 91) (v := undef) (a' := ?_) B_35 rfl rfl (any_of HT_.out (by kernel_rfl)) (fun _ _ _ h => h) (Or.inr ⟨by rfl, rfl⟩) ?_ ?_; rotate_left
         ·
          simp only [Act.put, lT, l0_, lS, i64_w, i32_w]; rfl
         refine pure_ (i := 12) (N := some 92) (v := undef) (a' := ?_) B_36 rfl rfl (any_of HT_.out (by kernel_rfl)) (fun _ _ _ h => h) (Or.inr ⟨by rfl, rfl⟩) ?_ ?_; rotate_left
         ·
          simp only [Act.put, lT, l0_, lS, i64_w, i32_w]; rfl
         refine pure_ (i := 13) (N := some 93) (v := undef) (a' := ?_) B_37 rfl rfl (any_of HT_.out (by kernel_rfl)) (fun _ _ _ h => h) (Or.inr ⟨by rfl, rfl⟩) ?_ ?_; rotate_left
         ·
          simp only [Act.put, lT, l0_, lS, i64_w, i32_w]; rfl
         refine pure_ (i := 14) (N := some 94) (v := undef) (a' := ?_) B_38 rfl rfl (any_of HT_.out (by kernel_rfl)) (fun _ _ _ h => h) (Or.inr ⟨by rfl, rfl⟩) ?_ ?_; rotate_left
         ·
          simp only [Act.put, lT, l0_, lS, i64_w, i32_w]; rfl
         refine pure_ (i := 15) (N := some 95) (v := undef) (a' := ?_) B_39 rfl rfl (any_of HT_.out (by kernel_rfl)) (fun _ _ _ h => h) (Or.inr ⟨by rfl, rfl⟩) ?_ ?_; rotate_left
         ·
          simp only [Act.put, lT, l0_, lS, i64_w, i32_w]; rfl
         refine pure_ (i := 16) (N := some 96) (v := undef) (a' := ?_) B_30 rfl rfl (any_of HT_.out (by kernel_rfl)) (fun _ _ _ h => h) (Or.inr ⟨by rfl, rfl⟩) ?_ ?_; rotate_left
         ·
          simp only [Act.put, lT, l0_, lS, i64_w, i32_w]; rfl
         refine pure_ (i := 17) (N := some 97) (v := undef) (a' := ?_) B_31 rfl rfl (any_of HT_.out (by kernel_rfl)) (fun _ _ _ h => h) (Or.inr ⟨by rfl, rfl⟩) ?_ ?_; rotate_left
         ·
          simp only [Act.put, lT, l0_, lS, i64_w, i32_w]; rfl
         refine pure_ (i := 18) (N := some 98) (v := ?_) (a' := ?_) B_32 rfl rfl (any_of HT_.out (by kernel_rfl)) (fun _ _ _ h => h) (Or.inl ⟨by rfl, ?_⟩) ?_ ?_; rotate_left
         ·
          intro w'; go_simp; with_reducible rfl
         rotate_left
         ·
          simp only [Act.put, lT, l0_, lS, i64_w, i32_w]; rfl
         refine done_ (done_of HT_.out (by kernel_rfl)) ?_
         try go_wp2
         go_meet
         case rel => exact ⟨_, (false), (by first | rfl | (simp; done) | (simp [*]; done)), H', ⟨by have := HJ2.out; have := HK2.out; first | omega | exact Nat.le_refl _⟩, ⟨by (with_reducible repeat (first | refine bN ?_ _ | refine bD ?_ | refine bA ?_ _)); exact BK126.out⟩, ⟨by (with_reducible repeat (first | refine bN ?_ _ | refine bD ?_ | refine bA ?_ _)); exact BK131.out⟩, ⟨by (with_reducible repeat (first | refine bN ?_ _ | refine bD ?_ | refine bA ?_ _)); exact BK132.out⟩, ⟨by (with_reducible repeat (first | refine bN ?_ _ | refine bD ?_ | refine bA ?_ _)); exact BK133.out⟩, ⟨by (with_reducible repeat (first | refine bN ?_ _ | refine bD ?_ | refine bA ?_ _)); exact BK134.out⟩, ⟨by repeat (first | (with_reducible first | exact HB.out | apply wA | apply wN | apply wD | refine wS ?_ GE126.out | refine wS ?_ GE131.out | refine wS ?_ GE132.out | refine wS ?_ GE133.out | refine wS ?_ GE134.out) | exact HB.out)⟩⟩
       case rest =>
        clear HC119
        try clear c1
        try clear p1
        try clear q1
        try clear hx1
        try clear c2
        try clear p2
        try clear c6
        try clear p6
        try clear c11
        try clear c12
        try clear p13
        try clear q13
        try clear hx13
        try clear c26
        try clear p64
        try clear c66
        try clear c66b0
        try clear c67
        try clear c68
        try clear c117
        try clear c120
        try clear c121
        try clear c122
        try clear c123
        try clear c126
        try clear c126b0
        try clear c127
        try clear c127b0
        try clear hcz124_0
        try clear hcz124_1
        try clear hcz124_2
        try clear hcz124_3
        try clear hcz124_4
        try clear hfz124_0
        try clear hfz124_1
        try clear hfz124_2
        try clear hfz124_3
        try clear hfz124_4
        try clear hfz87_3
        try clear hfz87_4
        try clear hfz93_0
        try clear hfz93_1
        try clear hfz93_2
        try clear hfz93_3
        try clear hfz93_4
        try clear hfz95_0
        try clear hfz95_1
        try clear hfz95_2
        try clear hfz95_3
        try clear hfz95_4
        try clear hx138_0
        try clear hx138_1
        try clear hx138_2
        try clear hx138_3
        try clear hx138_4
        try clear p138
        try clear p2
        try clear p6
        try clear p64
        try clear q138
        obtain ⟨kq, x98_118, rfl, HA, HJ118, BK126, BK131, BK132, BK133, BK134, HB⟩ := hcut
        cases kq with
        | zero => exact absurd HA.out (by simp [potsherdlaw6_PlanLess.j3])
        | succ kj118 =>
         have H := HA.out; clear HA; simp only [potsherdlaw6_PlanLess.j3] at H
         by_cases c133 : x98_118 = true
         ·
          subst c133
          have H1 : (some false) = some true := by rw [if_pos rfl] at H; exact H
          clear H; have H := H1; clear H1; exact absurd H (by simp)
         ·
          replace c133 := Bool.eq_false_iff.mpr c133; subst c133
          have H1 : ((plan_Need.f a0_0 a0_1 a0_2 a0_3 a0_4).bind fun t145 => (if t145 > a0_3 then ((plan_Fits.f a0_0 a0_1 a0_2 a0_3 a0_4 a1).bind fun t146 => (if t146 = true then ((plan_Room.f a0_0 a0_1 a0_2 a0_3 a0_4 a1).bind fun t147 => ((plan_Need.f a0_0 a0_1 a0_2 a0_3 a0_4).bind fun t148 => (if t147 ≥ t148 then ((potsherdlaw6_awake.f).bind fun t149 => (some t149)) else (some false)))) else ((potsherdlaw6_awake.f).bind fun t150 => (some t150)))) else (some false))) = some true := by rw [if_neg (show ¬ (false = true) by decide)] at H; exact H
          clear H; have H := H1; clear H1; replace H := Option.bind_eq_some_iff.mp H; obtain ⟨t145, A1340, H⟩ := H; replace H : (if t145 > a0_3 then ((plan_Fits.f a0_0 a0_1 a0_2 a0_3 a0_4 a1).bind fun t146 => (if t146 = true then ((plan_Room.f a0_0 a0_1 a0_2 a0_3 a0_4 a1).bind fun t147 => ((plan_Need.f a0_0 a0_1 a0_2 a0_3 a0_4).bind fun t148 => (if t147 ≥ t148 then ((potsherdlaw6_awake.f).bind fun t149 => (some t149)) else (some false)))) else ((potsherdlaw6_awake.f).bind fun t150 => (some t150)))) else (some false)) = some true := H; have A134 := Aside0.mk A1340; clear A1340
          by_cases c135 : t145 > a0_3
          ·
           rw [if_pos c135] at H; have c135b0 : decide (a0_3 < t145) = true := decide_eq_true c135; clear c135; replace H := Option.bind_eq_some_iff.mp H; obtain ⟨t146, A1360, H⟩ := H; replace H : (if t146 = true then ((plan_Room.f a0_0 a0_1 a0_2 a0_3 a0_4 a1).bind fun t147 => ((plan_Need.f a0_0 a0_1 a0_2 a0_3 a0_4).bind fun t148 => (if t147 ≥ t148 then ((potsherdlaw6_awake.f).bind fun t149 => (some t149)) else (some false)))) else ((potsherdlaw6_awake.f).bind fun t150 => (some t150))) = some true := H; have A136 := Aside0.mk A1360; clear A1360
           by_cases c137 : t146 = true
           ·
            subst c137
            have H1 : ((plan_Room.f a0_0 a0_1 a0_2 a0_3 a0_4 a1).bind fun t147 => ((plan_Need.f a0_0 a0_1 a0_2 a0_3 a0_4).bind fun t148 => (if t147 ≥ t148 then ((potsherdlaw6_awake.f).bind fun t149 => (some t149)) else (some false)))) = some true := by rw [if_pos rfl] at H; exact H
            clear H; have H := H1; clear H1; replace H := Option.bind_eq_some_iff.mp H; obtain ⟨t147, A1380, H⟩ := H; replace H : ((plan_Need.f a0_0 a0_1 a0_2 a0_3 a0_4).bind fun t148 => (if t147 ≥ t148 then ((potsherdlaw6_awake.f).bind fun t149 => (some t149)) else (some false))) = some true := H; have A138 := Aside0.mk A1380; clear A1380; replace H := Option.bind_eq_some_iff.mp H; obtain ⟨t148, A1390, H⟩ := H; replace H : (if t147 ≥ t148 then ((potsherdlaw6_awake.f).bind fun t149 => (some t149)) else (some false)) = some true := H; have A139 := Aside0.mk A1390; clear A1390
            by_cases c140 : t147 ≥ t148
            ·
             rw [if_pos c140] at H; have c140b0 : decide (t148 ≤ t147) = true := decide_eq_true c140; clear c140; replace H := Option.bind_eq_some_iff.mp H; obtain ⟨t149, A1410, H⟩ := H; replace H : (some t149) = some true := H; have A141 := Aside0.mk A1410; clear A1410; have HRET := Aside0.mk (Option.some.inj H); clear H
             try go_wp2
             have n0_ := Aside0.mk (bD BK126.out); have n1_ := Aside0.mk (bD BK131.out); have n2_ := Aside0.mk (bD BK132.out); have n3_ := Aside0.mk (bD BK133.out); have n4_ := Aside0.mk (bD BK134.out); have n5_ := Aside0.mk (wD HB.out); clear BK126; clear BK131; clear BK132; clear BK133; clear BK134; clear HB; have BK126 := n0_; have BK131 := n1_; have BK132 := n2_; have BK133 := n3_; have BK134 := n4_; have HB := n5_; clear n0_ n1_ n2_ n3_ n4_ n5_; refine start_ (n := 23) (S := fun w' => w'.cell? ⟨gb126, 0, none⟩ = some (.int .i64 a0_0) ∧ w'.cell? ⟨gb126, 1, none⟩ = some (.int .i64 a0_1) ∧ w'.cell? ⟨gb126, 2, none⟩ = some (.int .i64 a0_2) ∧ w'.cell? ⟨gb126, 3, none⟩ = some (.int .i64 a0_3) ∧ w'.cell? ⟨gb126, 4, none⟩ = some (.int .i64 a0_4)) (ds := []) B_40 (by kernel_rfl) rfl rfl ⟨(bC BK126.out 0).trans rfl, (bC BK126.out 1).trans rfl, (bC BK126.out 2).trans rfl, (bC BK126.out 3).trans rfl, (bC BK126.out 4).trans rfl⟩ (fun hHeld => ?_); refine with_tabW potsherdlaw6_PlanLess.tab17 potsherdlaw6_PlanLess.bits17 (fun HT_ HW_ => ?_); generalize wc.drew = w142 at BK126 BK131 BK132 BK133 BK134 HB hHeld ⊢; refine pure_ (i := 2) (N := some 101) (v := ?_) (a' := ?_) B_41 rfl rfl (any_of HT_.out (by kernel_rfl)) (fun _ _ _ h => h) (Or.inl ⟨by rfl, ?_⟩) ?_ ?_; rotate_left
             ·
              intro w'; go_simp; with_reducible rfl
             rotate_left
             ·
              simp only [Act.put, lT, l0_, lS, i64_w, i32_w]; rfl
             refine take_ (i := 0) (N := some 99) (v := ?_) (a' := ?_) B_42 rfl rfl (take_ofW HT_.out HW_.out (by kernel_rfl)) (fun _ _ _ h => h) (Or.inl ⟨by rfl, ?_⟩) hHeld ?_ ?_; rotate_left
             ·
              rintro w' ⟨s0, s1, s2, s3, s4⟩; go_simp; with_reducible rfl
             rotate_left
             ·
              simp only [Act.put, lT, l0_, lS, i64_w, i32_w]; rfl
             refine take_ (i := 3) (N := some 102) (v := ?_) (a' := ?_) B_43 rfl rfl (take_ofW HT_.out HW_.out (by kernel_rfl)) (fun _ _ _ h => h) (Or.inl ⟨by rfl, ?_⟩) hHeld ?_ ?_; rotate_left
             ·
              rintro w' ⟨s0, s1, s2, s3, s4⟩; go_simp; with_reducible rfl
             rotate_left
             ·
              simp only [Act.put, lT, l0_, lS, i64_w, i32_w]; rfl
             refine one_ (i := 1) (N := some 100) B_44 rfl rfl (one_of HT_.out (by kernel_rfl)) (by decide) (fun K hK => ?_); refine goes_ Try.func24 (by kernel_rfl) rfl #[.agg #[.int .i64 a0_0, .int .i64 a0_1, .int .i64 a0_2, .int .i64 a0_3, .int .i64 a0_4]] (by rfl) rfl rfl (by (try simp only [List.map_toArray, List.map_cons, List.map_nil]); first | done | rfl | (simp only [List.length_drop, List.length_take]; rfl)) ?_
             with_reducible refine (plan_Need.calls a0_0 a0_1 a0_2 a0_3 a0_4 t145 _ A134.out).mono ?_
             rintro e w143 ⟨rfl, hb⟩; refine ⟨_, rfl, ?_⟩; have n0_ := Aside0.mk (bB (g := gb126) (o := .cells #[.int .i64 a0_0, .int .i64 a0_1, .int .i64 a0_2, .int .i64 a0_3, .int .i64 a0_4] 35 (0, 0)) (by (with_reducible repeat (first | refine bN ?_ _ | refine bD ?_ | refine bA ?_ _)); exact BK126.out) hb)
             have n1_ := Aside0.mk (bB (g := gb131) (o := .cells #[.int .i64 (wrap64 (a0_0 + 1)), .int .i64 a0_1, .int .i64 a0_2, .int .i64 a0_3, .int .i64 a0_4] 35 (0, 0)) (by (with_reducible repeat (first | refine bN ?_ _ | refine bD ?_ | refine bA ?_ _)); exact BK131.out) hb)
             have n2_ := Aside0.mk (bB (g := gb132) (o := .cells #[.int .i64 a0_0, .int .i64 (wrap64 (a0_1 + 1)), .int .i64 a0_2, .int .i64 a0_3, .int .i64 a0_4] 35 (0, 0)) (by (with_reducible repeat (first | refine bN ?_ _ | refine bD ?_ | refine bA ?_ _)); exact BK132.out) hb)
             have n3_ := Aside0.mk (bB (g := gb133) (o := .cells #[.int .i64 a0_0, .int .i64 a0_1, .int .i64 (wrap64 (a0_2 - 1)), .int .i64 a0_3, .int .i64 a0_4] 35 (0, 0)) (by (with_reducible repeat (first | refine bN ?_ _ | refine bD ?_ | refine bA ?_ _)); exact BK133.out) hb)
             have n4_ := Aside0.mk (bB (g := gb134) (o := .cells #[.int .i64 a0_0, .int .i64 a0_1, .int .i64 a0_2, .int .i64 (wrap64 (a0_3 - 1)), .int .i64 a0_4] 35 (0, 0)) (by (with_reducible repeat (first | refine bN ?_ _ | refine bD ?_ | refine bA ?_ _)); exact BK134.out) hb)
             have n5_ := Aside0.mk (below_step (by repeat (first | (with_reducible first | exact HB.out | apply wA | apply wN | apply wD | refine wS ?_ GE126.out | refine wS ?_ GE131.out | refine wS ?_ GE132.out | refine wS ?_ GE133.out | refine wS ?_ GE134.out) | exact HB.out)) hb); clear BK126; clear BK131; clear BK132; clear BK133; clear BK134; clear HB; have BK126 := n0_; have BK131 := n1_; have BK132 := n2_; have BK133 := n3_; have BK134 := n4_; have HB := n5_; clear n0_ n1_ n2_ n3_ n4_ n5_
             (try clear hb)
             (try clear hb2)
             (try clear hk)
             (try clear hi)
             refine hK.out _ _ ⟨(bC BK126.out 0).trans rfl, (bC BK126.out 1).trans rfl, (bC BK126.out 2).trans rfl, (bC BK126.out 3).trans rfl, (bC BK126.out 4).trans rfl⟩ (fun hHeld => ?_); clear hK K; refine norm_ (a' := ?_) ?_ ?_; rotate_left
             ·
              show Act.put _ (some 100) _ = _
              simp only [Act.put, lT, l0_, lS, i64_w, i32_w]; rfl
             refine pure_ (i := 4) (N := some 103) (v := ?_) (a' := ?_) B_45 rfl rfl (any_of HT_.out (by kernel_rfl)) (fun _ _ _ h => h) (Or.inl ⟨by rfl, ?_⟩) ?_ ?_; rotate_left
             ·
              intro w'; go_simp; with_reducible rfl
             rotate_left
             ·
              simp only [Act.put, lT, l0_, lS, i64_w, i32_w]; rfl
             refine pure_ (i := 5) (N := some 104) (v := ?_) (a' := ?_) B_46 rfl rfl (any_of HT_.out (by kernel_rfl)) (fun _ _ _ h => h) (Or.inl ⟨by rfl, ?_⟩) ?_ ?_; rotate_left
             ·
              intro w'; go_simp; with_reducible rfl
             rotate_left
             ·
              simp only [Act.put, lT, l0_, lS, i64_w, i32_w]; rfl
             refine pure_ (i := 7) (N := some 106) (v := ?_) (a' := ?_) B_47 rfl rfl (any_of HT_.out (by kernel_rfl)) (fun _ _ _ h => h) (Or.inl ⟨by rfl, ?_⟩) ?_ ?_; rotate_left
             ·
              intro w'; go_simp; with_reducible rfl
             rotate_left
             ·
              simp only [Act.put, lT, l0_, lS, i64_w, i32_w]; rfl
             refine take_ (i := 6) (N := some 105) (v := ?_) (a' := ?_) B_48 rfl rfl (take_ofW HT_.out HW_.out (by kernel_rfl)) (fun _ _ _ h => h) (Or.inl ⟨by rfl, ?_⟩) hHeld ?_ ?_; rotate_left
             ·
              rintro w' ⟨s0, s1, s2, s3, s4⟩; go_simp; with_reducible rfl
             rotate_left
             ·
              simp only [Act.put, lT, l0_, lS, i64_w, i32_w]; rfl
             refine one_ (i := 8) (N := some 107) B_49 rfl rfl (one_of HT_.out (by kernel_rfl)) (by decide) (fun K hK => ?_); refine goes_ Try.func28 (by kernel_rfl) rfl #[.agg #[.int .i64 a0_0, .int .i64 a0_1, .int .i64 a0_2, .int .i64 a0_3, .int .i64 a0_4], .int .i64 a1] (by rfl) rfl rfl (by (try simp only [List.map_toArray, List.map_cons, List.map_nil]); first | done | rfl | (simp only [List.length_drop, List.length_take]; rfl)) ?_
             with_reducible refine (plan_Fits.calls a0_0 a0_1 a0_2 a0_3 a0_4 a1 true _ A136.out).mono ?_
             rintro e w144 ⟨rfl, hb⟩; refine ⟨_, rfl, ?_⟩; have n0_ := Aside0.mk (bB (g := gb126) (o := .cells #[.int .i64 a0_0, .int .i64 a0_1, .int .i64 a0_2, .int .i64 a0_3, .int .i64 a0_4] 35 (0, 0)) (by (with_reducible repeat (first | refine bN ?_ _ | refine bD ?_ | refine bA ?_ _)); exact BK126.out) hb)
             have n1_ := Aside0.mk (bB (g := gb131) (o := .cells #[.int .i64 (wrap64 (a0_0 + 1)), .int .i64 a0_1, .int .i64 a0_2, .int .i64 a0_3, .int .i64 a0_4] 35 (0, 0)) (by (with_reducible repeat (first | refine bN ?_ _ | refine bD ?_ | refine bA ?_ _)); exact BK131.out) hb)
             have n2_ := Aside0.mk (bB (g := gb132) (o := .cells #[.int .i64 a0_0, .int .i64 (wrap64 (a0_1 + 1)), .int .i64 a0_2, .int .i64 a0_3, .int .i64 a0_4] 35 (0, 0)) (by (with_reducible repeat (first | refine bN ?_ _ | refine bD ?_ | refine bA ?_ _)); exact BK132.out) hb)
             have n3_ := Aside0.mk (bB (g := gb133) (o := .cells #[.int .i64 a0_0, .int .i64 a0_1, .int .i64 (wrap64 (a0_2 - 1)), .int .i64 a0_3, .int .i64 a0_4] 35 (0, 0)) (by (with_reducible repeat (first | refine bN ?_ _ | refine bD ?_ | refine bA ?_ _)); exact BK133.out) hb)
             have n4_ := Aside0.mk (bB (g := gb134) (o := .cells #[.int .i64 a0_0, .int .i64 a0_1, .int .i64 a0_2, .int .i64 (wrap64 (a0_3 - 1)), .int .i64 a0_4] 35 (0, 0)) (by (with_reducible repeat (first | refine bN ?_ _ | refine bD ?_ | refine bA ?_ _)); exact BK134.out) hb)
             have n5_ := Aside0.mk (below_step (by repeat (first | (with_reducible first | exact HB.out | apply wA | apply wN | apply wD | refine wS ?_ GE126.out | refine wS ?_ GE131.out | refine wS ?_ GE132.out | refine wS ?_ GE133.out | refine wS ?_ GE134.out) | exact HB.out)) hb); clear BK126; clear BK131; clear BK132; clear BK133; clear BK134; clear HB; have BK126 := n0_; have BK131 := n1_; have BK132 := n2_; have BK133 := n3_; have BK134 := n4_; have HB := n5_; clear n0_ n1_ n2_ n3_ n4_ n5_
             (try clear hb)
             (try clear hb2)
             (try clear hk)
             (try clear hi)
             refine hK.out _ _ ⟨(bC BK126.out 0).trans rfl, (bC BK126.out 1).trans rfl, (bC BK126.out 2).trans rfl, (bC BK126.out 3).trans rfl, (bC BK126.out 4).trans rfl⟩ (fun hHeld => ?_); clear hK K; refine norm_ (a' := ?_) ?_ ?_; rotate_left
             ·
              show Act.put _ (some 107) _ = _
              simp only [Act.put, lT, l0_, lS, i64_w, i32_w]; rfl
             refine pure_ (i := 9) (N := some 108) (v := ?_) (a' := ?_) B_50 rfl rfl (any_of HT_.out (by kernel_rfl)) (fun _ _ _ h => h) (Or.inl ⟨by rfl, ?_⟩) ?_ ?_; rotate_left
             ·
              intro w'; go_simp; with_reducible rfl
             rotate_left
             ·
              simp only [Act.put, lT, l0_, lS, i64_w, i32_w]; rfl
             refine pure_ (i := 10) (N := some 109) (v := ?_) (a' := ?_) B_51 rfl rfl (any_of HT_.out (by kernel_rfl)) (fun _ _ _ h => h) (Or.inl ⟨by rfl, ?_⟩) ?_ ?_; rotate_left
             ·
              intro w'; go_simp; with_reducible rfl
             rotate_left
             ·
              simp only [Act.put, lT, l0_, lS, i64_w, i32_w]; rfl
             refine pure_ (i := 12) (N := some 111) (v := ?_) (a' := ?_) B_52 rfl rfl (any_of HT_.out (by kernel_rfl)) (fun _ _ _ h => h) (Or.inl ⟨by rfl, ?_⟩) ?_ ?_; rotate_left
             ·
              intro w'; go_simp; with_reducible rfl
             rotate_left
             ·
              simp only [Act.put, lT, l0_, lS, i64_w, i32_w]; rfl
             refine take_ (i := 11) (N := some 110) (v := ?_) (a' := ?_) B_53 rfl rfl (take_ofW HT_.out HW_.out (by kernel_rfl)) (fun _ _ _ h => h) (Or.inl ⟨by rfl, ?_⟩) hHeld ?_ ?_; rotate_left
             ·
              rintro w' ⟨s0, s1, s2, s3, s4⟩; go_simp; with_reducible rfl
             rotate_left
             ·
              simp only [Act.put, lT, l0_, lS, i64_w, i32_w]; rfl
             refine take_ (i := 14) (N := some 113) (v := ?_) (a' := ?_) B_54 rfl rfl (take_ofW HT_.out HW_.out (by kernel_rfl)) (fun _ _ _ h => h) (Or.inl ⟨by rfl, ?_⟩) hHeld ?_ ?_; rotate_left
             ·
              rintro w' ⟨s0, s1, s2, s3, s4⟩; go_simp; with_reducible rfl
             rotate_left
             ·
              simp only [Act.put, lT, l0_, lS, i64_w, i32_w]; rfl
             refine one_ (i := 13) (N := some 112) B_55 rfl rfl (one_of HT_.out (by kernel_rfl)) (by decide) (fun K hK => ?_); refine goes_ Try.func26 (by kernel_rfl) rfl #[.agg #[.int .i64 a0_0, .int .i64 a0_1, .int .i64 a0_2, .int .i64 a0_3, .int .i64 a0_4], .int .i64 a1] (by rfl) rfl rfl (by (try simp only [List.map_toArray, List.map_cons, List.map_nil]); first | done | rfl | (simp only [List.length_drop, List.length_take]; rfl)) ?_
             with_reducible refine (plan_Room.calls a0_0 a0_1 a0_2 a0_3 a0_4 a1 t147 _ A138.out).mono ?_
             rintro e w145 ⟨rfl, hb⟩; refine ⟨_, rfl, ?_⟩; have n0_ := Aside0.mk (bB (g := gb126) (o := .cells #[.int .i64 a0_0, .int .i64 a0_1, .int .i64 a0_2, .int .i64 a0_3, .int .i64 a0_4] 35 (0, 0)) (by (with_reducible repeat (first | refine bN ?_ _ | refine bD ?_ | refine bA ?_ _)); exact BK126.out) hb)
             have n1_ := Aside0.mk (bB (g := gb131) (o := .cells #[.int .i64 (wrap64 (a0_0 + 1)), .int .i64 a0_1, .int .i64 a0_2, .int .i64 a0_3, .int .i64 a0_4] 35 (0, 0)) (by (with_reducible repeat (first | refine bN ?_ _ | refine bD ?_ | refine bA ?_ _)); exact BK131.out) hb)
             have n2_ := Aside0.mk (bB (g := gb132) (o := .cells #[.int .i64 a0_0, .int .i64 (wrap64 (a0_1 + 1)), .int .i64 a0_2, .int .i64 a0_3, .int .i64 a0_4] 35 (0, 0)) (by (with_reducible repeat (first | refine bN ?_ _ | refine bD ?_ | refine bA ?_ _)); exact BK132.out) hb)
             have n3_ := Aside0.mk (bB (g := gb133) (o := .cells #[.int .i64 a0_0, .int .i64 a0_1, .int .i64 (wrap64 (a0_2 - 1)), .int .i64 a0_3, .int .i64 a0_4] 35 (0, 0)) (by (with_reducible repeat (first | refine bN ?_ _ | refine bD ?_ | refine bA ?_ _)); exact BK133.out) hb)
             have n4_ := Aside0.mk (bB (g := gb134) (o := .cells #[.int .i64 a0_0, .int .i64 a0_1, .int .i64 a0_2, .int .i64 (wrap64 (a0_3 - 1)), .int .i64 a0_4] 35 (0, 0)) (by (with_reducible repeat (first | refine bN ?_ _ | refine bD ?_ | refine bA ?_ _)); exact BK134.out) hb)
             have n5_ := Aside0.mk (below_step (by repeat (first | (with_reducible first | exact HB.out | apply wA | apply wN | apply wD | refine wS ?_ GE126.out | refine wS ?_ GE131.out | refine wS ?_ GE132.out | refine wS ?_ GE133.out | refine wS ?_ GE134.out) | exact HB.out)) hb); clear BK126; clear BK131; clear BK132; clear BK133; clear BK134; clear HB; have BK126 := n0_; have BK131 := n1_; have BK132 := n2_; have BK133 := n3_; have BK134 := n4_; have HB := n5_; clear n0_ n1_ n2_ n3_ n4_ n5_
             (try clear hb)
             (try clear hb2)
             (try clear hk)
             (try clear hi)
             refine hK.out _ _ ⟨(bC BK126.out 0).trans rfl, (bC BK126.out 1).trans rfl, (bC BK126.out 2).trans rfl, (bC BK126.out 3).trans rfl, (bC BK126.out 4).trans rfl⟩ (fun hHeld => ?_); clear hK K; refine norm_ (a' := ?_) ?_ ?_; rotate_left
             ·
              show Act.put _ (some 112) _ = _
              simp only [Act.put, lT, l0_, lS, i64_w, i32_w]; rfl
             refine one_ (i := 15) (N := some 114) B_56 rfl rfl (one_of HT_.out (by kernel_rfl)) (by decide) (fun K hK => ?_); refine goes_ Try.func24 (by kernel_rfl) rfl #[.agg #[.int .i64 a0_0, .int .i64 a0_1, .int .i64 a0_2, .int .i64 a0_3, .int .i64 a0_4]] (by rfl) rfl rfl (by (try simp only [List.map_toArray, List.map_cons, List.map_nil]); first | done | rfl | (simp only [List.length_drop, List.length_take]; rfl)) ?_
             with_reducible refine (plan_Need.calls a0_0 a0_1 a0_2 a0_3 a0_4 t148 _ A139.out).mono ?_
             rintro e w146 ⟨rfl, hb⟩; refine ⟨_, rfl, ?_⟩; have n0_ := Aside0.mk (bB (g := gb126) (o := .cells #[.int .i64 a0_0, .int .i64 a0_1, .int .i64 a0_2, .int .i64 a0_3, .int .i64 a0_4] 35 (0, 0)) (by (with_reducible repeat (first | refine bN ?_ _ | refine bD ?_ | refine bA ?_ _)); exact BK126.out) hb)
             have n1_ := Aside0.mk (bB (g := gb131) (o := .cells #[.int .i64 (wrap64 (a0_0 + 1)), .int .i64 a0_1, .int .i64 a0_2, .int .i64 a0_3, .int .i64 a0_4] 35 (0, 0)) (by (with_reducible repeat (first | refine bN ?_ _ | refine bD ?_ | refine bA ?_ _)); exact BK131.out) hb)
             have n2_ := Aside0.mk (bB (g := gb132) (o := .cells #[.int .i64 a0_0, .int .i64 (wrap64 (a0_1 + 1)), .int .i64 a0_2, .int .i64 a0_3, .int .i64 a0_4] 35 (0, 0)) (by (with_reducible repeat (first | refine bN ?_ _ | refine bD ?_ | refine bA ?_ _)); exact BK132.out) hb)
             have n3_ := Aside0.mk (bB (g := gb133) (o := .cells #[.int .i64 a0_0, .int .i64 a0_1, .int .i64 (wrap64 (a0_2 - 1)), .int .i64 a0_3, .int .i64 a0_4] 35 (0, 0)) (by (with_reducible repeat (first | refine bN ?_ _ | refine bD ?_ | refine bA ?_ _)); exact BK133.out) hb)
             have n4_ := Aside0.mk (bB (g := gb134) (o := .cells #[.int .i64 a0_0, .int .i64 a0_1, .int .i64 a0_2, .int .i64 (wrap64 (a0_3 - 1)), .int .i64 a0_4] 35 (0, 0)) (by (with_reducible repeat (first | refine bN ?_ _ | refine bD ?_ | refine bA ?_ _)); exact BK134.out) hb)
             have n5_ := Aside0.mk (below_step (by repeat (first | (with_reducible first | exact HB.out | apply wA | apply wN | apply wD | refine wS ?_ GE126.out | refine wS ?_ GE131.out | refine wS ?_ GE132.out | refine wS ?_ GE133.out | refine wS ?_ GE134.out) | exact HB.out)) hb); clear BK126; clear BK131; clear BK132; clear BK133; clear BK134; clear HB; have BK126 := n0_; have BK131 := n1_; have BK132 := n2_; have BK133 := n3_; have BK134 := n4_; have HB := n5_; clear n0_ n1_ n2_ n3_ n4_ n5_
             (try clear hb)
             (try clear hb2)
             (try clear hk)
             (try clear hi)
             refine hK.out _ _ ⟨(bC BK126.out 0).trans rfl, (bC BK126.out 1).trans rfl, (bC BK126.out 2).trans rfl, (bC BK126.out 3).trans rfl, (bC BK126.out 4).trans rfl⟩ (fun hHeld => ?_); clear hK K; refine norm_ (a' := ?_) ?_ ?_; rotate_left
             ·
              show Act.put _ (some 114) _ = _
              simp only [Act.put, lT, l0_, lS, i64_w, i32_w]; rfl
             refine pure_ (i := 16) (N := some 115) (v := ?_) (a' := ?_) B_57 rfl rfl (any_of HT_.out (by kernel_rfl)) (fun _ _ _ h => h) (Or.inl ⟨by rfl, ?_⟩) ?_ ?_; rotate_left
             ·
              intro w'; go_simp; with_reducible rfl
             rotate_left
             ·
              simp only [Act.put, lT, l0_, lS, i64_w, i32_w]; rfl
             refine pure_ (i := 17) (N := some 116) (v := ?_) (a' := ?_) B_58 rfl rfl (any_of HT_.out (by kernel_rfl)) (fun _ _ _ h => h) (Or.inl ⟨by rfl, ?_⟩) ?_ ?_; rotate_left
             ·
              intro w'; go_simp; with_reducible rfl
             rotate_left
             ·
              simp only [Act.put, lT, l0_, lS, i64_w, i32_w]; rfl
             refine pure_ (i := 18) (N := some 117) (v := ?_) (a' := ?_) B_59 rfl rfl (any_of HT_.out (by kernel_rfl)) (fun _ _ _ h => h) (Or.inl ⟨by rfl, ?_⟩) ?_ ?_; rotate_left
             ·
              intro w'; go_simp; with_reducible rfl
             rotate_left
             ·
              simp only [Act.put, lT, l0_, lS, i64_w, i32_w]; rfl
             refine pure_ (i := 19) (N := some 118) (v := ?_) (a' := ?_) B_60 rfl rfl (any_of HT_.out (by kernel_rfl)) (fun _ _ _ h => h) (Or.inl ⟨by rfl, ?_⟩) ?_ ?_; rotate_left
             ·
              intro w'; go_simp; with_reducible rfl
             rotate_left
             ·
              simp only [Act.put, lT, l0_, lS, i64_w, i32_w]; rfl
             refine one_ (i := 20) (N := some 119) B_61 rfl rfl (one_of HT_.out (by kernel_rfl)) (by decide) (fun K hK => ?_); refine goes_ Try.func32 (by kernel_rfl) rfl #[] (by rfl) rfl rfl (by (try simp only [List.map_toArray, List.map_cons, List.map_nil]); first | done | rfl | (simp only [List.length_drop, List.length_take]; rfl)) ?_
             with_reducible refine (potsherdlaw6_awake.calls  t149 _ A141.out).mono ?_
             rintro e w147 ⟨rfl, hb⟩; refine ⟨_, rfl, ?_⟩; have n0_ := Aside0.mk (bB (g := gb126) (o := .cells #[.int .i64 a0_0, .int .i64 a0_1, .int .i64 a0_2, .int .i64 a0_3, .int .i64 a0_4] 35 (0, 0)) (by (with_reducible repeat (first | refine bN ?_ _ | refine bD ?_ | refine bA ?_ _)); exact BK126.out) hb)
             have n1_ := Aside0.mk (bB (g := gb131) (o := .cells #[.int .i64 (wrap64 (a0_0 + 1)), .int .i64 a0_1, .int .i64 a0_2, .int .i64 a0_3, .int .i64 a0_4] 35 (0, 0)) (by (with_reducible repeat (first | refine bN ?_ _ | refine bD ?_ | refine bA ?_ _)); exact BK131.out) hb)
             have n2_ := Aside0.mk (bB (g := gb132) (o := .cells #[.int .i64 a0_0, .int .i64 (wrap64 (a0_1 + 1)), .int .i64 a0_2, .int .i64 a0_3, .int .i64 a0_4] 35 (0, 0)) (by (with_reducible repeat (first | refine bN ?_ _ | refine bD ?_ | refine bA ?_ _)); exact BK132.out) hb)
             have n3_ := Aside0.mk (bB (g := gb133) (o := .cells #[.int .i64 a0_0, .int .i64 a0_1, .int .i64 (wrap64 (a0_2 - 1)), .int .i64 a0_3, .int .i64 a0_4] 35 (0, 0)) (by (with_reducible repeat (first | refine bN ?_ _ | refine bD ?_ | refine bA ?_ _)); exact BK133.out) hb)
             have n4_ := Aside0.mk (bB (g := gb134) (o := .cells #[.int .i64 a0_0, .int .i64 a0_1, .int .i64 a0_2, .int .i64 (wrap64 (a0_3 - 1)), .int .i64 a0_4] 35 (0, 0)) (by (with_reducible repeat (first | refine bN ?_ _ | refine bD ?_ | refine bA ?_ _)); exact BK134.out) hb)
             have n5_ := Aside0.mk (below_step (by repeat (first | (with_reducible first | exact HB.out | apply wA | apply wN | apply wD | refine wS ?_ GE126.out | refine wS ?_ GE131.out | refine wS ?_ GE132.out | refine wS ?_ GE133.out | refine wS ?_ GE134.out) | exact HB.out)) hb); clear BK126; clear BK131; clear BK132; clear BK133; clear BK134; clear HB; have BK126 := n0_; have BK131 := n1_; have BK132 := n2_; have BK133 := n3_; have BK134 := n4_; have HB := n5_; clear n0_ n1_ n2_ n3_ n4_ n5_
             (try clear hb)
             (try clear hb2)
             (try clear hk)
             (try clear hi)
             refine hK.out _ _ ⟨(bC BK126.out 0).trans rfl, (bC BK126.out 1).trans rfl, (bC BK126.out 2).trans rfl, (bC BK126.out 3).trans rfl, (bC BK126.out 4).trans rfl⟩ (fun hHeld => ?_); clear hK K; refine norm_ (a' := ?_) ?_ ?_; rotate_left
             ·
              show Act.put _ (some 119) _ = _
              simp only [Act.put, lT, l0_, lS, i64_w, i32_w]; rfl
             refine pure_ (i := 21) (N := some 120) (v := ?_) (a' := ?_) B_62 rfl rfl (any_of HT_.out (by kernel_rfl)) (fun _ _ _ h => h) (Or.inl ⟨by rfl, ?_⟩) ?_ ?_; rotate_left
             ·
              intro w'; go_simp; with_reducible rfl
             rotate_left
             ·
              simp only [Act.put, lT, l0_, lS, i64_w, i32_w]; rfl
             refine pure_ (i := 22) (N := some 4) (v := ?_) (a' := ?_) B_63 rfl rfl (any_of HT_.out (by kernel_rfl)) (fun _ _ _ h => h) (Or.inl ⟨by rfl, ?_⟩) ?_ ?_; rotate_left
             ·
              intro w'; go_simp; with_reducible rfl
             rotate_left
             ·
              simp only [Act.put, lT, l0_, lS, i64_w, i32_w]; rfl
             refine done_ (done_of HT_.out (by kernel_rfl)) ?_
             try go_wp2
             go_ret
             exact ⟨by first | rfl | exact congrArg (fun b_ => Ending.returned (Value.bool b_)) HRET.out | (rw [HRET.out]) | (simp [errW_none, errW_some] <;> rfl) | (simp [*, errW_none, errW_some] <;> rfl), by repeat (first | (with_reducible first | exact HB.out | apply wA | apply wN | apply wD | refine wS ?_ GE126.out | refine wS ?_ GE131.out | refine wS ?_ GE132.out | refine wS ?_ GE133.out | refine wS ?_ GE134.out) | exact HB.out)⟩
            ·
             rw [if_neg c140] at H; have c140b0 : decide (t148 ≤ t147) = false := decide_eq_false c140; clear c140; exact absurd H (by simp)
           ·
            replace c137 := Bool.eq_false_iff.mpr c137; subst c137
            have H1 : ((potsherdlaw6_awake.f).bind fun t150 => (some t150)) = some true := by rw [if_neg (show ¬ (false = true) by decide)] at H; exact H
            clear H; have H := H1; clear H1; replace H := Option.bind_eq_some_iff.mp H; obtain ⟨t150, A1480, H⟩ := H; replace H : (some t150) = some true := H; have A148 := Aside0.mk A1480; clear A1480; have HRET := Aside0.mk (Option.some.inj H); clear H
            try go_wp2
            have n0_ := Aside0.mk (bD BK126.out); have n1_ := Aside0.mk (bD BK131.out); have n2_ := Aside0.mk (bD BK132.out); have n3_ := Aside0.mk (bD BK133.out); have n4_ := Aside0.mk (bD BK134.out); have n5_ := Aside0.mk (wD HB.out); clear BK126; clear BK131; clear BK132; clear BK133; clear BK134; clear HB; have BK126 := n0_; have BK131 := n1_; have BK132 := n2_; have BK133 := n3_; have BK134 := n4_; have HB := n5_; clear n0_ n1_ n2_ n3_ n4_ n5_; refine start_ (n := 23) (S := fun w' => w'.cell? ⟨gb126, 0, none⟩ = some (.int .i64 a0_0) ∧ w'.cell? ⟨gb126, 1, none⟩ = some (.int .i64 a0_1) ∧ w'.cell? ⟨gb126, 2, none⟩ = some (.int .i64 a0_2) ∧ w'.cell? ⟨gb126, 3, none⟩ = some (.int .i64 a0_3) ∧ w'.cell? ⟨gb126, 4, none⟩ = some (.int .i64 a0_4)) (ds := []) B_40 (by kernel_rfl) rfl rfl ⟨(bC BK126.out 0).trans rfl, (bC BK126.out 1).trans rfl, (bC BK126.out 2).trans rfl, (bC BK126.out 3).trans rfl, (bC BK126.out 4).trans rfl⟩ (fun hHeld => ?_); refine with_tabW potsherdlaw6_PlanLess.tab17 potsherdlaw6_PlanLess.bits17 (fun HT_ HW_ => ?_); generalize wc.drew = w149 at BK126 BK131 BK132 BK133 BK134 HB hHeld ⊢; refine pure_ (i := 2) (N := some 101) (v := ?_) (a' := ?_) B_41 rfl rfl (any_of HT_.out (by kernel_rfl)) (fun _ _ _ h => h) (Or.inl ⟨by rfl, ?_⟩) ?_ ?_; rotate_left
            ·
             intro w'; go_simp; with_reducible rfl
            rotate_left
            ·
             simp only [Act.put, lT, l0_, lS, i64_w, i32_w]; rfl
            refine take_ (i := 0) (N := some 99) (v := ?_) (a' := ?_) B_42 rfl rfl (take_ofW HT_.out HW_.out (by kernel_rfl)) (fun _ _ _ h => h) (Or.inl ⟨by rfl, ?_⟩) hHeld ?_ ?_; rotate_left
            ·
             rintro w' ⟨s0, s1, s2, s3, s4⟩; go_simp; with_reducible rfl
            rotate_left
            ·
             simp only [Act.put, lT, l0_, lS, i64_w, i32_w]; rfl
            refine take_ (i := 3) (N := some 102) (v := ?_) (a' := ?_) B_43 rfl rfl (take_ofW HT_.out HW_.out (by kernel_rfl)) (fun _ _ _ h => h) (Or.inl ⟨by rfl, ?_⟩) hHeld ?_ ?_; rotate_left
            ·
             rintro w' ⟨s0, s1, s2, s3, s4⟩; go_simp; with_reducible rfl
            rotate_left
            ·
             simp only [Act.put, lT, l0_, lS, i64_w, i32_w]; rfl
            refine one_ (i := 1) (N := some 100) B_44 rfl rfl (one_of HT_.out (by kernel_rfl)) (by decide) (fun K hK => ?_); refine goes_ Try.func24 (by kernel_rfl) rfl #[.agg #[.int .i64 a0_0, .int .i64 a0_1, .int .i64 a0_2, .int .i64 a0_3, .int .i64 a0_4]] (by rfl) rfl rfl (by (try simp only [List.map_toArray, List.map_cons, List.map_nil]); first | done | rfl | (simp only [List.length_drop, List.length_take]; rfl)) ?_
            with_reducible refine (plan_Need.calls a0_0 a0_1 a0_2 a0_3 a0_4 t145 _ A134.out).mono ?_
            rintro e w150 ⟨rfl, hb⟩; refine ⟨_, rfl, ?_⟩; have n0_ := Aside0.mk (bB (g := gb126) (o := .cells #[.int .i64 a0_0, .int .i64 a0_1, .int .i64 a0_2, .int .i64 a0_3, .int .i64 a0_4] 35 (0, 0)) (by (with_reducible repeat (first | refine bN ?_ _ | refine bD ?_ | refine bA ?_ _)); exact BK126.out) hb)
            have n1_ := Aside0.mk (bB (g := gb131) (o := .cells #[.int .i64 (wrap64 (a0_0 + 1)), .int .i64 a0_1, .int .i64 a0_2, .int .i64 a0_3, .int .i64 a0_4] 35 (0, 0)) (by (with_reducible repeat (first | refine bN ?_ _ | refine bD ?_ | refine bA ?_ _)); exact BK131.out) hb)
            have n2_ := Aside0.mk (bB (g := gb132) (o := .cells #[.int .i64 a0_0, .int .i64 (wrap64 (a0_1 + 1)), .int .i64 a0_2, .int .i64 a0_3, .int .i64 a0_4] 35 (0, 0)) (by (with_reducible repeat (first | refine bN ?_ _ | refine bD ?_ | refine bA ?_ _)); exact BK132.out) hb)
            have n3_ := Aside0.mk (bB (g := gb133) (o := .cells #[.int .i64 a0_0, .int .i64 a0_1, .int .i64 (wrap64 (a0_2 - 1)), .int .i64 a0_3, .int .i64 a0_4] 35 (0, 0)) (by (with_reducible repeat (first | refine bN ?_ _ | refine bD ?_ | refine bA ?_ _)); exact BK133.out) hb)
            have n4_ := Aside0.mk (bB (g := gb134) (o := .cells #[.int .i64 a0_0, .int .i64 a0_1, .int .i64 a0_2, .int .i64 (wrap64 (a0_3 - 1)), .int .i64 a0_4] 35 (0, 0)) (by (with_reducible repeat (first | refine bN ?_ _ | refine bD ?_ | refine bA ?_ _)); exact BK134.out) hb)
            have n5_ := Aside0.mk (below_step (by repeat (first | (with_reducible first | exact HB.out | apply wA | apply wN | apply wD | refine wS ?_ GE126.out | refine wS ?_ GE131.out | refine wS ?_ GE132.out | refine wS ?_ GE133.out | refine wS ?_ GE134.out) | exact HB.out)) hb); clear BK126; clear BK131; clear BK132; clear BK133; clear BK134; clear HB; have BK126 := n0_; have BK131 := n1_; have BK132 := n2_; have BK133 := n3_; have BK134 := n4_; have HB := n5_; clear n0_ n1_ n2_ n3_ n4_ n5_
            (try clear hb)
            (try clear hb2)
            (try clear hk)
            (try clear hi)
            refine hK.out _ _ ⟨(bC BK126.out 0).trans rfl, (bC BK126.out 1).trans rfl, (bC BK126.out 2).trans rfl, (bC BK126.out 3).trans rfl, (bC BK126.out 4).trans rfl⟩ (fun hHeld => ?_); clear hK K; refine norm_ (a' := ?_) ?_ ?_; rotate_left
            ·
             show Act.put _ (some 100) _ = _
             simp only [Act.put, lT, l0_, lS, i64_w, i32_w]; rfl
            refine pure_ (i := 4) (N := some 103) (v := ?_) (a' := ?_) B_45 rfl rfl (any_of HT_.out (by kernel_rfl)) (fun _ _ _ h => h) (Or.inl ⟨by rfl, ?_⟩) ?_ ?_; rotate_left
            ·
             intro w'; go_simp; with_reducible rfl
            rotate_left
            ·
             simp only [Act.put, lT, l0_, lS, i64_w, i32_w]; rfl
            refine pure_ (i := 5) (N := some 104) (v := ?_) (a' := ?_) B_46 rfl rfl (any_of HT_.out (by kernel_rfl)) (fun _ _ _ h => h) (Or.inl ⟨by rfl, ?_⟩) ?_ ?_; rotate_left
            ·
             intro w'; go_simp; with_reducible rfl
            rotate_left
            ·
             simp only [Act.put, lT, l0_, lS, i64_w, i32_w]; rfl
            refine pure_ (i := 7) (N := some 106) (v := ?_) (a' := ?_) B_47 rfl rfl (any_of HT_.out (by kernel_rfl)) (fun _ _ _ h => h) (Or.inl ⟨by rfl, ?_⟩) ?_ ?_; rotate_left
            ·
             intro w'; go_simp; with_reducible rfl
            rotate_left
            ·
             simp only [Act.put, lT, l0_, lS, i64_w, i32_w]; rfl
            refine take_ (i := 6) (N := some 105) (v := ?_) (a' := ?_) B_48 rfl rfl (take_ofW HT_.out HW_.out (by kernel_rfl)) (fun _ _ _ h => h) (Or.inl ⟨by rfl, ?_⟩) hHeld ?_ ?_; rotate_left
            ·
             rintro w' ⟨s0, s1, s2, s3, s4⟩; go_simp; with_reducible rfl
            rotate_left
            ·
             simp only [Act.put, lT, l0_, lS, i64_w, i32_w]; rfl
            refine one_ (i := 8) (N := some 107) B_49 rfl rfl (one_of HT_.out (by kernel_rfl)) (by decide) (fun K hK => ?_); refine goes_ Try.func28 (by kernel_rfl) rfl #[.agg #[.int .i64 a0_0, .int .i64 a0_1, .int .i64 a0_2, .int .i64 a0_3, .int .i64 a0_4], .int .i64 a1] (by rfl) rfl rfl (by (try simp only [List.map_toArray, List.map_cons, List.map_nil]); first | done | rfl | (simp only [List.length_drop, List.length_take]; rfl)) ?_
            with_reducible refine (plan_Fits.calls a0_0 a0_1 a0_2 a0_3 a0_4 a1 false _ A136.out).mono ?_
            rintro e w151 ⟨rfl, hb⟩; refine ⟨_, rfl, ?_⟩; have n0_ := Aside0.mk (bB (g := gb126) (o := .cells #[.int .i64 a0_0, .int .i64 a0_1, .int .i64 a0_2, .int .i64 a0_3, .int .i64 a0_4] 35 (0, 0)) (by (with_reducible repeat (first | refine bN ?_ _ | refine bD ?_ | refine bA ?_ _)); exact BK126.out) hb)
            have n1_ := Aside0.mk (bB (g := gb131) (o := .cells #[.int .i64 (wrap64 (a0_0 + 1)), .int .i64 a0_1, .int .i64 a0_2, .int .i64 a0_3, .int .i64 a0_4] 35 (0, 0)) (by (with_reducible repeat (first | refine bN ?_ _ | refine bD ?_ | refine bA ?_ _)); exact BK131.out) hb)
            have n2_ := Aside0.mk (bB (g := gb132) (o := .cells #[.int .i64 a0_0, .int .i64 (wrap64 (a0_1 + 1)), .int .i64 a0_2, .int .i64 a0_3, .int .i64 a0_4] 35 (0, 0)) (by (with_reducible repeat (first | refine bN ?_ _ | refine bD ?_ | refine bA ?_ _)); exact BK132.out) hb)
            have n3_ := Aside0.mk (bB (g := gb133) (o := .cells #[.int .i64 a0_0, .int .i64 a0_1, .int .i64 (wrap64 (a0_2 - 1)), .int .i64 a0_3, .int .i64 a0_4] 35 (0, 0)) (by (with_reducible repeat (first | refine bN ?_ _ | refine bD ?_ | refine bA ?_ _)); exact BK133.out) hb)
            have n4_ := Aside0.mk (bB (g := gb134) (o := .cells #[.int .i64 a0_0, .int .i64 a0_1, .int .i64 a0_2, .int .i64 (wrap64 (a0_3 - 1)), .int .i64 a0_4] 35 (0, 0)) (by (with_reducible repeat (first | refine bN ?_ _ | refine bD ?_ | refine bA ?_ _)); exact BK134.out) hb)
            have n5_ := Aside0.mk (below_step (by repeat (first | (with_reducible first | exact HB.out | apply wA | apply wN | apply wD | refine wS ?_ GE126.out | refine wS ?_ GE131.out | refine wS ?_ GE132.out | refine wS ?_ GE133.out | refine wS ?_ GE134.out) | exact HB.out)) hb); clear BK126; clear BK131; clear BK132; clear BK133; clear BK134; clear HB; have BK126 := n0_; have BK131 := n1_; have BK132 := n2_; have BK133 := n3_; have BK134 := n4_; have HB := n5_; clear n0_ n1_ n2_ n3_ n4_ n5_
            (try clear hb)
            (try clear hb2)
            (try clear hk)
            (try clear hi)
            refine hK.out _ _ ⟨(bC BK126.out 0).trans rfl, (bC BK126.out 1).trans rfl, (bC BK126.out 2).trans rfl, (bC BK126.out 3).trans rfl, (bC BK126.out 4).trans rfl⟩ (fun hHeld => ?_); clear hK K; refine norm_ (a' := ?_) ?_ ?_; rotate_left
            ·
             show Act.put _ (some 107) _ = _
             simp only [Act.put, lT, l0_, lS, i64_w, i32_w]; rfl
            refine pure_ (i := 9) (N := some 108) (v := ?_) (a' := ?_) B_50 rfl rfl (any_of HT_.out (by kernel_rfl)) (fun _ _ _ h => h) (Or.inl ⟨by rfl, ?_⟩) ?_ ?_; rotate_left
            ·
             intro w'; go_simp; with_reducible rfl
            rotate_left
            ·
             simp only [Act.put, lT, l0_, lS, i64_w, i32_w]; rfl
            refine pure_ (i := 10) (N := some 109) (v := ?_) (a' := ?_) B_51 rfl rfl (any_of HT_.out (by kernel_rfl)) (fun _ _ _ h => h) (Or.inl ⟨by rfl, ?_⟩) ?_ ?_; rotate_left
            ·
             intro w'; go_simp; with_reducible rfl
            rotate_left
            ·
             simp only [Act.put, lT, l0_, lS, i64_w, i32_w]; rfl
            refine pure_ (i := 11) (N := some 110) (v := undef) (a' := ?_) B_64 rfl rfl (any_of HT_.out (by kernel_rfl)) (fun _ _ _ h => h) (Or.inr ⟨by rfl, rfl⟩) ?_ ?_; rotate_left
            ·
             simp only [Act.put, lT, l0_, lS, i64_w, i32_w]; rfl
            refine pure_ (i := 12) (N := some 111) (v := undef) (a' := ?_) B_53 rfl rfl (any_of HT_.out (by kernel_rfl)) (fun _ _ _ h => h) (Or.inr ⟨by rfl, rfl⟩) ?_ ?_; rotate_left
            ·
             simp only [Act.put, lT, l0_, lS, i64_w, i32_w]; rfl
            refine pure_ (i := 13) (N := some 112) (v := undef) (a' := ?_) B_65 rfl rfl (any_of HT_.out (by kernel_rfl)) (fun _ _ _ h => h) (Or.inr ⟨by rfl, rfl⟩) ?_ ?_; rotate_left
            ·
             simp only [Act.put, lT, l0_, lS, i64_w, i32_w]; rfl
            refine pure_ (i := 14) (N := some 113) (v := undef) (a' := ?_) B_55 rfl rfl (any_of HT_.out (by kernel_rfl)) (fun _ _ _ h => h) (Or.inr ⟨by rfl, rfl⟩) ?_ ?_; rotate_left
            ·
             simp only [Act.put, lT, l0_, lS, i64_w, i32_w]; rfl
            refine pure_ (i := 15) (N := some 114) (v := undef) (a' := ?_) B_56 rfl rfl (any_of HT_.out (by kernel_rfl)) (fun _ _ _ h => h) (Or.inr ⟨by rfl, rfl⟩) ?_ ?_; rotate_left
            ·
             simp only [Act.put, lT, l0_, lS, i64_w, i32_w]; rfl
            refine pure_ (i := 16) (N := some 115) (v := undef) (a' := ?_) B_57 rfl rfl (any_of HT_.out (by kernel_rfl)) (fun _ _ _ h => h) (Or.inr ⟨by rfl, rfl⟩) ?_ ?_; rotate_left
            ·
             simp only [Act.put, lT, l0_, lS, i64_w, i32_w]; rfl
            refine pure_ (i := 17) (N := some 116) (v := ?_) (a' := ?_) B_58 rfl rfl (any_of HT_.out (by kernel_rfl)) (fun _ _ _ h => h) (Or.inl ⟨by rfl, ?_⟩) ?_ ?_; rotate_left
            ·
             intro w'; go_simp; with_reducible rfl
            rotate_left
            ·
             simp only [Act.put, lT, l0_, lS, i64_w, i32_w]; rfl
            refine pure_ (i := 18) (N := some 117) (v := ?_) (a' := ?_) B_59 rfl rfl (any_of HT_.out (by kernel_rfl)) (fun _ _ _ h => h) (Or.inl ⟨by rfl, ?_⟩) ?_ ?_; rotate_left
            ·
             intro w'; go_simp; with_reducible rfl
            rotate_left
            ·
             simp only [Act.put, lT, l0_, lS, i64_w, i32_w]; rfl
            refine pure_ (i := 19) (N := some 118) (v := ?_) (a' := ?_) B_60 rfl rfl (any_of HT_.out (by kernel_rfl)) (fun _ _ _ h => h) (Or.inl ⟨by rfl, ?_⟩) ?_ ?_; rotate_left
            ·
             intro w'; go_simp; with_reducible rfl
            rotate_left
            ·
             simp only [Act.put, lT, l0_, lS, i64_w, i32_w]; rfl
            refine one_ (i := 20) (N := some 119) B_61 rfl rfl (one_of HT_.out (by kernel_rfl)) (by decide) (fun K hK => ?_); refine goes_ Try.func32 (by kernel_rfl) rfl #[] (by rfl) rfl rfl (by (try simp only [List.map_toArray, List.map_cons, List.map_nil]); first | done | rfl | (simp only [List.length_drop, List.length_take]; rfl)) ?_
            with_reducible refine (potsherdlaw6_awake.calls  t150 _ A148.out).mono ?_
            rintro e w152 ⟨rfl, hb⟩; refine ⟨_, rfl, ?_⟩; have n0_ := Aside0.mk (bB (g := gb126) (o := .cells #[.int .i64 a0_0, .int .i64 a0_1, .int .i64 a0_2, .int .i64 a0_3, .int .i64 a0_4] 35 (0, 0)) (by (with_reducible repeat (first | refine bN ?_ _ | refine bD ?_ | refine bA ?_ _)); exact BK126.out) hb)
            have n1_ := Aside0.mk (bB (g := gb131) (o := .cells #[.int .i64 (wrap64 (a0_0 + 1)), .int .i64 a0_1, .int .i64 a0_2, .int .i64 a0_3, .int .i64 a0_4] 35 (0, 0)) (by (with_reducible repeat (first | refine bN ?_ _ | refine bD ?_ | refine bA ?_ _)); exact BK131.out) hb)
            have n2_ := Aside0.mk (bB (g := gb132) (o := .cells #[.int .i64 a0_0, .int .i64 (wrap64 (a0_1 + 1)), .int .i64 a0_2, .int .i64 a0_3, .int .i64 a0_4] 35 (0, 0)) (by (with_reducible repeat (first | refine bN ?_ _ | refine bD ?_ | refine bA ?_ _)); exact BK132.out) hb)
            have n3_ := Aside0.mk (bB (g := gb133) (o := .cells #[.int .i64 a0_0, .int .i64 a0_1, .int .i64 (wrap64 (a0_2 - 1)), .int .i64 a0_3, .int .i64 a0_4] 35 (0, 0)) (by (with_reducible repeat (first | refine bN ?_ _ | refine bD ?_ | refine bA ?_ _)); exact BK133.out) hb)
            have n4_ := Aside0.mk (bB (g := gb134) (o := .cells #[.int .i64 a0_0, .int .i64 a0_1, .int .i64 a0_2, .int .i64 (wrap64 (a0_3 - 1)), .int .i64 a0_4] 35 (0, 0)) (by (with_reducible repeat (first | refine bN ?_ _ | refine bD ?_ | refine bA ?_ _)); exact BK134.out) hb)
            have n5_ := Aside0.mk (below_step (by repeat (first | (with_reducible first | exact HB.out | apply wA | apply wN | apply wD | refine wS ?_ GE126.out | refine wS ?_ GE131.out | refine wS ?_ GE132.out | refine wS ?_ GE133.out | refine wS ?_ GE134.out) | exact HB.out)) hb); clear BK126; clear BK131; clear BK132; clear BK133; clear BK134; clear HB; have BK126 := n0_; have BK131 := n1_; have BK132 := n2_; have BK133 := n3_; have BK134 := n4_; have HB := n5_; clear n0_ n1_ n2_ n3_ n4_ n5_
            (try clear hb)
            (try clear hb2)
            (try clear hk)
            (try clear hi)
            refine hK.out _ _ ⟨(bC BK126.out 0).trans rfl, (bC BK126.out 1).trans rfl, (bC BK126.out 2).trans rfl, (bC BK126.out 3).trans rfl, (bC BK126.out 4).trans rfl⟩ (fun hHeld => ?_); clear hK K; refine norm_ (a' := ?_) ?_ ?_; rotate_left
            ·
             show Act.put _ (some 119) _ = _
             simp only [Act.put, lT, l0_, lS, i64_w, i32_w]; rfl
            refine pure_ (i := 21) (N := some 120) (v := ?_) (a' := ?_) B_62 rfl rfl (any_of HT_.out (by kernel_rfl)) (fun _ _ _ h => h) (Or.inl ⟨by rfl, ?_⟩) ?_ ?_; rotate_left
            ·
             intro w'; go_simp; with_reducible rfl
            rotate_left
            ·
             simp only [Act.put, lT, l0_, lS, i64_w, i32_w]; rfl
            refine pure_ (i := 22) (N := some 4) (v := ?_) (a' := ?_) B_63 rfl rfl (any_of HT_.out (by kernel_rfl)) (fun _ _ _ h => h) (Or.inl ⟨by rfl, ?_⟩) ?_ ?_; rotate_left
            ·
             intro w'; go_simp; with_reducible rfl
            rotate_left
            ·
             simp only [Act.put, lT, l0_, lS, i64_w, i32_w]; rfl
            refine done_ (done_of HT_.out (by kernel_rfl)) ?_
            try go_wp2
            go_ret
            exact ⟨by first | rfl | exact congrArg (fun b_ => Ending.returned (Value.bool b_)) HRET.out | (rw [HRET.out]) | (simp [errW_none, errW_some] <;> rfl) | (simp [*, errW_none, errW_some] <;> rfl), by repeat (first | (with_reducible first | exact HB.out | apply wA | apply wN | apply wD | refine wS ?_ GE126.out | refine wS ?_ GE131.out | refine wS ?_ GE132.out | refine wS ?_ GE133.out | refine wS ?_ GE134.out) | exact HB.out)⟩
          ·
           rw [if_neg c135] at H; have c135b0 : decide (a0_3 < t145) = false := decide_eq_false c135; clear c135; exact absurd H (by simp)

end Go.Proofs.Ytjpecdlagiohfaa.PPlanLess
