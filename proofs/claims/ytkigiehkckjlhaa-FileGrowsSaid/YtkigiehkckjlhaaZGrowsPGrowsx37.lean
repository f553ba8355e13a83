/- The Go functions that these laws reach, each as a Lean function with the same answers (a law itself where it answers true), and the proof that the code comes to them; conditions: those of each theorem. Laid by a program of this session over the print. -/
import Derived.Test.YtkigiehkckjlhaaZGrowsPGrowsShort
import Derived.Test.YtkigiehkckjlhaaZGrowsPGrowsx0
import Derived.Test.YtkigiehkckjlhaaZGrowsPGrowsx2
import Derived.Test.YtkigiehkckjlhaaZGrowsPGrowsx7
import Derived.Test.YtkigiehkckjlhaaZGrowsPGrowsx23
import Derived.Test.YtkigiehkckjlhaaZGrowsPGrowsx33
import Derived.Test.YtkigiehkckjlhaaZGrowsPGrowsx35
import Derived.Test.YtkigiehkckjlhaaZGrowsPGrowsx36
namespace Go.Proofs.Ytkigiehkckjlhaa.PGrows
open Go.RowKit Go.Proofs.YtkigiehkckjlhaaW.PrintWords Go.Proofs.YtkigiehkckjlhaaW.PrintLast Go.Proofs.YtkigiehkckjlhaaW.PrintMore
attribute [local go_sem] max2_int min2_int max_two min_two max_three min_three max_four min_four   -- for this text's walks alone
set_option linter.unusedVariables false
set_option linter.unusedSimpArgs false
open Go.Proofs.YtkigiehkckjlhaaW.PrintWords renaming blk_drewN → bN, blk_drew → bD, blk_alloc → bA, below_set → wS, below_alloc → wA, pw_below_drewN → wN, below_drew1 → wD, blk_below → bB, blk_far → bF, blk_cell → bC, blk_frozen → bZ
open List renaming setIfInBounds_toArray → lT, set_cons_zero → l0_, set_cons_succ → lS
abbrev B37_0 : Array Bool := #[false, false, false, false, false, false, false, false, false, false, false, false, false, false, false, false, false, false, false, false, false, false, false, false, false, false, false, false, false, false, false, false, false, false, false, false, false, false, false, false, false, false, false, false, false, false, false, false, false]
abbrev B37_1 : Array Bool := B37_0.set! 0 true
abbrev B37_2 : Array Bool := B37_1.set! 1 true
abbrev B37_3 : Array Bool := B37_2.set! 2 true
abbrev B37_4 : Array Bool := B37_3.set! 3 true
abbrev B37_5 : Array Bool := B37_4.set! 4 true
abbrev B37_6 : Array Bool := B37_5.set! 5 true
abbrev B37_7 : Array Bool := B37_6.set! 6 true
abbrev B37_8 : Array Bool := B37_7.set! 7 true
abbrev B37_9 : Array Bool := B37_8.set! 8 true
abbrev B37_10 : Array Bool := B37_9.set! 9 true
abbrev B37_11 : Array Bool := B37_10.set! 10 true
abbrev B37_12 : Array Bool := B37_11.set! 11 true
abbrev B37_13 : Array Bool := B37_12.set! 12 true
abbrev B37_14 : Array Bool := B37_13.set! 14 true
abbrev B37_15 : Array Bool := B37_14.set! 18 true
abbrev B37_16 : Array Bool := B37_15.set! 20 true
abbrev B37_17 : Array Bool := B37_16.set! 24 true
abbrev B37_18 : Array Bool := B37_17.set! 25 true
abbrev B37_19 : Array Bool := B37_18.set! 26 true
abbrev B37_20 : Array Bool := B37_19.set! 27 true
abbrev B37_21 : Array Bool := B37_20.set! 13 true
abbrev B37_22 : Array Bool := B37_21.set! 15 true
abbrev B37_23 : Array Bool := B37_22.set! 16 true
abbrev B37_24 : Array Bool := B37_23.set! 17 true
abbrev B37_25 : Array Bool := B37_24.set! 19 true
abbrev B37_26 : Array Bool := B37_25.set! 21 true
abbrev B37_27 : Array Bool := B37_26.set! 22 true
abbrev B37_28 : Array Bool := B37_27.set! 23 true
abbrev B37_29 : Array Bool := B37_28.set! 28 true
abbrev B37_30 : Array Bool := B37_29.set! 29 true
abbrev B37_31 : Array Bool := B37_30.set! 30 true
abbrev B37_32 : Array Bool := B37_31.set! 31 true
abbrev B37_33 : Array Bool := B37_32.set! 32 true
abbrev B37_34 : Array Bool := B37_33.set! 33 true
abbrev B37_35 : Array Bool := B37_34.set! 34 true
abbrev B37_36 : Array Bool := B37_35.set! 35 true
abbrev B37_37 : Array Bool := B37_36.set! 36 true
abbrev B37_38 : Array Bool := B37_37.set! 37 true
abbrev B37_39 : Array Bool := B37_38.set! 38 true
abbrev B37_40 : Array Bool := B37_39.set! 39 true
abbrev B37_41 : Array Bool := B37_40.set! 40 true
abbrev B37_42 : Array Bool := B37_41.set! 41 true
abbrev B37_43 : Array Bool := B37_42.set! 42 true
abbrev B37_44 : Array Bool := B37_43.set! 43 true
abbrev B37_45 : Array Bool := B37_44.set! 44 true
abbrev B37_46 : Array Bool := B37_45.set! 45 true
abbrev B37_47 : Array Bool := B37_46.set! 46 true
abbrev B37_48 : Array Bool := B37_47.set! 47 true
abbrev B37_49 : Array Bool := B37_48.set! 48 true
abbrev B37_50 : Array Bool := B37_13.set! 13 true
abbrev B37_51 : Array Bool := B37_14.set! 13 true
abbrev B37_52 : Array Bool := B37_51.set! 15 true
abbrev B37_53 : Array Bool := B37_52.set! 16 true
abbrev B37_54 : Array Bool := B37_53.set! 17 true
abbrev B37_55 : Array Bool := B37_54.set! 18 true
abbrev B37_56 : Array Bool := B37_55.set! 19 true
abbrev B37_57 : Array Bool := B37_56.set! 20 true
abbrev B37_58 : Array Bool := B37_57.set! 21 true
abbrev B37_59 : Array Bool := B37_58.set! 22 true
abbrev B37_60 : Array Bool := B37_59.set! 23 true
abbrev B37_61 : Array Bool := B37_60.set! 24 true
abbrev B37_62 : Array Bool := B37_61.set! 25 true
abbrev B37_63 : Array Bool := B37_28.set! 27 false
mutual
def potsherdlaw20_FileGrows.j0 : Nat → Int → Int → Int → List Int → Bool → List (S28) → Option (Bool)
 | 0, _, _, _, _, _, _ => none
 | k + 1, x1, x2, x3, x4, x51, x523000 => if x51 = true then ((potsherdlaw20_awake.f k).bind fun t526 => (some t526)) else ((file_Write.f k x523000 60 x1 (wrap64 (Int.tmod (IntKind.u64.wrap (x2)) 81)) x4).bind fun bt527 => (if bt527.2.2 = 0 then (if (bt527.1.length : Int) = 12 then (if (x4.length : Int) > 0 then (if 0 ≤ x1 then (if x1 < (bt527.1.length : Int) then (if x1 < (x523000.length : Int) then (if ((rd_T28 bt527.1 x1).f2) = (mx ((rd_T28 x523000 x1).f2) (wrap64 ((wrap64 (Int.tmod (IntKind.u64.wrap (x2)) 81)) + (x4.length : Int)))) then (if (x4.length : Int) = 0 then (none) else (potsherdlaw20_FileGrows.j1 k x1 (wrap64 (Int.tmod (IntKind.u64.wrap (x3)) 81)) bt527.2.2 false x523000)) else (none)) else (none)) else (none)) else (none)) else (if (x4.length : Int) = 0 then (if (bt527.2.1.length : Int) = 0 then ((potsherdref12_SameTree.f k x523000 bt527.1).bind fun t538 => (potsherdlaw20_FileGrows.j1 k x1 (wrap64 (Int.tmod (IntKind.u64.wrap (x3)) 81)) bt527.2.2 (!t538) x523000)) else (none)) else (none))) else (none)) else (potsherdlaw20_FileGrows.j1 k x1 (wrap64 (Int.tmod (IntKind.u64.wrap (x3)) 81)) bt527.2.2 false x523000)))
def potsherdlaw20_FileGrows.j1 : Nat → Int → Int → Int → Bool → List (S28) → Option (Bool)
 | 0, _, _, _, _, _ => none
 | k + 1, x1, x3, x13, x118, x523000 => if x118 = true then (none) else ((file_Truncate.f k x523000 x1 x3).bind fun bt539 => (if bt539.2.2 = 0 then (if (bt539.1.length : Int) = 12 then (if 0 ≤ x1 then (if x1 < (bt539.1.length : Int) then (if ((rd_T28 bt539.1 x1).f2) = x3 then (if (bt539.2.1.length : Int) > 1 then (none) else (potsherdlaw20_FileGrows.j2 k x1 x3 x13 ((((rd_T28 bt539.1 x1).f3).length : Int) != 5) x523000 bt539.1)) else (none)) else (none)) else (none)) else (none)) else (none)))
def potsherdlaw20_FileGrows.j2 : Nat → Int → Int → Int → Bool → List (S28) → List (S28) → Option (Bool)
 | 0, _, _, _, _, _, _ => none
 | k + 1, x1, x3, x13, x159, x523000, x547000 => if x159 = true then (none) else (if 0 ≤ x1 then (if x1 < (x547000.length : Int) then (potsherdlaw20_FileGrows.l0 k x1 x3 x13 ((rd_T28 x547000 x1).f3) (((rd_T28 x547000 x1).f3).length : Int) 0 x523000) else (none)) else (none))
def potsherdlaw20_FileGrows.l0 : Nat → Int → Int → Int → List Int → Int → Int → List (S28) → Option (Bool)
 | 0, _, _, _, _, _, _, _ => none
 | k + 1, x1, x3, x13, x165, x166, x167, x523000 => if x167 < x166 then (if 0 ≤ x167 then (if x167 < (x165.length : Int) then (if (rd x165 x167) = 0 then (if (wrap64 (x167 * 16)) < x3 then (if 0 ≤ x1 then (if x1 < (x523000.length : Int) then (if x167 < (((rd_T28 x523000 x1).f3).length : Int) then (potsherdlaw20_FileGrows.j4 k x1 x3 x13 x165 x166 x167 ((rd x165 x167) != (rd ((rd_T28 x523000 x1).f3) x167)) x523000) else (none)) else (none)) else (none)) else (potsherdlaw20_FileGrows.j4 k x1 x3 x13 x165 x166 x167 false x523000)) else (if (wrap64 (x167 * 16)) ≥ x3 then (none) else (if (wrap64 (x167 * 16)) < x3 then (if 0 ≤ x1 then (if x1 < (x523000.length : Int) then (if x167 < (((rd_T28 x523000 x1).f3).length : Int) then (potsherdlaw20_FileGrows.j4 k x1 x3 x13 x165 x166 x167 ((rd x165 x167) != (rd ((rd_T28 x523000 x1).f3) x167)) x523000) else (none)) else (none)) else (none)) else (none)))) else (none)) else (none)) else (if x13 = 0 then ((potsherdlaw20_awake.f k).bind fun t555 => (some t555)) else (if x13 = 16 then ((potsherdlaw20_awake.f k).bind fun t556 => (some t556)) else (if x13 = 13 then ((potsherdlaw20_awake.f k).bind fun t557 => (some t557)) else (none))))
def potsherdlaw20_FileGrows.j4 : Nat → Int → Int → Int → List Int → Int → Int → Bool → List (S28) → Option (Bool)
 | 0, _, _, _, _, _, _, _, _ => none
 | k + 1, x1, x3, x13, x165, x166, x167, x198, x523000 => if x198 = true then (none) else (potsherdlaw20_FileGrows.l0 k x1 x3 x13 x165 x166 (wrap64 (x167 + 1)) x523000)
end
def potsherdlaw20_FileGrows.f (k : Nat) (l0_0 : List (S28)) (a1 : Int) (a2 : Int) (a3 : Int) (l4 : List Int) : Option (Bool) := (potsherdlaw15_Light.f k l0_0).bind fun t523 => (if t523 > 0 then (potsherdlaw20_FileGrows.j0 k a1 a2 a3 l4 true l0_0) else ((potsherdref12_MayTree.f k l0_0).bind fun t524 => (if t524 = true then (if (l4.length : Int) > 80 then (potsherdlaw20_FileGrows.j0 k a1 a2 a3 l4 true l0_0) else (if a1 < 0 then (potsherdlaw20_FileGrows.j0 k a1 a2 a3 l4 true l0_0) else (if a1 ≥ (l0_0.length : Int) then (potsherdlaw20_FileGrows.j0 k a1 a2 a3 l4 true l0_0) else (if 0 ≤ a1 then (if a1 < (l0_0.length : Int) then (potsherdlaw20_FileGrows.j0 k a1 a2 a3 l4 (((rd_T28 l0_0 a1).f0) != 1) l0_0) else (none)) else (none))))) else (potsherdlaw20_FileGrows.j0 k a1 a2 a3 l4 true l0_0))))
theorem potsherdlaw20_FileGrows.mono_l : ∀ k, (∀ y0 y1 y2 y3 y4 y5, LeO (potsherdlaw20_FileGrows.j0 k y0 y1 y2 y3 y4 y5) (potsherdlaw20_FileGrows.j0 (k + 1) y0 y1 y2 y3 y4 y5)) ∧ (∀ y0 y1 y2 y3 y4, LeO (potsherdlaw20_FileGrows.j1 k y0 y1 y2 y3 y4) (potsherdlaw20_FileGrows.j1 (k + 1) y0 y1 y2 y3 y4)) ∧ (∀ y0 y1 y2 y3 y4 y5, LeO (potsherdlaw20_FileGrows.j2 k y0 y1 y2 y3 y4 y5) (potsherdlaw20_FileGrows.j2 (k + 1) y0 y1 y2 y3 y4 y5)) ∧ (∀ y0 y1 y2 y3 y4 y5 y6, LeO (potsherdlaw20_FileGrows.l0 k y0 y1 y2 y3 y4 y5 y6) (potsherdlaw20_FileGrows.l0 (k + 1) y0 y1 y2 y3 y4 y5 y6)) ∧ (∀ y0 y1 y2 y3 y4 y5 y6 y7, LeO (potsherdlaw20_FileGrows.j4 k y0 y1 y2 y3 y4 y5 y6 y7) (potsherdlaw20_FileGrows.j4 (k + 1) y0 y1 y2 y3 y4 y5 y6 y7))
 | 0 => ⟨fun _ _ _ _ _ _ r h => by simp [potsherdlaw20_FileGrows.j0] at h, fun _ _ _ _ _ r h => by simp [potsherdlaw20_FileGrows.j1] at h, fun _ _ _ _ _ _ r h => by simp [potsherdlaw20_FileGrows.j2] at h, fun _ _ _ _ _ _ _ r h => by simp [potsherdlaw20_FileGrows.l0] at h, fun _ _ _ _ _ _ _ _ r h => by simp [potsherdlaw20_FileGrows.j4] at h⟩
 | k + 1 => by
  obtain ⟨ih0, ih1, ih2, ih3, ih4⟩ := potsherdlaw20_FileGrows.mono_l k; refine ⟨?_, ?_, ?_, ?_, ?_⟩
  ·
   intro y0 y1 y2 y3 y4 y5
   unfold potsherdlaw20_FileGrows.j0
   repeat' with_reducible first | apply ih0 | apply ih1 | apply ih2 | apply ih3 | apply ih4 | apply file_Truncate.mono | apply file_Write.mono | apply potsherdlaw15_Light.mono | apply potsherdlaw20_awake.mono | apply potsherdref12_MayTree.mono | apply potsherdref12_SameTree.mono | exact LeO.refl _ | exact LeO.none _ | refine LeO.ite ?_ ?_ | refine LeO.bind ?_ (fun _ => ?_)
  ·
   intro y0 y1 y2 y3 y4
   unfold potsherdlaw20_FileGrows.j1
   repeat' with_reducible first | apply ih0 | apply ih1 | apply ih2 | apply ih3 | apply ih4 | apply file_Truncate.mono | apply file_Write.mono | apply potsherdlaw15_Light.mono | apply potsherdlaw20_awake.mono | apply potsherdref12_MayTree.mono | apply potsherdref12_SameTree.mono | exact LeO.refl _ | exact LeO.none _ | refine LeO.ite ?_ ?_ | refine LeO.bind ?_ (fun _ => ?_)
  ·
   intro y0 y1 y2 y3 y4 y5
   unfold potsherdlaw20_FileGrows.j2
   repeat' with_reducible first | apply ih0 | apply ih1 | apply ih2 | apply ih3 | apply ih4 | apply file_Truncate.mono | apply file_Write.mono | apply potsherdlaw15_Light.mono | apply potsherdlaw20_awake.mono | apply potsherdref12_MayTree.mono | apply potsherdref12_SameTree.mono | exact LeO.refl _ | exact LeO.none _ | refine LeO.ite ?_ ?_ | refine LeO.bind ?_ (fun _ => ?_)
  ·
   intro y0 y1 y2 y3 y4 y5 y6
   unfold potsherdlaw20_FileGrows.l0
   repeat' with_reducible first | apply ih0 | apply ih1 | apply ih2 | apply ih3 | apply ih4 | apply file_Truncate.mono | apply file_Write.mono | apply potsherdlaw15_Light.mono | apply potsherdlaw20_awake.mono | apply potsherdref12_MayTree.mono | apply potsherdref12_SameTree.mono | exact LeO.refl _ | exact LeO.none _ | refine LeO.ite ?_ ?_ | refine LeO.bind ?_ (fun _ => ?_)
  ·
   intro y0 y1 y2 y3 y4 y5 y6 y7
   unfold potsherdlaw20_FileGrows.j4
   repeat' with_reducible first | apply ih0 | apply ih1 | apply ih2 | apply ih3 | apply ih4 | apply file_Truncate.mono | apply file_Write.mono | apply potsherdlaw15_Light.mono | apply potsherdlaw20_awake.mono | apply potsherdref12_MayTree.mono | apply potsherdref12_SameTree.mono | exact LeO.refl _ | exact LeO.none _ | refine LeO.ite ?_ ?_ | refine LeO.bind ?_ (fun _ => ?_)
theorem potsherdlaw20_FileGrows.mono : ∀ a0 a1 a2 a3 a4 k, LeO (potsherdlaw20_FileGrows.f k a0 a1 a2 a3 a4) (potsherdlaw20_FileGrows.f (k + 1) a0 a1 a2 a3 a4) := by
 intro a0 a1 a2 a3 a4 k; obtain ⟨ih0, ih1, ih2, ih3, ih4⟩ := potsherdlaw20_FileGrows.mono_l k
 unfold potsherdlaw20_FileGrows.f
 repeat' with_reducible first | apply ih0 | apply ih1 | apply ih2 | apply ih3 | apply ih4 | apply file_Truncate.mono | apply file_Write.mono | apply potsherdlaw15_Light.mono | apply potsherdlaw20_awake.mono | apply potsherdref12_MayTree.mono | apply potsherdref12_SameTree.mono | exact LeO.refl _ | exact LeO.none _ | refine LeO.ite ?_ ?_ | refine LeO.bind ?_ (fun _ => ?_)
def potsherdlaw20_FileGrows.T5 : Bool × List (List Nat × List Nat) := (true, [([], []), ([0], [0]), ([1], [1]), ([2], [2]), ([3, 2], [2, 3]), ([4, 2], [2, 4]), ([5, 2], [2, 5]), ([6, 2, 2], [2, 6]), ([7], [7]), ([8, 7], [7, 8]), ([9, 7], [7, 9]), ([10, 7, 7], [7, 10]), ([11], [11]), ([12, 11], [11, 12]), ([11], [11]), ([13, 14, 11], [11, 13, 14]), ([15, 11], [11, 15]), ([16, 11], [11, 16]), ([11], [11]), ([18, 11], [11, 18]), ([11], [11]), ([19, 20, 11], [11, 19, 20]), ([21, 11], [11, 21]), ([22, 11], [11, 22]), ([11], [11]), ([11], [11]), ([25, 11], [11, 25]), ([24, 26, 11], [11, 24, 26]), ([23, 27, 11], [11, 23, 27]), ([17, 28, 11], [11, 17, 28]), ([11, 29, 7], [7, 11, 29]), ([7, 30, 2], [2, 7, 30]), ([31, 11, 2], [2, 31]), ([32], [32]), ([33, 32], [32, 33]), ([34, 32], [32, 34]), ([35, 32, 32], [32, 35]), ([36], [36]), ([37, 36], [36, 37]), ([38, 36], [36, 38]), ([39, 36, 36], [36, 39]), ([40], [40]), ([40], [40]), ([41, 42, 40, 40], [40, 41, 42]), ([43, 40], [40, 43]), ([40, 44, 36], [36, 40, 44]), ([36, 45, 32], [32, 36, 45]), ([32, 46, 2], [2, 32, 46]), ([2, 47], [2, 47])])
def potsherdlaw20_FileGrows.B5 : List Nat := [0, 1, 3, 7, 15, 31, 63, 127, 255, 511, 1023, 2047, 4095, 8191, 4095, 32767, 65535, 131071, 4095, 266239, 4095, 1839103, 3936255, 8130559, 4095, 4095, 33558527, 117444607, 268177407, 536870911, 1073741823, 2147483647, 4294967295, 8589934591, 17179869183, 34359738367, 68719476735, 137438953471, 274877906943, 549755813887, 1099511627775, 2199023255551, 2199023255551, 8796093022207, 17592186044415, 35184372088831, 70368744177663, 140737488355327, 281474976710655]
theorem potsherdlaw20_FileGrows.tab5 : rtab .any (opsOf Try.f12 5) = potsherdlaw20_FileGrows.T5 := by kernel_rfl
theorem potsherdlaw20_FileGrows.bits5 : waitsOk potsherdlaw20_FileGrows.T5.2 potsherdlaw20_FileGrows.B5 = true := by kernel_rfl
set_option maxHeartbeats 8000000 in
set_option maxRecDepth 100000 in
theorem potsherdlaw20_FileGrows.calls (k : Nat) (A0_0 : Option Addr) (c0_0 : Nat) (l0_0 : List (S28)) (a1 : Int) (a2 : Int) (a3 : Int) (A4 : Option Addr) (c4 : Nat) (l4 : List Int) (w : World) (hr0_0 : Kd.C k28 w A0_0 l0_0.length l0_0) (hc0_0 : l0_0.length ≤ c0_0) (hr4 : Kd.C (Kd.int .u8) w A4 l4.length l4) (hc4 : l4.length ≤ c4) (h : potsherdlaw20_FileGrows.f k l0_0 a1 a2 a3 l4 = some true) :
 Calls Try.prog 12 #[.agg #[.slice A0_0 l0_0.length c0_0], .int .i64 a1, .int .i64 a2, .int .i64 a3, .slice A4 l4.length c4] w fun e w' => e = .returned (.bool true) ∧ Below w.heap.size w w' := by
 have hu24 := Try.underlying24; have HR0_0 := Aside0.mk hr0_0; have HC0_0 := Aside0.mk hc0_0; clear hr0_0 hc0_0; have HR4 := Aside0.mk hr4; have HC4 := Aside0.mk hc4; clear hr4 hc4; have HB := Aside0.mk (Below.refl w.heap.size w); have H : ((potsherdlaw15_Light.f k l0_0).bind fun t523 => (if t523 > 0 then (potsherdlaw20_FileGrows.j0 k a1 a2 a3 l4 true l0_0) else ((potsherdref12_MayTree.f k l0_0).bind fun t524 => (if t524 = true then (if (l4.length : Int) > 80 then (potsherdlaw20_FileGrows.j0 k a1 a2 a3 l4 true l0_0) else (if a1 < 0 then (potsherdlaw20_FileGrows.j0 k a1 a2 a3 l4 true l0_0) else (if a1 ≥ (l0_0.length : Int) then (potsherdlaw20_FileGrows.j0 k a1 a2 a3 l4 true l0_0) else (if 0 ≤ a1 then (if a1 < (l0_0.length : Int) then (potsherdlaw20_FileGrows.j0 k a1 a2 a3 l4 (((rd_T28 l0_0 a1).f0) != 1) l0_0) else (none)) else (none))))) else (potsherdlaw20_FileGrows.j0 k a1 a2 a3 l4 true l0_0))))) = some true := h; clear h; have HC6 := Aside0.mk H; clear H
 go_enter Try.func12, Try.ntmps12
 go_upto_region 1 with (first | ((with_reducible refine gate_dst (N := 5) rfl ?_); (try (refine gate_guard (by rfl) ?_; dsimp only)); refine bxE 24 (cs := #[.slice A0_0 l0_0.length c0_0]) ?_; intro gb522 hg w7 hbox hb; have BK522 := Aside0.mk hbox; have GW522 := kG HB hg; have GE522 := kG HB hg; replace HB := kH HB hb; clear hb hbox hg))
 (try simp only [Act.put, lT, l0_, lS])
 go_cut [51] (fun v51 wc => ∃ (kq : Nat) (x51_5 : Bool), v51 = .bool x51_5 ∧ Aside0 (potsherdlaw20_FileGrows.j0 kq a1 a2 a3 l4 x51_5 l0_0 = some true) ∧ Aside0 (kq ≤ k) ∧ Aside0 (wc.heap[gb522]? = some (.cells #[(.slice A0_0 l0_0.length c0_0)] 24 (0, 0))) ∧ Aside0 (Below w.heap.size w wc))
 case first => as_aux_lemma =>
  have H := HC6.out; clear HC6; replace H := Option.bind_eq_some_iff.mp H; obtain ⟨t523, A80, H⟩ := H; have A8 := Aside0.mk A80; clear A80
  by_cases c9 : t523 > 0
  ·
   rw [if_pos c9] at H; have c9b0 : decide (0 < t523) = true := decide_eq_true c9; clear c9
   (first | rw [c9b0] | (simp only [i64_w, i32_w]; rw [c9b0]) | skip)
   have H' := Aside0.mk H; clear H; obtain ⟨hcz10_0, hfz10_0⟩ := cY0 BK522
   go_wp2_with (first | ((with_reducible refine gate_callee (f := 13) rfl ?_); refine goesK (some 20) Try.func13 #[.agg #[.slice A0_0 l0_0.length c0_0]] ?_; (with_reducible refine (potsherdlaw15_Light.calls k _ _ l0_0 t523 _ ?side1 ?side2 A8.out).mono ?_); (case side1 => exact mC HR0_0 HB); (case side2 => exact HC0_0.out); rintro e w11 ⟨rfl, hb⟩; refine ⟨_, rfl, ?_⟩; replace BK522 := kB BK522 hb; replace HB := kH HB hb; (try clear hb)))
   go_meet
   case rel => exact ⟨_, (true), sI, H', ⟨by first | omega | exact Nat.le_refl _⟩, ⟨mB BK522⟩, ⟨mH HB⟩⟩
  · as_aux_lemma =>
   rw [if_neg c9] at H; have c9b0 : decide (0 < t523) = false := decide_eq_false c9; clear c9
   (first | rw [c9b0] | (simp only [i64_w, i32_w]; rw [c9b0]) | skip)
   replace H := Option.bind_eq_some_iff.mp H; obtain ⟨t524, A120, H⟩ := H; have A12 := Aside0.mk A120; clear A120
   by_cases c13 : t524 = true
   ·
    subst c13
    have H1 : (if (l4.length : Int) > 80 then (potsherdlaw20_FileGrows.j0 k a1 a2 a3 l4 true l0_0) else (if a1 < 0 then (potsherdlaw20_FileGrows.j0 k a1 a2 a3 l4 true l0_0) else (if a1 ≥ (l0_0.length : Int) then (potsherdlaw20_FileGrows.j0 k a1 a2 a3 l4 true l0_0) else (if 0 ≤ a1 then (if a1 < (l0_0.length : Int) then (potsherdlaw20_FileGrows.j0 k a1 a2 a3 l4 (((rd_T28 l0_0 a1).f0) != 1) l0_0) else (none)) else (none))))) = some true := by rw [if_pos rfl] at H; exact H
    clear H; have H := H1; clear H1
    by_cases c14 : (l4.length : Int) > 80
    ·
     rw [if_pos c14] at H; have c14b0 : decide (80 < (l4.length : Int)) = true := decide_eq_true c14; have c14b1 : decide (80 < l4.length) = true := decide_eq_true (by omega); clear c14; have H' := Aside0.mk H; clear H; obtain ⟨hcz15_0, hfz15_0⟩ := cY0 BK522
     go_wp2_with (first | ((with_reducible refine gate_callee (f := 13) rfl ?_); refine goesK (some 20) Try.func13 #[.agg #[.slice A0_0 l0_0.length c0_0]] ?_; (with_reducible refine (potsherdlaw15_Light.calls k _ _ l0_0 t523 _ ?side1 ?side2 A8.out).mono ?_); (case side1 => exact mC HR0_0 HB); (case side2 => exact HC0_0.out); rintro e w16 ⟨rfl, hb⟩; refine ⟨_, rfl, ?_⟩; replace BK522 := kB BK522 hb; replace HB := kH HB hb; (try clear hb); obtain ⟨hcz17_0, hfz17_0⟩ := cY0 BK522) | (go_at_call 29; (with_reducible refine (potsherdref12_MayTree.calls k _ _ l0_0 true _ ?side1 ?side2 A12.out).mono ?_); (case side1 => exact mC HR0_0 HB); (case side2 => exact HC0_0.out); rintro e w18 ⟨rfl, hb⟩; replace BK522 := kB BK522 hb; replace HB := kH HB hb; (try clear hb)))
     go_meet
     case rel => exact ⟨_, (true), sI, H', ⟨by first | omega | exact Nat.le_refl _⟩, ⟨mB BK522⟩, ⟨mH HB⟩⟩
    ·
     rw [if_neg c14] at H; have c14b0 : decide (80 < (l4.length : Int)) = false := decide_eq_false c14; have c14b1 : decide (80 < l4.length) = false := decide_eq_false (by omega); clear c14
     by_cases c19 : a1 < 0
     ·
      rw [if_pos c19] at H; have c19b0 := decide_eq_true c19; clear c19; have H' := Aside0.mk H; clear H; obtain ⟨hcz20_0, hfz20_0⟩ := cY0 BK522
      go_wp2_with (first | ((with_reducible refine gate_callee (f := 13) rfl ?_); refine goesK (some 20) Try.func13 #[.agg #[.slice A0_0 l0_0.length c0_0]] ?_; (with_reducible refine (potsherdlaw15_Light.calls k _ _ l0_0 t523 _ ?side1 ?side2 A8.out).mono ?_); (case side1 => exact mC HR0_0 HB); (case side2 => exact HC0_0.out); rintro e w21 ⟨rfl, hb⟩; refine ⟨_, rfl, ?_⟩; replace BK522 := kB BK522 hb; replace HB := kH HB hb; (try clear hb); obtain ⟨hcz22_0, hfz22_0⟩ := cY0 BK522) | (go_at_call 29; (with_reducible refine (potsherdref12_MayTree.calls k _ _ l0_0 true _ ?side1 ?side2 A12.out).mono ?_); (case side1 => exact mC HR0_0 HB); (case side2 => exact HC0_0.out); rintro e w23 ⟨rfl, hb⟩; replace BK522 := kB BK522 hb; replace HB := kH HB hb; (try clear hb)))
      go_meet
      case rel => exact ⟨_, (true), sI, H', ⟨by first | omega | exact Nat.le_refl _⟩, ⟨mB BK522⟩, ⟨mH HB⟩⟩
     ·
      rw [if_neg c19] at H; have c19b0 := decide_eq_false c19; clear c19
      by_cases c24 : a1 ≥ (l0_0.length : Int)
      ·
       rw [if_pos c24] at H; have c24b0 : decide ((l0_0.length : Int) ≤ a1) = true := decide_eq_true c24; clear c24; have H' := Aside0.mk H; clear H; obtain ⟨hcz25_0, hfz25_0⟩ := cY0 BK522
       go_wp2_with (first | ((with_reducible refine gate_callee (f := 13) rfl ?_); refine goesK (some 20) Try.func13 #[.agg #[.slice A0_0 l0_0.length c0_0]] ?_; (with_reducible refine (potsherdlaw15_Light.calls k _ _ l0_0 t523 _ ?side1 ?side2 A8.out).mono ?_); (case side1 => exact mC HR0_0 HB); (case side2 => exact HC0_0.out); rintro e w26 ⟨rfl, hb⟩; refine ⟨_, rfl, ?_⟩; replace BK522 := kB BK522 hb; replace HB := kH HB hb; (try clear hb); obtain ⟨hcz27_0, hfz27_0⟩ := cY0 BK522) | (go_at_call 29; (with_reducible refine (potsherdref12_MayTree.calls k _ _ l0_0 true _ ?side1 ?side2 A12.out).mono ?_); (case side1 => exact mC HR0_0 HB); (case side2 => exact HC0_0.out); rintro e w28 ⟨rfl, hb⟩; replace BK522 := kB BK522 hb; replace HB := kH HB hb; (try clear hb); obtain ⟨hcz29_0, hfz29_0⟩ := cY0 BK522))
       go_meet
       case rel => exact ⟨_, (true), sI, H', ⟨by first | omega | exact Nat.le_refl _⟩, ⟨mB BK522⟩, ⟨mH HB⟩⟩
      ·
       rw [if_neg c24] at H; have c24b0 : decide ((l0_0.length : Int) ≤ a1) = false := decide_eq_false c24; clear c24
       replace H := nP H; obtain ⟨c30, H⟩ := H; have c30b0 := decide_eq_true c30; clear c30
       replace H := nP H; obtain ⟨c31, H⟩ := H; have c31b0 := decide_eq_true c31; clear c31; have H' := Aside0.mk H; clear H; obtain ⟨hcz32_0, hfz32_0⟩ := cY0 BK522
       go_wp2_with (first | ((with_reducible refine gate_callee (f := 13) rfl ?_); refine goesK (some 20) Try.func13 #[.agg #[.slice A0_0 l0_0.length c0_0]] ?_; (with_reducible refine (potsherdlaw15_Light.calls k _ _ l0_0 t523 _ ?side1 ?side2 A8.out).mono ?_); (case side1 => exact mC HR0_0 HB); (case side2 => exact HC0_0.out); rintro e w33 ⟨rfl, hb⟩; refine ⟨_, rfl, ?_⟩; replace BK522 := kB BK522 hb; replace HB := kH HB hb; (try clear hb); obtain ⟨hcz34_0, hfz34_0⟩ := cY0 BK522) | (go_at_call 29; (with_reducible refine (potsherdref12_MayTree.calls k _ _ l0_0 true _ ?side1 ?side2 A12.out).mono ?_); (case side1 => exact mC HR0_0 HB); (case side2 => exact HC0_0.out); rintro e w35 ⟨rfl, hb⟩; replace BK522 := kB BK522 hb; replace HB := kH HB hb; (try clear hb); obtain ⟨hcz36_0, hfz36_0⟩ := cY0 BK522; have p525 : 0 ≤ (a1 : Int) := dT; have q525 : a1 < (l0_0.length : Int) := dT; obtain ⟨ad525, A525_3, c525_3, A525_4, c525_4, e525, hx525_0, hx525_1, hx525_2, hx525_3, hx525_4, hl525_3, hi525_3, hl525_4, hi525_4⟩ := at_T28 HR0_0.out a1 p525 q525; cases e525; replace hx525_0 := xC HB hx525_0; replace hx525_1 := xC HB hx525_1; replace hx525_2 := xC HB hx525_2; replace hx525_3 := xC HB hx525_3; replace hx525_4 := xC HB hx525_4; have HR525_3 := Aside0.mk hi525_3; have HC525_3 := Aside0.mk hl525_3; clear hi525_3 hl525_3; have HR525_4 := Aside0.mk hi525_4; have HC525_4 := Aside0.mk hl525_4; clear hi525_4 hl525_4; replace p525 := eq_true p525; replace q525 := eq_true q525))
       go_meet
       case rel => exact ⟨_, ((((rd_T28 l0_0 a1).f0) != 1)), sI, H', ⟨by first | omega | exact Nat.le_refl _⟩, ⟨mB BK522⟩, ⟨mH HB⟩⟩
   ·
    replace c13 := Bool.eq_false_iff.mpr c13; subst c13
    have H1 : (potsherdlaw20_FileGrows.j0 k a1 a2 a3 l4 true l0_0) = some true := by rw [if_neg (show ¬ (false = true) by decide)] at H; exact H
    clear H; have H := H1; clear H1; have H' := Aside0.mk H; clear H; obtain ⟨hcz37_0, hfz37_0⟩ := cY0 BK522
    go_wp2_with (first | ((with_reducible refine gate_callee (f := 13) rfl ?_); refine goesK (some 20) Try.func13 #[.agg #[.slice A0_0 l0_0.length c0_0]] ?_; (with_reducible refine (potsherdlaw15_Light.calls k _ _ l0_0 t523 _ ?side1 ?side2 A8.out).mono ?_); (case side1 => exact mC HR0_0 HB); (case side2 => exact HC0_0.out); rintro e w38 ⟨rfl, hb⟩; refine ⟨_, rfl, ?_⟩; replace BK522 := kB BK522 hb; replace HB := kH HB hb; (try clear hb); obtain ⟨hcz39_0, hfz39_0⟩ := cY0 BK522) | (go_at_call 29; (with_reducible refine (potsherdref12_MayTree.calls k _ _ l0_0 false _ ?side1 ?side2 A12.out).mono ?_); (case side1 => exact mC HR0_0 HB); (case side2 => exact HC0_0.out); rintro e w40 ⟨rfl, hb⟩; replace BK522 := kB BK522 hb; replace HB := kH HB hb; (try clear hb)))
    go_meet
    case rel => exact ⟨_, (true), sI, H', ⟨by first | omega | exact Nat.le_refl _⟩, ⟨mB BK522⟩, ⟨mH HB⟩⟩
 case rest =>
  clear HC6
  (try clear c4)
  obtain ⟨kq, x51_5, rfl, HA, HJ5, BK522, HB⟩ := hcut
  cases kq with
  | zero => exact absurd HA.out (by simp [potsherdlaw20_FileGrows.j0])
  | succ kj5 =>
   have H := HA.out; clear HA; simp only [potsherdlaw20_FileGrows.j0] at H
   by_cases c41 : x51_5 = true
   ·
    subst c41
    have H1 : ((potsherdlaw20_awake.f kj5).bind fun t526 => (some t526)) = some true := by rw [if_pos rfl] at H; exact H
    clear H; have H := H1; clear H1; replace H := Option.bind_eq_some_iff.mp H; obtain ⟨t526, A420, H⟩ := H; have A42 := Aside0.mk A420; clear A420; have HRET := Aside0.mk (Option.some.inj H); clear H
    go_wp2_with (first | ((with_reducible refine gate_callee (f := 33) rfl ?_); refine goesK (some 52) Try.func33 #[] ?_; (with_reducible refine (potsherdlaw20_awake.calls kj5  t526 _ A42.out).mono ?_); rintro e w43 ⟨rfl, hb⟩; refine ⟨_, rfl, ?_⟩; replace BK522 := kB BK522 hb; replace HB := kH HB hb; (try clear hb)))
    go_ret
    exact ⟨rT, mH HB⟩
   · as_aux_lemma =>
    replace c41 := Bool.eq_false_iff.mpr c41; subst c41
    have H1 : ((file_Write.f kj5 l0_0 60 a1 (wrap64 (Int.tmod (IntKind.u64.wrap (a2)) 81)) l4).bind fun bt527 => (if bt527.2.2 = 0 then (if (bt527.1.length : Int) = 12 then (if (l4.length : Int) > 0 then (if 0 ≤ a1 then (if a1 < (bt527.1.length : Int) then (if a1 < (l0_0.length : Int) then (if ((rd_T28 bt527.1 a1).f2) = (mx ((rd_T28 l0_0 a1).f2) (wrap64 ((wrap64 (Int.tmod (IntKind.u64.wrap (a2)) 81)) + (l4.length : Int)))) then (if (l4.length : Int) = 0 then (none) else (potsherdlaw20_FileGrows.j1 kj5 a1 (wrap64 (Int.tmod (IntKind.u64.wrap (a3)) 81)) bt527.2.2 false l0_0)) else (none)) else (none)) else (none)) else (none)) else (if (l4.length : Int) = 0 then (if (bt527.2.1.length : Int) = 0 then ((potsherdref12_SameTree.f kj5 l0_0 bt527.1).bind fun t538 => (potsherdlaw20_FileGrows.j1 kj5 a1 (wrap64 (Int.tmod (IntKind.u64.wrap (a3)) 81)) bt527.2.2 (!t538) l0_0)) else (none)) else (none))) else (none)) else (potsherdlaw20_FileGrows.j1 kj5 a1 (wrap64 (Int.tmod (IntKind.u64.wrap (a3)) 81)) bt527.2.2 false l0_0))) = some true := by rw [if_neg (show ¬ (false = true) by decide)] at H; exact H
    clear H; have H := H1; clear H1; replace H := Option.bind_eq_some_iff.mp H; obtain ⟨⟨t527, t530, t533⟩, A440, H⟩ := H; replace H : (if t533 = 0 then (if (t527.length : Int) = 12 then (if (l4.length : Int) > 0 then (if 0 ≤ a1 then (if a1 < (t527.length : Int) then (if a1 < (l0_0.length : Int) then (if ((rd_T28 t527 a1).f2) = (mx ((rd_T28 l0_0 a1).f2) (wrap64 ((wrap64 (Int.tmod (IntKind.u64.wrap (a2)) 81)) + (l4.length : Int)))) then (if (l4.length : Int) = 0 then (none) else (potsherdlaw20_FileGrows.j1 kj5 a1 (wrap64 (Int.tmod (IntKind.u64.wrap (a3)) 81)) t533 false l0_0)) else (none)) else (none)) else (none)) else (none)) else (if (l4.length : Int) = 0 then (if (t530.length : Int) = 0 then ((potsherdref12_SameTree.f kj5 l0_0 t527).bind fun t538 => (potsherdlaw20_FileGrows.j1 kj5 a1 (wrap64 (Int.tmod (IntKind.u64.wrap (a3)) 81)) t533 (!t538) l0_0)) else (none)) else (none))) else (none)) else (potsherdlaw20_FileGrows.j1 kj5 a1 (wrap64 (Int.tmod (IntKind.u64.wrap (a3)) 81)) t533 false l0_0)) = some true := H; have A44 := Aside0.mk A440; clear A440; have HC45 := Aside0.mk H; clear H; obtain ⟨hcz46_0, hfz46_0⟩ := cY0 BK522
    go_upto_region 5 with (first | ((with_reducible refine gate_callee (f := 34) rfl ?_); refine goesK (some 66) Try.func34 #[.agg #[.slice A0_0 l0_0.length c0_0], .int .i64 60, .int .i64 a1, .int .i64 (wrap64 (Int.tmod (IntKind.u64.wrap (a2)) 81)), .slice A4 l4.length c4] ?_; (with_reducible refine (file_Write.calls kj5 _ _ l0_0 60 a1 (wrap64 (Int.tmod (IntKind.u64.wrap (a2)) 81)) (fun k_ => k_ < w.heap.size) _ _ l4 t527 t530 t533 _ ?side1 ?side2 ?side3 A44.out).mono ?_); (case side1 => exact mC HR0_0 HB); (case side2 => exact HC0_0.out); (case side3 => exact Kd.V_mk HC4.out (Kd.F_below (Kd.C_F (Kd.heap_int .u8) HR4.out) (mH HB))); rintro e w47 ⟨v528, v531, rfl, ho0, ho1, hb⟩; refine ⟨_, rfl, ?_⟩; have HO529 := Aside0.mk (Kd.S_lower (Kd.S_mono (ok' := fun k_ => True) ho0 (fun _ hk_ => trivial)) (below_size (mH HB))); have HO532 := Aside0.mk (Kd.S_lower (Kd.S_mono (ok' := fun k_ => True) ho1 (fun _ hk_ => trivial)) (below_size (mH HB))); replace BK522 := kB BK522 hb; replace HB := kH HB hb; (try clear hb); (try clear ho0); (try clear ho1)) | ((with_reducible refine gate_dst (N := 11) rfl ?_); (try (refine gate_guard (by rfl) ?_; dsimp only)); refine bxE 24 (cs := #[.slice none 0 0]) ?_; intro gb534 hg w48 hbox hb; replace HO529 := kS HO529 hb; replace HO532 := kS HO532 hb; have BK534 := Aside0.mk hbox; have GW534 := kG HB hg; have GE534 := kG HB hg; replace HB := kH HB hb; have NB522_534 := kL BK522 hg; have NB534_522 := kQ BK522 hg; replace BK522 := kB BK522 hb; clear hb hbox hg; obtain ⟨Ao49, co49, eo49⟩ := Kd.S_slice HO529.out; subst eo49; have hnb50 := NB534_522.out; have hnc50 := NB522_534.out; obtain ⟨hcz51_0, hfz51_0⟩ := cY0 BK534))
    (try simp only [Act.put, lT, l0_, lS])
    go_cut [118] (fun v118 wc => ∃ (kq : Nat) (x118_44 : Bool), v118 = .bool x118_44 ∧ Aside0 (potsherdlaw20_FileGrows.j1 kq a1 (wrap64 (Int.tmod (IntKind.u64.wrap (a3)) 81)) t533 x118_44 l0_0 = some true) ∧ Aside0 (kq ≤ kj5) ∧ Aside0 (Kd.S k28 28 wc w.heap.size (fun _ => True) (.slice Ao49 t527.length co49) t527) ∧ Aside0 (wc.heap[gb522]? = some (.cells #[(.slice A0_0 l0_0.length c0_0)] 24 (0, 0))) ∧ Aside0 (wc.heap[gb534]? = some (.cells #[(.slice Ao49 t527.length co49)] 24 (0, 0))) ∧ Aside0 (Below w.heap.size w wc))
    case first => as_aux_lemma =>
     have H := HC45.out; clear HC45
     by_cases c52 : t533 = 0
     · as_aux_lemma =>
      rw [if_pos c52] at H; obtain ⟨c52b0, c52b1⟩ := eP c52; clear c52
      (first | rw [c52b0] | (simp only [i64_w, i32_w]; rw [c52b0]) | skip)
      replace H := nP H; obtain ⟨c53, H⟩ := H; obtain ⟨c53b0, c53b1⟩ := eP c53; clear c53
      by_cases c54 : (l4.length : Int) > 0
      · as_aux_lemma =>
       rw [if_pos c54] at H; have c54b0 : decide (0 < (l4.length : Int)) = true := decide_eq_true c54; have c54b1 : decide (0 < l4.length) = true := decide_eq_true (by omega); clear c54
       replace H := nP H; obtain ⟨c55, H⟩ := H; have c55b0 := decide_eq_true c55; clear c55
       replace H := nP H; obtain ⟨c56, H⟩ := H; have c56b0 := decide_eq_true c56; clear c56
       replace H := nP H; obtain ⟨c57, H⟩ := H; have c57b0 := decide_eq_true c57; clear c57; obtain ⟨ji58, hji58⟩ : ∃ j_ : Int, (mx ((rd_T28 l0_0 a1).f2) (wrap64 ((wrap64 (Int.tmod (IntKind.u64.wrap (a2)) 81)) + (l4.length : Int)))) = j_ := ⟨_, rfl⟩
       replace H : (if ((rd_T28 t527 a1).f2) = (ji58) then (if (l4.length : Int) = 0 then (none) else (potsherdlaw20_FileGrows.j1 kj5 a1 (wrap64 (Int.tmod (IntKind.u64.wrap (a3)) 81)) t533 false l0_0)) else (none)) = some true := by first | (rw [hji58] at H; exact H) | (simp only [hji58] at H ⊢; exact H)
       have hji58_ : (if ((rd_T28 l0_0 a1).f2) < (wrap64 ((wrap64 (Int.tmod (IntKind.u64.wrap (a2)) 81)) + (l4.length : Int))) then (wrap64 ((wrap64 (Int.tmod (IntKind.u64.wrap (a2)) 81)) + (l4.length : Int))) else ((rd_T28 l0_0 a1).f2)) = ji58 := hji58
       replace H := nP H; obtain ⟨c59, H⟩ := H; obtain ⟨c59b0, c59b1⟩ := eP c59; clear c59
       replace H := nQ H; obtain ⟨c60, H⟩ := H; obtain ⟨c60b0, c60b1⟩ := eN c60
       have c60b2 : ¬ (l4 = []) := fun h_ => c60 (by rw [h_]; rfl)
       have H' := Aside0.mk H; clear H
       try go_wp2
       obtain ⟨w61, hw_, n_⟩ : ∃ W_, w48.setCell ⟨gb534, 0, none⟩ (.slice Ao49 t527.length co49) = W_ ∧ Aside0 (Kd.S k28 28 W_ w.heap.size (fun _ => True) (.slice Ao49 t527.length co49) t527) ∧ Aside0 (Kd.S k60 60 W_ w.heap.size (fun _ => True) v531 t530) ∧ Aside0 (W_.heap[gb522]? = some (.cells #[.slice A0_0 l0_0.length c0_0] 24 (0, 0))) ∧ Aside0 (W_.heap[gb534]? = some (.cells #[.slice Ao49 t527.length co49] 24 (0, 0))) ∧ Aside0 (Below w.heap.size w W_) := ⟨_, rfl, ⟨fS ⟨Kd.S_types HO529.out BK534.out (by decide)⟩⟩, ⟨fS ⟨Kd.S_types HO532.out BK534.out (by decide)⟩⟩, ⟨mF BK522⟩, ⟨pP BK534⟩, ⟨mH HB⟩⟩
       (try clear HO529); (try clear HO532); (try clear BK522); (try clear BK534); (try clear HB); rewrite [hw_]; clear hw_; obtain ⟨HO529, HO532, BK522, BK534, HB⟩ := n_; replace HO529 := Aside0.mk (Kd.S_drew HO529.out); replace HO532 := Aside0.mk (Kd.S_drew HO532.out); replace BK522 := Aside0.mk (bD BK522.out); replace BK534 := Aside0.mk (bD BK534.out); replace HB := Aside0.mk (wD HB.out); have p535 : 0 ≤ (a1 : Int) := dT; have q535 : a1 < (t527.length : Int) := dT; obtain ⟨ad535, A535_3, c535_3, A535_4, c535_4, e535, hx535_0, hx535_1, hx535_2, hx535_3, hx535_4, hl535_3, hi535_3, hl535_4, hi535_4⟩ := at_T28 (Kd.S_reads' HO529.out).2.2 a1 p535 q535
       cases e535
       obtain ⟨ce535, hce535, hMe535, hcc535⟩ := Kd.S_get HO529.out z28 a1 p535 (by first | exact q535 | exact dT | (have e_ := (Kd.S_reads' HO529.out).1; omega))
       obtain ⟨ve535_3, ve535_4, rfl, ge535_3, ge535_4⟩ := k28_openM hMe535; have hv535_3 := hcc535 3 _ rfl; rw [add_field _ _ 3 (by omega)] at hv535_3; replace hv535_3 := Option.some.inj (hv535_3.symm.trans hx535_3); rw [hv535_3] at ge535_3; have HL535_3 := Aside0.mk (show Kd.R (Kd.int .i64) 3 _ _ _ _ ((rd_T28 t527 a1).f3) from ge535_3); clear hv535_3 ge535_3; have hv535_4 := hcc535 4 _ rfl; rw [add_field _ _ 4 (by omega)] at hv535_4; replace hv535_4 := Option.some.inj (hv535_4.symm.trans hx535_4); rw [hv535_4] at ge535_4; have HL535_4 := Aside0.mk (show Kd.R k78 78 _ _ _ _ ((rd_T28 t527 a1).f4) from ge535_4); clear hv535_4 ge535_4; clear hcc535 hce535; have HR535_3 := Aside0.mk hi535_3; have HC535_3 := Aside0.mk hl535_3; clear hi535_3 hl535_3; have HR535_4 := Aside0.mk hi535_4; have HC535_4 := Aside0.mk hl535_4; clear hi535_4 hl535_4; replace p535 := eq_true p535; replace q535 := eq_true q535; have p536 : 0 ≤ (a1 : Int) := dT; have q536 : a1 < (l0_0.length : Int) := dT; obtain ⟨ad536, A536_3, c536_3, A536_4, c536_4, e536, hx536_0, hx536_1, hx536_2, hx536_3, hx536_4, hl536_3, hi536_3, hl536_4, hi536_4⟩ := at_T28 HR0_0.out a1 p536 q536; have hw536_4 := hx536_4; have hw536_3 := hx536_3; have hw536_2 := hx536_2; have hw536_1 := hx536_1; have hw536_0 := hx536_0
       cases e536
       replace hx536_0 := xC HB hx536_0; replace hx536_1 := xC HB hx536_1; replace hx536_2 := xC HB hx536_2; replace hx536_3 := xC HB hx536_3; replace hx536_4 := xC HB hx536_4; have HR536_3 := Aside0.mk hi536_3; have HC536_3 := Aside0.mk hl536_3; clear hi536_3 hl536_3; have HR536_4 := Aside0.mk hi536_4; have HC536_4 := Aside0.mk hl536_4; clear hi536_4 hl536_4; replace p536 := eq_true p536; replace q536 := eq_true q536; refine start_ (n := 49) (S := fun w' => w'.cell? ⟨gb534, 0, none⟩ = some (.slice (some ad535) t527.length co49) ∧ w'.cell? ⟨gb522, 0, none⟩ = some (.slice (some ad536) l0_0.length c0_0) ∧ w'.cell? (ad535.add ((a1).toNat * 5)) = some (.int .i64 ((rd_T28 t527 a1).f0)) ∧ w'.cell? ⟨(ad535.add ((a1).toNat * 5)).block, (ad535.add ((a1).toNat * 5)).off + 1, none⟩ = some (.int .i64 ((rd_T28 t527 a1).f1)) ∧ w'.cell? ⟨(ad535.add ((a1).toNat * 5)).block, (ad535.add ((a1).toNat * 5)).off + 2, none⟩ = some (.int .i64 ((rd_T28 t527 a1).f2)) ∧ w'.cell? ⟨(ad535.add ((a1).toNat * 5)).block, (ad535.add ((a1).toNat * 5)).off + 3, none⟩ = some (.slice A535_3 ((rd_T28 t527 a1).f3).length c535_3) ∧ w'.cell? ⟨(ad535.add ((a1).toNat * 5)).block, (ad535.add ((a1).toNat * 5)).off + 4, none⟩ = some (.slice A535_4 ((rd_T28 t527 a1).f4).length c535_4) ∧ w'.cell? (ad536.add ((a1).toNat * 5)) = some (.int .i64 ((rd_T28 l0_0 a1).f0)) ∧ w'.cell? ⟨(ad536.add ((a1).toNat * 5)).block, (ad536.add ((a1).toNat * 5)).off + 1, none⟩ = some (.int .i64 ((rd_T28 l0_0 a1).f1)) ∧ w'.cell? ⟨(ad536.add ((a1).toNat * 5)).block, (ad536.add ((a1).toNat * 5)).off + 2, none⟩ = some (.int .i64 ((rd_T28 l0_0 a1).f2)) ∧ w'.cell? ⟨(ad536.add ((a1).toNat * 5)).block, (ad536.add ((a1).toNat * 5)).off + 3, none⟩ = some (.slice A536_3 ((rd_T28 l0_0 a1).f3).length c536_3) ∧ w'.cell? ⟨(ad536.add ((a1).toNat * 5)).block, (ad536.add ((a1).toNat * 5)).off + 4, none⟩ = some (.slice A536_4 ((rd_T28 l0_0 a1).f4).length c536_4)) (ds := []) B37_0 (by kernel_rfl) rfl rfl ⟨(bC BK534.out 0).trans rfl, (bC BK522.out 0).trans rfl, hx535_0, hx535_1, hx535_2, hx535_3, hx535_4, (xC HB hw536_0), (xC HB hw536_1), (xC HB hw536_2), (xC HB hw536_3), (xC HB hw536_4)⟩ (fun hHeld => ?_); refine with_tabW potsherdlaw20_FileGrows.tab5 potsherdlaw20_FileGrows.bits5 (fun HT_ HW_ => ?_); generalize w61.drew = w62 at HO529 HO532 BK522 BK534 HB HL535_3 HL535_4 HR535_3 HR535_4 HR536_3 HR536_4 hx535_0 hx535_1 hx535_2 hx535_3 hx535_4 hx536_0 hx536_1 hx536_2 hx536_3 hx536_4 hHeld ⊢; refine pure_ (i := 0) (N := some 70) (v := ?_) (a' := ?_) B37_1 rfl rfl (any_of HT_.out (by kernel_rfl)) (fun _ _ _ h => h) (Or.inl ⟨by rfl, ?_⟩) ?_ ?_; rotate_left
       ·
        intro w'; go_simp; with_reducible rfl
       rotate_left
       ·
        simp only [Act.put, lT, l0_, lS, i64_w, i32_w]; rfl
       refine pureE 1 (some 71) B37_2 (any_of HT_.out (by kernel_rfl)) ?_
       refine pureE 2 (some 72) B37_3 (any_of HT_.out (by kernel_rfl)) ?_
       refine pureE 3 (some 73) B37_4 (any_of HT_.out (by kernel_rfl)) ?_
       refine take_ (i := 4) (N := some 74) (v := ?_) (a' := ?_) B37_5 rfl rfl (take_ofW HT_.out HW_.out (by kernel_rfl)) (fun _ _ _ h => h) (Or.inl ⟨by rfl, ?_⟩) hHeld ?_ ?_; rotate_left
       ·
        rintro w' ⟨s0, s1, s2, s3, s4, s5, s6, s7, s8, s9, s10, s11⟩; go_simp; with_reducible rfl
       rotate_left
       ·
        simp only [Act.put, lT, l0_, lS, i64_w, i32_w]; rfl
       refine pureE 5 (some 75) B37_6 (any_of HT_.out (by kernel_rfl)) ?_
       refine pureE 6 (some 76) B37_7 (any_of HT_.out (by kernel_rfl)) ?_
       refine pureE 7 (some 77) B37_8 (any_of HT_.out (by kernel_rfl)) ?_
       refine pureE 8 (some 78) B37_9 (any_of HT_.out (by kernel_rfl)) ?_
       refine pureE 9 (some 79) B37_10 (any_of HT_.out (by kernel_rfl)) ?_
       refine pureE 10 (some 80) B37_11 (any_of HT_.out (by kernel_rfl)) ?_
       refine pureE 11 (some 81) B37_12 (any_of HT_.out (by kernel_rfl)) ?_
       refine pureE 12 (some 82) B37_13 (any_of HT_.out (by kernel_rfl)) ?_
       refine pureE 14 (some 84) B37_14 (any_of HT_.out (by kernel_rfl)) ?_
       refine pureE 18 (some 88) B37_15 (any_of HT_.out (by kernel_rfl)) ?_
       refine pureE 20 (some 90) B37_16 (any_of HT_.out (by kernel_rfl)) ?_
       refine pureE 24 (some 94) B37_17 (any_of HT_.out (by kernel_rfl)) ?_
       refine pureE 25 (some 95) B37_18 (any_of HT_.out (by kernel_rfl)) ?_
       refine pureE 26 (some 96) B37_19 (any_of HT_.out (by kernel_rfl)) ?_
       refine pureE 27 (some 97) B37_20 (any_of HT_.out (by kernel_rfl)) ?_
       refine take_ (i := 13) (N := some 83) (v := ?_) (a' := ?_) B37_21 rfl rfl (take_ofW HT_.out HW_.out (by kernel_rfl)) (fun _ _ _ h => h) (Or.inl ⟨by rfl, ?_⟩) hHeld ?_ ?_; rotate_left
       ·
        rintro w' ⟨s0, s1, s2, s3, s4, s5, s6, s7, s8, s9, s10, s11⟩; go_simp; with_reducible rfl
       rotate_left
       ·
        simp only [Act.put, lT, l0_, lS, i64_w, i32_w]; rfl
       refine pureE 15 (some 85) B37_22 (any_of HT_.out (by kernel_rfl)) ?_
       refine pureE 16 (some 86) B37_23 (any_of HT_.out (by kernel_rfl)) ?_
       refine take_ (i := 17) (N := some 87) (v := ?_) (a' := ?_) B37_24 rfl rfl (take_ofW HT_.out HW_.out (by kernel_rfl)) (fun _ _ _ h => h) (Or.inl ⟨by rfl, ?_⟩) hHeld ?_ ?_; rotate_left
       ·
        rintro w' ⟨s0, s1, s2, s3, s4, s5, s6, s7, s8, s9, s10, s11⟩; go_simp; with_reducible rfl
       rotate_left
       ·
        simp only [Act.put, lT, l0_, lS, i64_w, i32_w]; rfl
       refine take_ (i := 19) (N := some 89) (v := ?_) (a' := ?_) B37_25 rfl rfl (take_ofW HT_.out HW_.out (by kernel_rfl)) (fun _ _ _ h => h) (Or.inl ⟨by rfl, ?_⟩) hHeld ?_ ?_; rotate_left
       ·
        rintro w' ⟨s0, s1, s2, s3, s4, s5, s6, s7, s8, s9, s10, s11⟩; go_simp; with_reducible rfl
       rotate_left
       ·
        simp only [Act.put, lT, l0_, lS, i64_w, i32_w]; rfl
       refine pureE 21 (some 91) B37_26 (any_of HT_.out (by kernel_rfl)) ?_
       refine pureE 22 (some 92) B37_27 (any_of HT_.out (by kernel_rfl)) ?_
       refine take_ (i := 23) (N := some 93) (v := ?_) (a' := ?_) B37_28 rfl rfl (take_ofW HT_.out HW_.out (by kernel_rfl)) (fun _ _ _ h => h) (Or.inl ⟨by rfl, ?_⟩) hHeld ?_ ?_; rotate_left
       ·
        rintro w' ⟨s0, s1, s2, s3, s4, s5, s6, s7, s8, s9, s10, s11⟩; go_simp; with_reducible rfl
       rotate_left
       ·
        simp only [Act.put, lT, l0_, lS, i64_w, i32_w]; rfl
       refine pureE 28 (some 98) B37_29 (any_of HT_.out (by kernel_rfl)) ?_
       refine pureE 29 (some 99) B37_30 (any_of HT_.out (by kernel_rfl)) ?_
       refine pureE 30 (some 100) B37_31 (any_of HT_.out (by kernel_rfl)) ?_
       refine pureE 31 (some 101) B37_32 (any_of HT_.out (by kernel_rfl)) ?_
       refine pureE 32 (some 102) B37_33 (any_of HT_.out (by kernel_rfl)) ?_
       refine pureE 33 (some 103) B37_34 (any_of HT_.out (by kernel_rfl)) ?_
       refine pureE 34 (some 104) B37_35 (any_of HT_.out (by kernel_rfl)) ?_
       refine pureE 35 (some 105) B37_36 (any_of HT_.out (by kernel_rfl)) ?_
       refine pureE 36 (some 106) B37_37 (any_of HT_.out (by kernel_rfl)) ?_
       refine pureU 37 (some 107) B37_38 (any_of HT_.out (by kernel_rfl)) ?_
       refine pureU 38 (some 108) B37_39 (any_of HT_.out (by kernel_rfl)) ?_
       refine pureU 39 (some 109) B37_40 (any_of HT_.out (by kernel_rfl)) ?_
       refine pureU 40 (some 110) B37_41 (any_of HT_.out (by kernel_rfl)) ?_
       refine pureU 41 (some 111) B37_42 (any_of HT_.out (by kernel_rfl)) ?_
       refine pureU 42 (some 112) B37_43 (any_of HT_.out (by kernel_rfl)) ?_
       refine pureU 43 (some 113) B37_44 (any_of HT_.out (by kernel_rfl)) ?_
       refine pureU 44 (some 114) B37_45 (any_of HT_.out (by kernel_rfl)) ?_
       refine pureU 45 (some 115) B37_46 (any_of HT_.out (by kernel_rfl)) ?_
       refine pureE 46 (some 116) B37_47 (any_of HT_.out (by kernel_rfl)) ?_
       refine pureE 47 (some 117) B37_48 (any_of HT_.out (by kernel_rfl)) ?_
       refine pureE 48 (some 118) B37_49 (any_of HT_.out (by kernel_rfl)) ?_
       refine done_ (done_of HT_.out (by kernel_rfl)) ?_
       try go_wp2
       go_meet
       case rel => exact ⟨_, (false), sI, H', ⟨by have := HJ5.out; first | omega | exact Nat.le_refl _⟩, ⟨mS HO529⟩, ⟨mB BK522⟩, ⟨mB BK534⟩, ⟨mH HB⟩⟩
      · as_aux_lemma =>
       rw [if_neg c54] at H; have c54b0 : decide (0 < (l4.length : Int)) = false := decide_eq_false c54; have c54b1 : decide (0 < l4.length) = false := decide_eq_false (by omega); clear c54
       replace H := nP H; obtain ⟨c63, H⟩ := H; obtain ⟨c63b0, c63b1⟩ := eP c63; clear c63
       replace H := nP H; obtain ⟨c64, H⟩ := H; obtain ⟨c64b0, c64b1⟩ := eP c64; clear c64; replace H := Option.bind_eq_some_iff.mp H; obtain ⟨t538, A650, H⟩ := H; have A65 := Aside0.mk A650; clear A650; have H' := Aside0.mk H; clear H
       try go_wp2
       obtain ⟨w66, hw_, n_⟩ : ∃ W_, w48.setCell ⟨gb534, 0, none⟩ (.slice Ao49 t527.length co49) = W_ ∧ Aside0 (Kd.S k28 28 W_ w.heap.size (fun _ => True) (.slice Ao49 t527.length co49) t527) ∧ Aside0 (Kd.S k60 60 W_ w.heap.size (fun _ => True) v531 t530) ∧ Aside0 (W_.heap[gb522]? = some (.cells #[.slice A0_0 l0_0.length c0_0] 24 (0, 0))) ∧ Aside0 (W_.heap[gb534]? = some (.cells #[.slice Ao49 t527.length co49] 24 (0, 0))) ∧ Aside0 (Below w.heap.size w W_) := ⟨_, rfl, ⟨fS ⟨Kd.S_types HO529.out BK534.out (by decide)⟩⟩, ⟨fS ⟨Kd.S_types HO532.out BK534.out (by decide)⟩⟩, ⟨mF BK522⟩, ⟨pP BK534⟩, ⟨mH HB⟩⟩
       (try clear HO529); (try clear HO532); (try clear BK522); (try clear BK534); (try clear HB); rewrite [hw_]; clear hw_; obtain ⟨HO529, HO532, BK522, BK534, HB⟩ := n_; replace HO529 := Aside0.mk (Kd.S_drew HO529.out); replace HO532 := Aside0.mk (Kd.S_drew HO532.out); replace BK522 := Aside0.mk (bD BK522.out); replace BK534 := Aside0.mk (bD BK534.out); replace HB := Aside0.mk (wD HB.out); obtain ⟨Ao68, co68, eo68⟩ := Kd.S_slice HO532.out
       (first | subst eo68 | (injection eo68 with f1_ f2_ f3_; have f4_ := f1_.symm; have f5_ := f3_.symm; clear f1_ f2_ f3_; subst f4_; subst f5_))
       refine start_ (n := 49) (S := fun w' => w'.cell? ⟨gb534, 0, none⟩ = some (.slice Ao49 t527.length co49) ∧ w'.cell? ⟨gb522, 0, none⟩ = some (.slice A0_0 l0_0.length c0_0)) (ds := []) B37_0 (by kernel_rfl) rfl rfl ⟨(bC BK534.out 0).trans rfl, (bC BK522.out 0).trans rfl⟩ (fun hHeld => ?_); refine with_tabW potsherdlaw20_FileGrows.tab5 potsherdlaw20_FileGrows.bits5 (fun HT_ HW_ => ?_); generalize w66.drew = w67 at HO529 HO532 BK522 BK534 HB hHeld ⊢; refine pure_ (i := 0) (N := some 70) (v := ?_) (a' := ?_) B37_1 rfl rfl (any_of HT_.out (by kernel_rfl)) (fun _ _ _ h => h) (Or.inl ⟨by rfl, ?_⟩) ?_ ?_; rotate_left
       ·
        intro w'; go_simp; with_reducible rfl
       rotate_left
       ·
        simp only [Act.put, lT, l0_, lS, i64_w, i32_w]; rfl
       refine pureE 1 (some 71) B37_2 (any_of HT_.out (by kernel_rfl)) ?_
       refine pureE 2 (some 72) B37_3 (any_of HT_.out (by kernel_rfl)) ?_
       refine pureE 3 (some 73) B37_4 (any_of HT_.out (by kernel_rfl)) ?_
       refine take_ (i := 4) (N := some 74) (v := ?_) (a' := ?_) B37_5 rfl rfl (take_ofW HT_.out HW_.out (by kernel_rfl)) (fun _ _ _ h => h) (Or.inl ⟨by rfl, ?_⟩) hHeld ?_ ?_; rotate_left
       ·
        rintro w' ⟨s0, s1⟩; go_simp; with_reducible rfl
       rotate_left
       ·
        simp only [Act.put, lT, l0_, lS, i64_w, i32_w]; rfl
       refine pureE 5 (some 75) B37_6 (any_of HT_.out (by kernel_rfl)) ?_
       refine pureE 6 (some 76) B37_7 (any_of HT_.out (by kernel_rfl)) ?_
       refine pureE 7 (some 77) B37_8 (any_of HT_.out (by kernel_rfl)) ?_
       refine pureE 8 (some 78) B37_9 (any_of HT_.out (by kernel_rfl)) ?_
       refine pureE 9 (some 79) B37_10 (any_of HT_.out (by kernel_rfl)) ?_
       refine pureE 10 (some 80) B37_11 (any_of HT_.out (by kernel_rfl)) ?_
       refine pureE 11 (some 81) B37_12 (any_of HT_.out (by kernel_rfl)) ?_
       refine pureU 12 (some 82) B37_13 (any_of HT_.out (by kernel_rfl)) ?_
       refine pureU 13 (some 83) B37_50 (any_of HT_.out (by kernel_rfl)) ?_
       refine pureU 14 (some 84) B37_51 (any_of HT_.out (by kernel_rfl)) ?_
       refine pureU 15 (some 85) B37_52 (any_of HT_.out (by kernel_rfl)) ?_
       refine pureU 16 (some 86) B37_53 (any_of HT_.out (by kernel_rfl)) ?_
       refine pureU 17 (some 87) B37_54 (any_of HT_.out (by kernel_rfl)) ?_
       refine pureU 18 (some 88) B37_55 (any_of HT_.out (by kernel_rfl)) ?_
       refine pureU 19 (some 89) B37_56 (any_of HT_.out (by kernel_rfl)) ?_
       refine pureU 20 (some 90) B37_57 (any_of HT_.out (by kernel_rfl)) ?_
       refine pureU 21 (some 91) B37_58 (any_of HT_.out (by kernel_rfl)) ?_
       refine pureU 22 (some 92) B37_59 (any_of HT_.out (by kernel_rfl)) ?_
       refine pureU 23 (some 93) B37_60 (any_of HT_.out (by kernel_rfl)) ?_
       refine pureU 24 (some 94) B37_61 (any_of HT_.out (by kernel_rfl)) ?_
       refine pureU 25 (some 95) B37_62 (any_of HT_.out (by kernel_rfl)) ?_
       refine pureU 26 (some 96) B37_63 (any_of HT_.out (by kernel_rfl)) ?_
       refine pureU 27 (some 97) B37_28 (any_of HT_.out (by kernel_rfl)) ?_
       refine pureU 28 (some 98) B37_29 (any_of HT_.out (by kernel_rfl)) ?_
       refine pureU 29 (some 99) B37_30 (any_of HT_.out (by kernel_rfl)) ?_
       refine pureE 30 (some 100) B37_31 (any_of HT_.out (by kernel_rfl)) ?_
       refine pureE 31 (some 101) B37_32 (any_of HT_.out (by kernel_rfl)) ?_
       refine pureE 32 (some 102) B37_33 (any_of HT_.out (by kernel_rfl)) ?_
       refine pureE 33 (some 103) B37_34 (any_of HT_.out (by kernel_rfl)) ?_
       refine pureE 34 (some 104) B37_35 (any_of HT_.out (by kernel_rfl)) ?_
       refine pureE 35 (some 105) B37_36 (any_of HT_.out (by kernel_rfl)) ?_
       refine pureE 36 (some 106) B37_37 (any_of HT_.out (by kernel_rfl)) ?_
       refine pureE 37 (some 107) B37_38 (any_of HT_.out (by kernel_rfl)) ?_
       refine pureE 38 (some 108) B37_39 (any_of HT_.out (by kernel_rfl)) ?_
       refine pureE 39 (some 109) B37_40 (any_of HT_.out (by kernel_rfl)) ?_
       refine pureE 40 (some 110) B37_41 (any_of HT_.out (by kernel_rfl)) ?_
       refine take_ (i := 41) (N := some 111) (v := ?_) (a' := ?_) B37_42 rfl rfl (take_ofW HT_.out HW_.out (by kernel_rfl)) (fun _ _ _ h => h) (Or.inl ⟨by rfl, ?_⟩) hHeld ?_ ?_; rotate_left
       ·
        rintro w' ⟨s0, s1⟩; go_simp; with_reducible rfl
       rotate_left
       ·
        simp only [Act.put, lT, l0_, lS, i64_w, i32_w]; rfl
       refine take_ (i := 42) (N := some 112) (v := ?_) (a' := ?_) B37_43 rfl rfl (take_ofW HT_.out HW_.out (by kernel_rfl)) (fun _ _ _ h => h) (Or.inl ⟨by rfl, ?_⟩) hHeld ?_ ?_; rotate_left
       ·
        rintro w' ⟨s0, s1⟩; go_simp; with_reducible rfl
       rotate_left
       ·
        simp only [Act.put, lT, l0_, lS, i64_w, i32_w]; rfl
       refine one_ (i := 43) (N := some 113) B37_44 rfl rfl (one_of HT_.out (by kernel_rfl)) (by decide) (fun K hK => ?_); refine goes_ Try.func38 (by kernel_rfl) rfl #[.agg #[.slice A0_0 l0_0.length c0_0], .agg #[.slice Ao49 t527.length co49]] (by rfl) rfl rfl (by (try simp only [List.map_toArray, List.map_cons, List.map_nil]); first | done | rfl | (simp only [List.length_drop, List.length_take]; rfl)) ?_
       with_reducible refine (potsherdref12_SameTree.calls kj5 _ _ l0_0 _ _ t527 t538 _ ?side1 ?side2 ?side3 ?side4 A65.out).mono ?_
       (case side1 => exact mC HR0_0 HB)
       (case side2 => exact HC0_0.out)
       (case side3 => repeat (first | exact (Kd.S_reads' HO529.out).2.2 | (with_reducible refine Kd.C_alloc ?_ _) | (with_reducible refine Kd.C_drewN ?_ _) | (with_reducible refine Kd.C_drew ?_)))
       (case side4 => exact (Kd.S_reads' HO529.out).2.1)
       rintro e w69 ⟨rfl, hb⟩; refine ⟨_, rfl, ?_⟩; replace HO529 := kS HO529 hb; replace HO532 := kS HO532 hb; replace BK522 := kB BK522 hb; replace BK534 := kB BK534 hb; replace HB := kH HB hb
       (try clear hb); (try clear hk)
       refine hK.out _ _ ⟨(bC BK534.out 0).trans rfl, (bC BK522.out 0).trans rfl⟩ (fun hHeld => ?_); clear hK K; refine norm_ (a' := ?_) ?_ ?_; rotate_left
       ·
        show Act.put _ (some 113) _ = _
        simp only [Act.put, lT, l0_, lS, i64_w, i32_w]; rfl
       refine pureE 44 (some 114) B37_45 (any_of HT_.out (by kernel_rfl)) ?_
       refine pureE 45 (some 115) B37_46 (any_of HT_.out (by kernel_rfl)) ?_
       refine pureE 46 (some 116) B37_47 (any_of HT_.out (by kernel_rfl)) ?_
       refine pureE 47 (some 117) B37_48 (any_of HT_.out (by kernel_rfl)) ?_
       refine pureE 48 (some 118) B37_49 (any_of HT_.out (by kernel_rfl)) ?_
       refine done_ (done_of HT_.out (by kernel_rfl)) ?_
       try go_wp2
       go_meet
       case rel => exact ⟨_, (!t538), sI, H', ⟨by have := HJ5.out; first | omega | exact Nat.le_refl _⟩, ⟨mS HO529⟩, ⟨mB BK522⟩, ⟨mB BK534⟩, ⟨mH HB⟩⟩
     · as_aux_lemma =>
      rw [if_neg c52] at H; obtain ⟨c52b0, c52b1⟩ := eN c52
      (first | rw [c52b0] | (simp only [i64_w, i32_w]; rw [c52b0]) | skip)
      have H' := Aside0.mk H; clear H
      try go_wp2
      obtain ⟨w70, hw_, n_⟩ : ∃ W_, w48.setCell ⟨gb534, 0, none⟩ (.slice Ao49 t527.length co49) = W_ ∧ Aside0 (Kd.S k28 28 W_ w.heap.size (fun _ => True) (.slice Ao49 t527.length co49) t527) ∧ Aside0 (Kd.S k60 60 W_ w.heap.size (fun _ => True) v531 t530) ∧ Aside0 (W_.heap[gb522]? = some (.cells #[.slice A0_0 l0_0.length c0_0] 24 (0, 0))) ∧ Aside0 (W_.heap[gb534]? = some (.cells #[.slice Ao49 t527.length co49] 24 (0, 0))) ∧ Aside0 (Below w.heap.size w W_) := ⟨_, rfl, ⟨fS ⟨Kd.S_types HO529.out BK534.out (by decide)⟩⟩, ⟨fS ⟨Kd.S_types HO532.out BK534.out (by decide)⟩⟩, ⟨mF BK522⟩, ⟨pP BK534⟩, ⟨mH HB⟩⟩
      (try clear HO529); (try clear HO532); (try clear BK522); (try clear BK534); (try clear HB); rewrite [hw_]; clear hw_; obtain ⟨HO529, HO532, BK522, BK534, HB⟩ := n_; replace HO529 := Aside0.mk (Kd.S_drew HO529.out); replace HO532 := Aside0.mk (Kd.S_drew HO532.out); replace BK522 := Aside0.mk (bD BK522.out); replace BK534 := Aside0.mk (bD BK534.out); replace HB := Aside0.mk (wD HB.out); refine start_ (n := 49) (S := fun w' => True) (ds := []) B37_0 (by kernel_rfl) rfl rfl trivial (fun hHeld => ?_); refine with_tabW potsherdlaw20_FileGrows.tab5 potsherdlaw20_FileGrows.bits5 (fun HT_ HW_ => ?_); generalize w70.drew = w71 at HO529 HO532 BK522 BK534 HB hHeld ⊢; refine pure_ (i := 0) (N := some 70) (v := ?_) (a' := ?_) B37_1 rfl rfl (any_of HT_.out (by kernel_rfl)) (fun _ _ _ h => h) (Or.inl ⟨by rfl, ?_⟩) ?_ ?_; rotate_left
      ·
       intro w'; go_simp; with_reducible rfl
      rotate_left
      ·
       simp only [Act.put, lT, l0_, lS, i64_w, i32_w]; rfl
      refine pureE 1 (some 71) B37_2 (any_of HT_.out (by kernel_rfl)) ?_
      refine pureE 2 (some 72) B37_3 (any_of HT_.out (by kernel_rfl)) ?_
      refine pureU 3 (some 73) B37_4 (any_of HT_.out (by kernel_rfl)) ?_
      refine pureU 4 (some 74) B37_5 (any_of HT_.out (by kernel_rfl)) ?_
      refine pureU 5 (some 75) B37_6 (any_of HT_.out (by kernel_rfl)) ?_
      refine pureU 6 (some 76) B37_7 (any_of HT_.out (by kernel_rfl)) ?_
      refine pureU 7 (some 77) B37_8 (any_of HT_.out (by kernel_rfl)) ?_
      refine pureU 8 (some 78) B37_9 (any_of HT_.out (by kernel_rfl)) ?_
      refine pureU 9 (some 79) B37_10 (any_of HT_.out (by kernel_rfl)) ?_
      refine pureU 10 (some 80) B37_11 (any_of HT_.out (by kernel_rfl)) ?_
      refine pureU 11 (some 81) B37_12 (any_of HT_.out (by kernel_rfl)) ?_
      refine pureU 12 (some 82) B37_13 (any_of HT_.out (by kernel_rfl)) ?_
      refine pureU 13 (some 83) B37_50 (any_of HT_.out (by kernel_rfl)) ?_
      refine pureU 14 (some 84) B37_51 (any_of HT_.out (by kernel_rfl)) ?_
      refine pureU 15 (some 85) B37_52 (any_of HT_.out (by kernel_rfl)) ?_
      refine pureU 16 (some 86) B37_53 (any_of HT_.out (by kernel_rfl)) ?_
      refine pureU 17 (some 87) B37_54 (any_of HT_.out (by kernel_rfl)) ?_
      refine pureU 18 (some 88) B37_55 (any_of HT_.out (by kernel_rfl)) ?_
      refine pureU 19 (some 89) B37_56 (any_of HT_.out (by kernel_rfl)) ?_
      refine pureU 20 (some 90) B37_57 (any_of HT_.out (by kernel_rfl)) ?_
      refine pureU 21 (some 91) B37_58 (any_of HT_.out (by kernel_rfl)) ?_
      refine pureU 22 (some 92) B37_59 (any_of HT_.out (by kernel_rfl)) ?_
      refine pureU 23 (some 93) B37_60 (any_of HT_.out (by kernel_rfl)) ?_
      refine pureU 24 (some 94) B37_61 (any_of HT_.out (by kernel_rfl)) ?_
      refine pureU 25 (some 95) B37_62 (any_of HT_.out (by kernel_rfl)) ?_
      refine pureU 26 (some 96) B37_63 (any_of HT_.out (by kernel_rfl)) ?_
      refine pureU 27 (some 97) B37_28 (any_of HT_.out (by kernel_rfl)) ?_
      refine pureU 28 (some 98) B37_29 (any_of HT_.out (by kernel_rfl)) ?_
      refine pureU 29 (some 99) B37_30 (any_of HT_.out (by kernel_rfl)) ?_
      refine pureU 30 (some 100) B37_31 (any_of HT_.out (by kernel_rfl)) ?_
      refine pureU 31 (some 101) B37_32 (any_of HT_.out (by kernel_rfl)) ?_
      refine pureU 32 (some 102) B37_33 (any_of HT_.out (by kernel_rfl)) ?_
      refine pureU 33 (some 103) B37_34 (any_of HT_.out (by kernel_rfl)) ?_
      refine pureU 34 (some 104) B37_35 (any_of HT_.out (by kernel_rfl)) ?_
      refine pureU 35 (some 105) B37_36 (any_of HT_.out (by kernel_rfl)) ?_
      refine pureU 36 (some 106) B37_37 (any_of HT_.out (by kernel_rfl)) ?_
      refine pureU 37 (some 107) B37_38 (any_of HT_.out (by kernel_rfl)) ?_
      refine pureU 38 (some 108) B37_39 (any_of HT_.out (by kernel_rfl)) ?_
      refine pureU 39 (some 109) B37_40 (any_of HT_.out (by kernel_rfl)) ?_
      refine pureU 40 (some 110) B37_41 (any_of HT_.out (by kernel_rfl)) ?_
      refine pureU 41 (some 111) B37_42 (any_of HT_.out (by kernel_rfl)) ?_
      refine pureU 42 (some 112) B37_43 (any_of HT_.out (by kernel_rfl)) ?_
      refine pureU 43 (some 113) B37_44 (any_of HT_.out (by kernel_rfl)) ?_
      refine pureU 44 (some 114) B37_45 (any_of HT_.out (by kernel_rfl)) ?_
      refine pureU 45 (some 115) B37_46 (any_of HT_.out (by kernel_rfl)) ?_
      refine pureU 46 (some 116) B37_47 (any_of HT_.out (by kernel_rfl)) ?_
      refine pureU 47 (some 117) B37_48 (any_of HT_.out (by kernel_rfl)) ?_
      refine pureE 48 (some 118) B37_49 (any_of HT_.out (by kernel_rfl)) ?_
      refine done_ (done_of HT_.out (by kernel_rfl)) ?_
      try go_wp2
      go_meet
      case rel => exact ⟨_, (false), sI, H', ⟨by have := HJ5.out; first | omega | exact Nat.le_refl _⟩, ⟨mS HO529⟩, ⟨mB BK522⟩, ⟨mB BK534⟩, ⟨mH HB⟩⟩
    case rest =>
     clear HC45
     obtain ⟨kq, x118_44, rfl, HA, HJ44, HO_535000, BK522, BK534, HB⟩ := hcut
     cases kq with
     | zero => exact absurd HA.out (by simp [potsherdlaw20_FileGrows.j1])
     | succ kj44 =>
      have H := HA.out; clear HA; simp only [potsherdlaw20_FileGrows.j1] at H
      by_cases c72 : x118_44 = true
      ·
       subst c72
       have H1 : (none) = some true := by rw [if_pos rfl] at H; exact H
       clear H; have H := H1; clear H1; exact absurd H (by simp)
      · as_aux_lemma =>
       replace c72 := Bool.eq_false_iff.mpr c72; subst c72
       have H1 : ((file_Truncate.f kj44 l0_0 a1 (wrap64 (Int.tmod (IntKind.u64.wrap (a3)) 81))).bind fun bt539 => (if bt539.2.2 = 0 then (if (bt539.1.length : Int) = 12 then (if 0 ≤ a1 then (if a1 < (bt539.1.length : Int) then (if ((rd_T28 bt539.1 a1).f2) = (wrap64 (Int.tmod (IntKind.u64.wrap (a3)) 81)) then (if (bt539.2.1.length : Int) > 1 then (none) else (potsherdlaw20_FileGrows.j2 kj44 a1 (wrap64 (Int.tmod (IntKind.u64.wrap (a3)) 81)) t533 ((((rd_T28 bt539.1 a1).f3).length : Int) != 5) l0_0 bt539.1)) else (none)) else (none)) else (none)) else (none)) else (none))) = some true := by rw [if_neg (show ¬ (false = true) by decide)] at H; exact H
       clear H; have H := H1; clear H1; replace H := Option.bind_eq_some_iff.mp H; obtain ⟨⟨t539, t542, t545⟩, A730, H⟩ := H; replace H : (if t545 = 0 then (if (t539.length : Int) = 12 then (if 0 ≤ a1 then (if a1 < (t539.length : Int) then (if ((rd_T28 t539 a1).f2) = (wrap64 (Int.tmod (IntKind.u64.wrap (a3)) 81)) then (if (t542.length : Int) > 1 then (none) else (potsherdlaw20_FileGrows.j2 kj44 a1 (wrap64 (Int.tmod (IntKind.u64.wrap (a3)) 81)) t533 ((((rd_T28 t539 a1).f3).length : Int) != 5) l0_0 t539)) else (none)) else (none)) else (none)) else (none)) else (none)) = some true := H; have A73 := Aside0.mk A730; clear A730; have HC74 := Aside0.mk H; clear H; have hnb75 := NB522_534.out; have hnc75 := NB534_522.out; obtain ⟨hcz76_0, hfz76_0⟩ := cY0 BK522
       go_upto_region 8 with (first | ((with_reducible refine gate_callee (f := 40) rfl ?_); refine goesK (some 123) Try.func40 #[.agg #[.slice A0_0 l0_0.length c0_0], .int .i64 a1, .int .i64 (wrap64 (Int.tmod (IntKind.u64.wrap (a3)) 81))] ?_; (with_reducible refine (file_Truncate.calls kj44 _ _ l0_0 a1 (wrap64 (Int.tmod (IntKind.u64.wrap (a3)) 81)) t539 t542 t545 _ ?side1 ?side2 A73.out).mono ?_); (case side1 => exact mC HR0_0 HB); (case side2 => exact HC0_0.out); rintro e w77 ⟨v540, v543, rfl, ho0, ho1, hb⟩; refine ⟨_, rfl, ?_⟩; have HO541 := Aside0.mk (Kd.S_lower (Kd.S_new' ho0 (Kd.S_lt (mS HO_535000))) (below_size (mH HB))); replace HO_535000 := Aside0.mk (Kd.S_elder' (mS HO_535000) (Kd.S_base ho0) hb); have HO544 := Aside0.mk (Kd.S_lower ho1 (below_size (mH HB))); replace BK522 := kB BK522 hb; replace BK534 := kB BK534 hb; replace HB := kH HB hb; (try clear hb); (try clear ho0); (try clear ho1)) | ((with_reducible refine gate_dst (N := 14) rfl ?_); (try (refine gate_guard (by rfl) ?_; dsimp only)); refine bxE 24 (cs := #[.slice none 0 0]) ?_; intro gb546 hg w78 hbox hb; replace HO_535000 := kS HO_535000 hb; replace HO541 := kS HO541 hb; replace HO544 := kS HO544 hb; have BK546 := Aside0.mk hbox; have GW546 := kG HB hg; have GE546 := kG HB hg; replace HB := kH HB hb; have NB522_546 := kL BK522 hg; have NB546_522 := kQ BK522 hg; replace BK522 := kB BK522 hb; have NB534_546 := kL BK534 hg; have NB546_534 := kQ BK534 hg; replace BK534 := kB BK534 hb; clear hb hbox hg; obtain ⟨Ao79, co79, eo79⟩ := Kd.S_slice HO541.out; subst eo79; have hnb80 := NB546_522.out; have hnc80 := NB522_546.out; have hnb81 := NB546_534.out; have hnc81 := NB534_546.out; obtain ⟨hcz82_0, hfz82_0⟩ := cY0 BK546))
       (try simp only [Act.put, lT, l0_, lS])
       go_cut [159] (fun v159 wc => ∃ (kq : Nat) (x159_73 : Bool), v159 = .bool x159_73 ∧ Aside0 (potsherdlaw20_FileGrows.j2 kq a1 (wrap64 (Int.tmod (IntKind.u64.wrap (a3)) 81)) t533 x159_73 l0_0 t539 = some true) ∧ Aside0 (kq ≤ kj44) ∧ Aside0 (Kd.S k28 28 wc w.heap.size (fun k_ => some k_ ≠ ((.slice Ao79 t539.length co79) : Value).ownBlock) (.slice Ao49 t527.length co49) t527) ∧ Aside0 (Kd.S k28 28 wc w.heap.size (fun k_ => some k_ ≠ ((.slice Ao49 t527.length co49) : Value).ownBlock) (.slice Ao79 t539.length co79) t539) ∧ Aside0 (wc.heap[gb522]? = some (.cells #[(.slice A0_0 l0_0.length c0_0)] 24 (0, 0))) ∧ Aside0 (wc.heap[gb534]? = some (.cells #[(.slice Ao49 t527.length co49)] 24 (0, 0))) ∧ Aside0 (wc.heap[gb546]? = some (.cells #[(.slice Ao79 t539.length co79)] 24 (0, 0))) ∧ Aside0 (Below w.heap.size w wc))
       case first =>
        have H := HC74.out; clear HC74
        replace H := nP H; obtain ⟨c83, H⟩ := H; obtain ⟨c83b0, c83b1⟩ := eP c83; clear c83
        (first | rw [c83b0] | (simp only [i64_w, i32_w]; rw [c83b0]) | skip)
        replace H := nP H; obtain ⟨c84, H⟩ := H; obtain ⟨c84b0, c84b1⟩ := eP c84; clear c84
        replace H := nP H; obtain ⟨c85, H⟩ := H; have c85b0 := decide_eq_true c85; clear c85
        replace H := nP H; obtain ⟨c86, H⟩ := H; have c86b0 := decide_eq_true c86; clear c86
        replace H := nP H; obtain ⟨c87, H⟩ := H; obtain ⟨c87b0, c87b1⟩ := eP c87; clear c87
        replace H := nQ H; obtain ⟨c88, H⟩ := H; have c88b0 : decide (1 < (t542.length : Int)) = false := decide_eq_false c88; have c88b1 : decide (1 < t542.length) = false := decide_eq_false (by omega); clear c88; have H' := Aside0.mk H; clear H; have hnb89 := NB546_522.out; have hnc89 := NB522_546.out; have hnb90 := NB546_534.out; have hnc90 := NB534_546.out; obtain ⟨hcz91_0, hfz91_0⟩ := cY0 BK546; have p547 : 0 ≤ (a1 : Int) := dT; have q547 : a1 < (t539.length : Int) := dT; obtain ⟨ad547, A547_3, c547_3, A547_4, c547_4, e547, hx547_0, hx547_1, hx547_2, hx547_3, hx547_4, hl547_3, hi547_3, hl547_4, hi547_4⟩ := at_T28 (Kd.S_reads' HO541.out).2.2 a1 p547 q547
        cases e547
        have hn547_0 : ad547.block ≠ gb546 := Kd.own_blk (Kd.S_ne HO541.out BK546.out (by decide)); have HR547_3 := Aside0.mk hi547_3; have HC547_3 := Aside0.mk hl547_3; clear hi547_3 hl547_3; have HR547_4 := Aside0.mk hi547_4; have HC547_4 := Aside0.mk hl547_4; clear hi547_4 hl547_4; replace hx547_0 := cF hn547_0 0 (.slice (some ad547) t539.length co79) hx547_0
        replace hx547_1 := cF hn547_0 0 (.slice (some ad547) t539.length co79) hx547_1
        replace hx547_2 := cF hn547_0 0 (.slice (some ad547) t539.length co79) hx547_2
        replace hx547_3 := cF hn547_0 0 (.slice (some ad547) t539.length co79) hx547_3
        replace hx547_4 := cF hn547_0 0 (.slice (some ad547) t539.length co79) hx547_4
        clear hn547_0; replace p547 := eq_true p547; replace q547 := eq_true q547; obtain ⟨Ao92, co92, eo92⟩ := Kd.S_slice HO544.out; subst eo92; have p548 : 0 ≤ (a1 : Int) := dT; have q548 : a1 < (t539.length : Int) := dT; obtain ⟨ad548, A548_3, c548_3, A548_4, c548_4, e548, hx548_0, hx548_1, hx548_2, hx548_3, hx548_4, hl548_3, hi548_3, hl548_4, hi548_4⟩ := at_T28 (Kd.S_reads' HO541.out).2.2 a1 p548 q548; obtain rfl : ad547 = ad548 := (by injection e548); have hn548_0 : ad547.block ≠ gb546 := Kd.own_blk (Kd.S_ne HO541.out BK546.out (by decide)); have HR548_3 := Aside0.mk hi548_3; have HC548_3 := Aside0.mk hl548_3; clear hi548_3 hl548_3; have HR548_4 := Aside0.mk hi548_4; have HC548_4 := Aside0.mk hl548_4; clear hi548_4 hl548_4; replace hx548_0 := cF hn548_0 0 (.slice (some ad547) t539.length co79) hx548_0
        replace hx548_1 := cF hn548_0 0 (.slice (some ad547) t539.length co79) hx548_1
        replace hx548_2 := cF hn548_0 0 (.slice (some ad547) t539.length co79) hx548_2
        replace hx548_3 := cF hn548_0 0 (.slice (some ad547) t539.length co79) hx548_3
        replace hx548_4 := cF hn548_0 0 (.slice (some ad547) t539.length co79) hx548_4
        clear hn548_0; replace p548 := eq_true p548; replace q548 := eq_true q548
        go_wp2
        go_meet
        case rel => exact ⟨_, (((((rd_T28 t539 a1).f3).length : Int) != 5)), sI, H', ⟨by have := HJ5.out; have := HJ44.out; first | omega | exact Nat.le_refl _⟩, ⟨fS ⟨Kd.S_types HO_535000.out BK546.out (by decide)⟩ (fun _ hk => hk.1.2)⟩, ⟨fS ⟨Kd.S_types HO541.out BK546.out (by decide)⟩ (fun _ hk => hk.1.2)⟩, ⟨mF BK522⟩, ⟨mF BK534⟩, ⟨pP BK546⟩, ⟨mH HB⟩⟩
       case rest =>
        clear HC74
        (try clear c4); (try clear c72); (try clear hcz76_0); (try clear hcz82_0); (try clear hfz76_0); (try clear hfz82_0)
        obtain ⟨kq, x159_73, rfl, HA, HJ73, HO_535000, HO_547000, BK522, BK534, BK546, HB⟩ := hcut
        cases kq with
        | zero => exact absurd HA.out (by simp [potsherdlaw20_FileGrows.j2])
        | succ kj73 =>
         have H := HA.out; clear HA; simp only [potsherdlaw20_FileGrows.j2] at H
         by_cases c93 : x159_73 = true
         ·
          subst c93
          have H1 : (none) = some true := by rw [if_pos rfl] at H; exact H
          clear H; have H := H1; clear H1; exact absurd H (by simp)
         · as_aux_lemma =>
          replace c93 := Bool.eq_false_iff.mpr c93; subst c93
          have H1 : (if 0 ≤ a1 then (if a1 < (t539.length : Int) then (potsherdlaw20_FileGrows.l0 kj73 a1 (wrap64 (Int.tmod (IntKind.u64.wrap (a3)) 81)) t533 ((rd_T28 t539 a1).f3) (((rd_T28 t539 a1).f3).length : Int) 0 l0_0) else (none)) else (none)) = some true := by rw [if_neg (show ¬ (false = true) by decide)] at H; exact H
          clear H; have H := H1; clear H1
          replace H := nP H; obtain ⟨c94, H⟩ := H; have c94b0 := decide_eq_true c94; clear c94
          replace H := nP H; obtain ⟨c95, H⟩ := H; have c95b0 := decide_eq_true c95; clear c95; have H' := Aside0.mk H; clear H; have hnb96 := NB546_522.out; have hnc96 := NB522_546.out; have hnb97 := NB546_534.out; have hnc97 := NB534_546.out; obtain ⟨hcz98_0, hfz98_0⟩ := cY0 BK546; have p549 : 0 ≤ (a1 : Int) := dT; have q549 : a1 < (t539.length : Int) := dT; obtain ⟨ad549, A549_3, c549_3, A549_4, c549_4, e549, hx549_0, hx549_1, hx549_2, hx549_3, hx549_4, hl549_3, hi549_3, hl549_4, hi549_4⟩ := at_T28 (Kd.S_reads' HO_547000.out).2.2 a1 p549 q549
          cases e549
          obtain ⟨ce549, hce549, hMe549, hcc549⟩ := Kd.S_get HO_547000.out z28 a1 p549 (by first | exact q549 | exact dT | (have e_ := (Kd.S_reads' HO_547000.out).1; omega))
          obtain ⟨ve549_3, ve549_4, rfl, ge549_3, ge549_4⟩ := k28_openM hMe549; have hv549_3 := hcc549 3 _ rfl; rw [add_field _ _ 3 (by omega)] at hv549_3; replace hv549_3 := Option.some.inj (hv549_3.symm.trans hx549_3); rw [hv549_3] at ge549_3; have HL549_3 := Aside0.mk (show Kd.R (Kd.int .i64) 3 _ _ _ _ ((rd_T28 t539 a1).f3) from ge549_3); clear hv549_3 ge549_3; have hv549_4 := hcc549 4 _ rfl; rw [add_field _ _ 4 (by omega)] at hv549_4; replace hv549_4 := Option.some.inj (hv549_4.symm.trans hx549_4); rw [hv549_4] at ge549_4; have HL549_4 := Aside0.mk (show Kd.R k78 78 _ _ _ _ ((rd_T28 t539 a1).f4) from ge549_4); clear hv549_4 ge549_4; clear hcc549 hce549; have HR549_3 := Aside0.mk hi549_3; have HC549_3 := Aside0.mk hl549_3; clear hi549_3 hl549_3; have HR549_4 := Aside0.mk hi549_4; have HC549_4 := Aside0.mk hl549_4; clear hi549_4 hl549_4; replace p549 := eq_true p549; replace q549 := eq_true q549
          go_wp2
          go_loopg [167] kj73 (fun kq v167 w' => ∃ (x167_4 : Int), v167 = .int .i64 x167_4 ∧ Aside0 (potsherdlaw20_FileGrows.l0 kq a1 (wrap64 (Int.tmod (IntKind.u64.wrap (a3)) 81)) t533 ((rd_T28 t539 a1).f3) (((rd_T28 t539 a1).f3).length : Int) x167_4 l0_0 = some true) ∧ Aside0 (kq ≤ kj73) ∧ Aside0 (Kd.S k28 28 w' w.heap.size (fun k_ => some k_ ≠ ((.slice (some ad549) t539.length co79) : Value).ownBlock) (.slice Ao49 t527.length co49) t527) ∧ Aside0 (Kd.S k28 28 w' w.heap.size (fun k_ => some k_ ≠ ((.slice Ao49 t527.length co49) : Value).ownBlock) (.slice (some ad549) t539.length co79) t539) ∧ Aside0 (w'.heap[gb522]? = some (.cells #[(.slice A0_0 l0_0.length c0_0)] 24 (0, 0))) ∧ Aside0 (w'.heap[gb534]? = some (.cells #[(.slice Ao49 t527.length co49)] 24 (0, 0))) ∧ Aside0 (w'.heap[gb546]? = some (.cells #[(.slice (some ad549) t539.length co79)] 24 (0, 0))) ∧ Aside0 (Kd.C (Kd.int .i64) w' A549_3 ((rd_T28 t539 a1).f3).length ((rd_T28 t539 a1).f3)) ∧ Aside0 (Kd.C k78 w' A549_4 ((rd_T28 t539 a1).f4).length ((rd_T28 t539 a1).f4)) ∧ Aside0 (Below w.heap.size w w'))
          case atStart => exact ⟨(0), sI, H', ⟨Nat.le_refl _⟩, ⟨mS HO_535000⟩, ⟨mS HO_547000⟩, ⟨mB BK522⟩, ⟨mB BK534⟩, ⟨mB BK546⟩, ⟨by repeat (first | (with_reducible exact HR549_3.out) | (with_reducible refine Kd.C_alloc ?_ _) | (with_reducible refine Kd.C_drewN ?_ _) | (with_reducible refine Kd.C_drew ?_) | exact HR549_3.out)⟩, ⟨by repeat (first | (with_reducible exact HR549_4.out) | (with_reducible refine Kd.C_alloc ?_ _) | (with_reducible refine Kd.C_drewN ?_ _) | (with_reducible refine Kd.C_drew ?_) | exact HR549_4.out)⟩, ⟨mH HB⟩⟩
          case round =>
           clear H'
           (try clear c4); (try clear c72); (try clear c93); (try clear c94); (try clear c94b0); (try clear c95); (try clear c95b0); (try clear hcz76_0); (try clear hcz82_0); (try clear hcz98_0); (try clear hfz76_0); (try clear hfz82_0); (try clear hfz98_0); (try clear hx549_0); (try clear hx549_1); (try clear hx549_2); (try clear hx549_3); (try clear hx549_4); (try clear p549); (try clear q549)
           obtain ⟨x167_4, rfl, HA, HK4, HO_535000, HO_547000, BK522, BK534, BK546, HR549_3, HR549_4, HB⟩ := hrel
           cases gk with
           | zero => exact absurd HA.out (by simp [potsherdlaw20_FileGrows.l0])
           | succ k4 =>
            have H := HA.out; clear HA; simp only [potsherdlaw20_FileGrows.l0] at H
            by_cases c99 : x167_4 < (((rd_T28 t539 a1).f3).length : Int)
            · as_aux_lemma =>
             rw [if_pos c99] at H; have c99b0 := decide_eq_true c99; clear c99
             replace H := nP H; obtain ⟨c100, H⟩ := H; have c100b0 := decide_eq_true c100; clear c100
             replace H := nP H; obtain ⟨c101, H⟩ := H; have c101b0 := decide_eq_true c101; clear c101; have HC102 := Aside0.mk H; clear H; have p550 : 0 ≤ (x167_4 : Int) := dT; have q550 : x167_4 < (((rd_T28 t539 a1).f3).length : Int) := dT; obtain ⟨ad550, e550, hx550_0⟩ := Kd.at_int HR549_3.out x167_4 p550 q550
             cases e550
             replace p550 := eq_true p550; replace q550 := eq_true q550
             go_upto_region 13 with (fail)
             go_cut [198] (fun v198 wc => ∃ (kq : Nat) (x198_101 : Bool), v198 = .bool x198_101 ∧ Aside0 (potsherdlaw20_FileGrows.j4 kq a1 (wrap64 (Int.tmod (IntKind.u64.wrap (a3)) 81)) t533 ((rd_T28 t539 a1).f3) (((rd_T28 t539 a1).f3).length : Int) x167_4 x198_101 l0_0 = some true) ∧ Aside0 (kq ≤ k4) ∧ Aside0 (Kd.S k28 28 wc w.heap.size (fun k_ => some k_ ≠ ((.slice (some ad549) t539.length co79) : Value).ownBlock) (.slice Ao49 t527.length co49) t527) ∧ Aside0 (Kd.S k28 28 wc w.heap.size (fun k_ => some k_ ≠ ((.slice Ao49 t527.length co49) : Value).ownBlock) (.slice (some ad549) t539.length co79) t539) ∧ Aside0 (wc.heap[gb522]? = some (.cells #[(.slice A0_0 l0_0.length c0_0)] 24 (0, 0))) ∧ Aside0 (wc.heap[gb534]? = some (.cells #[(.slice Ao49 t527.length co49)] 24 (0, 0))) ∧ Aside0 (wc.heap[gb546]? = some (.cells #[(.slice (some ad549) t539.length co79)] 24 (0, 0))) ∧ Aside0 (Kd.C (Kd.int .i64) wc (some ad550) ((rd_T28 t539 a1).f3).length ((rd_T28 t539 a1).f3)) ∧ Aside0 (Kd.C k78 wc A549_4 ((rd_T28 t539 a1).f4).length ((rd_T28 t539 a1).f4)) ∧ Aside0 (Below w.heap.size w wc))
             case first =>
              have H := HC102.out; clear HC102
              by_cases c103 : (rd ((rd_T28 t539 a1).f3) x167_4) = 0
              ·
               rw [if_pos c103] at H; obtain ⟨c103b0, c103b1⟩ := eP c103; clear c103
               (first | rw [c103b0] | (simp only [i64_w, i32_w]; rw [c103b0]) | skip)
               by_cases c104 : (wrap64 (x167_4 * 16)) < (wrap64 (Int.tmod (IntKind.u64.wrap (a3)) 81))
               ·
                rw [if_pos c104] at H; have c104b0 := decide_eq_true c104; clear c104
                replace H := nP H; obtain ⟨c105, H⟩ := H; have c105b0 := decide_eq_true c105; clear c105
                replace H := nP H; obtain ⟨c106, H⟩ := H; have c106b0 := decide_eq_true c106; clear c106
                replace H := nP H; obtain ⟨c107, H⟩ := H; have c107b0 := decide_eq_true c107; clear c107; have H' := Aside0.mk H; clear H; have hnb108 := NB522_534.out; have hnc108 := NB534_522.out; have hnb109 := NB522_546.out; have hnc109 := NB546_522.out; obtain ⟨hcz110_0, hfz110_0⟩ := cY0 BK522; have p551 : 0 ≤ (a1 : Int) := dT; have q551 : a1 < (l0_0.length : Int) := dT; obtain ⟨ad551, A551_3, c551_3, A551_4, c551_4, e551, hx551_0, hx551_1, hx551_2, hx551_3, hx551_4, hl551_3, hi551_3, hl551_4, hi551_4⟩ := at_T28 HR0_0.out a1 p551 q551
                cases e551
                replace hx551_0 := xC HB hx551_0; replace hx551_1 := xC HB hx551_1; replace hx551_2 := xC HB hx551_2; replace hx551_3 := xC HB hx551_3; replace hx551_4 := xC HB hx551_4; have HR551_3 := Aside0.mk hi551_3; have HC551_3 := Aside0.mk hl551_3; clear hi551_3 hl551_3; have HR551_4 := Aside0.mk hi551_4; have HC551_4 := Aside0.mk hl551_4; clear hi551_4 hl551_4; replace p551 := eq_true p551; replace q551 := eq_true q551; have p552 : 0 ≤ (x167_4 : Int) := dT; have q552 : x167_4 < (((rd_T28 l0_0 a1).f3).length : Int) := dT; obtain ⟨ad552, e552, hx552_0⟩ := Kd.at_int HR551_3.out x167_4 p552 q552
                cases e552
                replace hx552_0 := xC HB hx552_0; replace p552 := eq_true p552; replace q552 := eq_true q552
                go_wp2
                go_meet
                case rel => exact ⟨_, (((rd ((rd_T28 t539 a1).f3) x167_4) != (rd ((rd_T28 l0_0 a1).f3) x167_4))), sI, H', ⟨by have := HJ5.out; have := HJ44.out; have := HJ73.out; have := HK4.out; first | omega | exact Nat.le_refl _⟩, ⟨mS HO_535000⟩, ⟨mS HO_547000⟩, ⟨mB BK522⟩, ⟨mB BK534⟩, ⟨mB BK546⟩, ⟨by repeat (first | (with_reducible exact HR549_3.out) | (with_reducible refine Kd.C_alloc ?_ _) | (with_reducible refine Kd.C_drewN ?_ _) | (with_reducible refine Kd.C_drew ?_) | exact HR549_3.out)⟩, ⟨by repeat (first | (with_reducible exact HR549_4.out) | (with_reducible refine Kd.C_alloc ?_ _) | (with_reducible refine Kd.C_drewN ?_ _) | (with_reducible refine Kd.C_drew ?_) | exact HR549_4.out)⟩, ⟨mH HB⟩⟩
               ·
                rw [if_neg c104] at H; have c104b0 := decide_eq_false c104; clear c104; have H' := Aside0.mk H; clear H
                go_wp2
                go_meet
                case rel => exact ⟨_, (false), sI, H', ⟨by have := HJ5.out; have := HJ44.out; have := HJ73.out; have := HK4.out; first | omega | exact Nat.le_refl _⟩, ⟨mS HO_535000⟩, ⟨mS HO_547000⟩, ⟨mB BK522⟩, ⟨mB BK534⟩, ⟨mB BK546⟩, ⟨by repeat (first | (with_reducible exact HR549_3.out) | (with_reducible refine Kd.C_alloc ?_ _) | (with_reducible refine Kd.C_drewN ?_ _) | (with_reducible refine Kd.C_drew ?_) | exact HR549_3.out)⟩, ⟨by repeat (first | (with_reducible exact HR549_4.out) | (with_reducible refine Kd.C_alloc ?_ _) | (with_reducible refine Kd.C_drewN ?_ _) | (with_reducible refine Kd.C_drew ?_) | exact HR549_4.out)⟩, ⟨mH HB⟩⟩
              ·
               rw [if_neg c103] at H; obtain ⟨c103b0, c103b1⟩ := eN c103
               (first | rw [c103b0] | (simp only [i64_w, i32_w]; rw [c103b0]) | skip)
               replace H := nQ H; obtain ⟨c111, H⟩ := H; have c111b0 : decide ((wrap64 (Int.tmod (IntKind.u64.wrap (a3)) 81)) ≤ (wrap64 (x167_4 * 16))) = false := decide_eq_false c111; clear c111
               replace H := nP H; obtain ⟨c112, H⟩ := H; have c112b0 := decide_eq_true c112; clear c112
               replace H := nP H; obtain ⟨c113, H⟩ := H; have c113b0 := decide_eq_true c113; clear c113
               replace H := nP H; obtain ⟨c114, H⟩ := H; have c114b0 := decide_eq_true c114; clear c114
               replace H := nP H; obtain ⟨c115, H⟩ := H; have c115b0 := decide_eq_true c115; clear c115; have H' := Aside0.mk H; clear H; have hnb116 := NB522_534.out; have hnc116 := NB534_522.out; have hnb117 := NB522_546.out; have hnc117 := NB546_522.out; obtain ⟨hcz118_0, hfz118_0⟩ := cY0 BK522; have p553 : 0 ≤ (a1 : Int) := dT; have q553 : a1 < (l0_0.length : Int) := dT; obtain ⟨ad553, A553_3, c553_3, A553_4, c553_4, e553, hx553_0, hx553_1, hx553_2, hx553_3, hx553_4, hl553_3, hi553_3, hl553_4, hi553_4⟩ := at_T28 HR0_0.out a1 p553 q553
               cases e553
               replace hx553_0 := xC HB hx553_0; replace hx553_1 := xC HB hx553_1; replace hx553_2 := xC HB hx553_2; replace hx553_3 := xC HB hx553_3; replace hx553_4 := xC HB hx553_4; have HR553_3 := Aside0.mk hi553_3; have HC553_3 := Aside0.mk hl553_3; clear hi553_3 hl553_3; have HR553_4 := Aside0.mk hi553_4; have HC553_4 := Aside0.mk hl553_4; clear hi553_4 hl553_4; replace p553 := eq_true p553; replace q553 := eq_true q553; have p554 : 0 ≤ (x167_4 : Int) := dT; have q554 : x167_4 < (((rd_T28 l0_0 a1).f3).length : Int) := dT; obtain ⟨ad554, e554, hx554_0⟩ := Kd.at_int HR553_3.out x167_4 p554 q554
               cases e554
               replace hx554_0 := xC HB hx554_0; replace p554 := eq_true p554; replace q554 := eq_true q554
               go_wp2
               go_meet
               case rel => exact ⟨_, (((rd ((rd_T28 t539 a1).f3) x167_4) != (rd ((rd_T28 l0_0 a1).f3) x167_4))), sI, H', ⟨by have := HJ5.out; have := HJ44.out; have := HJ73.out; have := HK4.out; first | omega | exact Nat.le_refl _⟩, ⟨mS HO_535000⟩, ⟨mS HO_547000⟩, ⟨mB BK522⟩, ⟨mB BK534⟩, ⟨mB BK546⟩, ⟨by repeat (first | (with_reducible exact HR549_3.out) | (with_reducible refine Kd.C_alloc ?_ _) | (with_reducible refine Kd.C_drewN ?_ _) | (with_reducible refine Kd.C_drew ?_) | exact HR549_3.out)⟩, ⟨by repeat (first | (with_reducible exact HR549_4.out) | (with_reducible refine Kd.C_alloc ?_ _) | (with_reducible refine Kd.C_drewN ?_ _) | (with_reducible refine Kd.C_drew ?_) | exact HR549_4.out)⟩, ⟨mH HB⟩⟩
             case rest =>
              clear HC102
              (try clear c4); (try clear c72); (try clear c93); (try clear c94); (try clear c94b0); (try clear c95); (try clear c95b0); (try clear c99); (try clear c99b0); (try clear c100); (try clear c100b0); (try clear c101); (try clear c101b0); (try clear hcz76_0); (try clear hcz82_0); (try clear hcz98_0); (try clear hfz76_0); (try clear hfz82_0); (try clear hfz98_0); (try clear hx549_0); (try clear hx549_1); (try clear hx549_2); (try clear hx549_3); (try clear hx549_4); (try clear hx550_0); (try clear p549); (try clear p550); (try clear q549); (try clear q550)
              obtain ⟨kq, x198_101, rfl, HA, HJ101, HO_535000, HO_547000, BK522, BK534, BK546, HR549_3, HR549_4, HB⟩ := hcut
              cases kq with
              | zero => exact absurd HA.out (by simp [potsherdlaw20_FileGrows.j4])
              | succ kj101 =>
               have H := HA.out; clear HA; simp only [potsherdlaw20_FileGrows.j4] at H
               by_cases c119 : x198_101 = true
               ·
                subst c119
                have H1 : (none) = some true := by rw [if_pos rfl] at H; exact H
                clear H; have H := H1; clear H1; exact absurd H (by simp)
               ·
                replace c119 := Bool.eq_false_iff.mpr c119; subst c119
                have H1 : (potsherdlaw20_FileGrows.l0 kj101 a1 (wrap64 (Int.tmod (IntKind.u64.wrap (a3)) 81)) t533 ((rd_T28 t539 a1).f3) (((rd_T28 t539 a1).f3).length : Int) (wrap64 (x167_4 + 1)) l0_0) = some true := by rw [if_neg (show ¬ (false = true) by decide)] at H; exact H
                clear H; have H := H1; clear H1; have H' := Aside0.mk H; clear H
                go_wp2
                go_roundg kj101
                case measure => have := HJ5.out; have := HJ44.out; have := HJ73.out; have := HK4.out; have := HJ101.out; omega
                case rel => exact ⟨(wrap64 (x167_4 + 1)), sI, H', ⟨by have := HJ5.out; have := HJ44.out; have := HJ73.out; have := HK4.out; have := HJ101.out; omega⟩, ⟨mS HO_535000⟩, ⟨mS HO_547000⟩, ⟨mB BK522⟩, ⟨mB BK534⟩, ⟨mB BK546⟩, ⟨by repeat (first | (with_reducible exact HR549_3.out) | (with_reducible refine Kd.C_alloc ?_ _) | (with_reducible refine Kd.C_drewN ?_ _) | (with_reducible refine Kd.C_drew ?_) | exact HR549_3.out)⟩, ⟨by repeat (first | (with_reducible exact HR549_4.out) | (with_reducible refine Kd.C_alloc ?_ _) | (with_reducible refine Kd.C_drewN ?_ _) | (with_reducible refine Kd.C_drew ?_) | exact HR549_4.out)⟩, ⟨mH HB⟩⟩
            ·
             rw [if_neg c99] at H; have c99b0 := decide_eq_false c99; clear c99
             by_cases c120 : t533 = 0
             ·
              rw [if_pos c120] at H; obtain ⟨c120b0, c120b1⟩ := eP c120; clear c120; replace H := Option.bind_eq_some_iff.mp H; obtain ⟨t555, A1210, H⟩ := H; have A121 := Aside0.mk A1210; clear A1210; have HRET := Aside0.mk (Option.some.inj H); clear H
              go_wp2_with (first | (go_at_call 33; (with_reducible refine (potsherdlaw20_awake.calls k4  t555 _ A121.out).mono ?_); rintro e w122 ⟨rfl, hb⟩; replace HO_535000 := kS HO_535000 hb; replace HO_547000 := kS HO_547000 hb; replace BK522 := kB BK522 hb; replace BK534 := kB BK534 hb; replace BK546 := kB BK546 hb; replace HR549_3 := Aside0.mk (Kd.C_below (by repeat (first | (with_reducible exact HR549_3.out) | (with_reducible refine Kd.C_alloc ?_ _) | (with_reducible refine Kd.C_drewN ?_ _) | (with_reducible refine Kd.C_drew ?_) | exact HR549_3.out)) hb); replace HR549_4 := Aside0.mk (Kd.C_below (by repeat (first | (with_reducible exact HR549_4.out) | (with_reducible refine Kd.C_alloc ?_ _) | (with_reducible refine Kd.C_drewN ?_ _) | (with_reducible refine Kd.C_drew ?_) | exact HR549_4.out)) hb); replace HB := kH HB hb; (try clear hb)))
              go_ret
              exact ⟨rT, mH HB⟩
             ·
              rw [if_neg c120] at H; obtain ⟨c120b0, c120b1⟩ := eN c120
              by_cases c123 : t533 = 16
              ·
               rw [if_pos c123] at H; obtain ⟨c123b0, c123b1⟩ := eP c123; clear c123; replace H := Option.bind_eq_some_iff.mp H; obtain ⟨t556, A1240, H⟩ := H; have A124 := Aside0.mk A1240; clear A1240; have HRET := Aside0.mk (Option.some.inj H); clear H
               go_wp2_with (first | (go_at_call 33; (with_reducible refine (potsherdlaw20_awake.calls k4  t556 _ A124.out).mono ?_); rintro e w125 ⟨rfl, hb⟩; replace HO_535000 := kS HO_535000 hb; replace HO_547000 := kS HO_547000 hb; replace BK522 := kB BK522 hb; replace BK534 := kB BK534 hb; replace BK546 := kB BK546 hb; replace HR549_3 := Aside0.mk (Kd.C_below (by repeat (first | (with_reducible exact HR549_3.out) | (with_reducible refine Kd.C_alloc ?_ _) | (with_reducible refine Kd.C_drewN ?_ _) | (with_reducible refine Kd.C_drew ?_) | exact HR549_3.out)) hb); replace HR549_4 := Aside0.mk (Kd.C_below (by repeat (first | (with_reducible exact HR549_4.out) | (with_reducible refine Kd.C_alloc ?_ _) | (with_reducible refine Kd.C_drewN ?_ _) | (with_reducible refine Kd.C_drew ?_) | exact HR549_4.out)) hb); replace HB := kH HB hb; (try clear hb)))
               go_ret
               exact ⟨rT, mH HB⟩
              ·
               rw [if_neg c123] at H; obtain ⟨c123b0, c123b1⟩ := eN c123
               replace H := nP H; obtain ⟨c126, H⟩ := H; obtain ⟨c126b0, c126b1⟩ := eP c126; clear c126; replace H := Option.bind_eq_some_iff.mp H; obtain ⟨t557, A1270, H⟩ := H; have A127 := Aside0.mk A1270; clear A1270; have HRET := Aside0.mk (Option.some.inj H); clear H
               go_wp2_with (first | (go_at_call 33; (with_reducible refine (potsherdlaw20_awake.calls k4  t557 _ A127.out).mono ?_); rintro e w128 ⟨rfl, hb⟩; replace HO_535000 := kS HO_535000 hb; replace HO_547000 := kS HO_547000 hb; replace BK522 := kB BK522 hb; replace BK534 := kB BK534 hb; replace BK546 := kB BK546 hb; replace HR549_3 := Aside0.mk (Kd.C_below (by repeat (first | (with_reducible exact HR549_3.out) | (with_reducible refine Kd.C_alloc ?_ _) | (with_reducible refine Kd.C_drewN ?_ _) | (with_reducible refine Kd.C_drew ?_) | exact HR549_3.out)) hb); replace HR549_4 := Aside0.mk (Kd.C_below (by repeat (first | (with_reducible exact HR549_4.out) | (with_reducible refine Kd.C_alloc ?_ _) | (with_reducible refine Kd.C_drewN ?_ _) | (with_reducible refine Kd.C_drew ?_) | exact HR549_4.out)) hb); replace HB := kH HB hb; (try clear hb)))
               go_ret
               exact ⟨rT, mH HB⟩
end Go.Proofs.Ytkigiehkckjlhaa.PGrows
