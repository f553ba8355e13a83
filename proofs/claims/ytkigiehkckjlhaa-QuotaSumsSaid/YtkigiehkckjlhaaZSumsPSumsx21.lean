/- The Go functions that these laws reach, each as a Lean function with the same answers (a law itself where it answers true), and the proof that the code comes to them; conditions: those of each theorem. Laid by a program of this session over the print. -/
import Derived.Test.YtkigiehkckjlhaaZSumsPSumsx0
import Derived.Test.YtkigiehkckjlhaaZSumsPSumsx1
import Derived.Test.YtkigiehkckjlhaaZSumsPSumsx8
import Derived.Test.YtkigiehkckjlhaaZSumsPSumsx10
import Derived.Test.YtkigiehkckjlhaaZSumsPSumsx14
import Derived.Test.YtkigiehkckjlhaaZSumsPSumsx17
import Derived.Test.YtkigiehkckjlhaaZSumsPSumsx20
namespace Go.Proofs.Ytkigiehkckjlhaa.PSums
open Go.RowKit Go.Proofs.YtkigiehkckjlhaaW.PrintWords Go.Proofs.YtkigiehkckjlhaaW.PrintLast Go.Proofs.YtkigiehkckjlhaaW.PrintMore
attribute [local go_sem] max2_int min2_int max_two min_two max_three min_three max_four min_four   -- for this text's walks alone
set_option linter.unusedVariables false
set_option linter.unusedSimpArgs false
open Go.Proofs.YtkigiehkckjlhaaW.PrintWords renaming blk_drewN → bN, blk_drew → bD, blk_alloc → bA, below_set → wS, below_alloc → wA, pw_below_drewN → wN, below_drew1 → wD, blk_below → bB, blk_far → bF, blk_cell → bC, blk_frozen → bZ
open List renaming setIfInBounds_toArray → lT, set_cons_zero → l0_, set_cons_succ → lS
abbrev B21_0 : Array Bool := #[false, false, false, false, false, false, false]
abbrev B21_1 : Array Bool := #[false, false, false, true, false, false, false]
abbrev B21_2 : Array Bool := #[true, false, false, true, false, false, false]
abbrev B21_3 : Array Bool := #[true, false, true, true, false, false, false]
abbrev B21_4 : Array Bool := #[true, true, true, true, false, false, false]
abbrev B21_5 : Array Bool := #[true, true, true, true, true, false, false]
abbrev B21_6 : Array Bool := #[true, true, true, true, true, true, false]
abbrev B21_7 : Array Bool := #[true, true, true, true, true, true, true]
abbrev B21_8 : Array Bool := #[false, false, false, false, false, false, false, false, false, false, false, false, false, false, false, false, false, false, false, false, false, false, false, false, false, false, false, false, false, false]
abbrev B21_9 : Array Bool := #[true, false, false, false, false, false, false, false, false, false, false, false, false, false, false, false, false, false, false, false, false, false, false, false, false, false, false, false, false, false]
abbrev B21_10 : Array Bool := #[true, true, false, false, false, false, false, false, false, false, false, false, false, false, false, false, false, false, false, false, false, false, false, false, false, false, false, false, false, false]
abbrev B21_11 : Array Bool := #[true, true, true, false, false, false, false, false, false, false, false, false, false, false, false, false, false, false, false, false, false, false, false, false, false, false, false, false, false, false]
abbrev B21_12 : Array Bool := #[true, true, true, true, false, false, false, false, false, false, false, false, false, false, false, false, false, false, false, false, false, false, false, false, false, false, false, false, false, false]
abbrev B21_13 : Array Bool := #[true, true, true, true, true, false, false, false, false, false, false, false, false, false, false, false, false, false, false, false, false, false, false, false, false, false, false, false, false, false]
abbrev B21_14 : Array Bool := #[true, true, true, true, true, true, false, false, false, false, false, false, false, false, false, false, false, false, false, false, false, false, false, false, false, false, false, false, false, false]
abbrev B21_15 : Array Bool := #[true, true, true, true, true, true, true, false, false, false, false, false, false, false, false, false, false, false, false, false, false, false, false, false, false, false, false, false, false, false]
abbrev B21_16 : Array Bool := #[true, true, true, true, true, true, true, true, false, false, false, false, false, false, false, false, false, false, false, false, false, false, false, false, false, false, false, false, false, false]
abbrev B21_17 : Array Bool := #[true, true, true, true, true, true, true, true, true, false, false, false, false, false, false, false, false, false, false, false, false, false, false, false, false, false, false, false, false, false]
abbrev B21_18 : Array Bool := #[true, true, true, true, true, true, true, true, true, true, false, false, false, false, false, false, false, false, false, false, false, false, false, false, false, false, false, false, false, false]
abbrev B21_19 : Array Bool := #[true, true, true, true, true, true, true, true, true, true, true, false, false, false, false, false, false, false, false, false, false, false, false, false, false, false, false, false, false, false]
abbrev B21_20 : Array Bool := #[true, true, true, true, true, true, true, true, true, true, true, true, false, false, false, false, false, false, false, false, false, false, false, false, false, false, false, false, false, false]
abbrev B21_21 : Array Bool := #[true, true, true, true, true, true, true, true, true, true, true, true, false, false, false, false, true, false, false, false, false, false, false, false, false, false, false, false, false, false]
abbrev B21_22 : Array Bool := #[true, true, true, true, true, true, true, true, true, true, true, true, true, false, false, false, true, false, false, false, false, false, false, false, false, false, false, false, false, false]
abbrev B21_23 : Array Bool := #[true, true, true, true, true, true, true, true, true, true, true, true, true, false, true, false, true, false, false, false, false, false, false, false, false, false, false, false, false, false]
abbrev B21_24 : Array Bool := #[true, true, true, true, true, true, true, true, true, true, true, true, true, true, true, false, true, false, false, false, false, false, false, false, false, false, false, false, false, false]
abbrev B21_25 : Array Bool := #[true, true, true, true, true, true, true, true, true, true, true, true, true, true, true, true, true, false, false, false, false, false, false, false, false, false, false, false, false, false]
abbrev B21_26 : Array Bool := #[true, true, true, true, true, true, true, true, true, true, true, true, true, true, true, true, true, true, false, false, false, false, false, false, false, false, false, false, false, false]
abbrev B21_27 : Array Bool := #[true, true, true, true, true, true, true, true, true, true, true, true, true, true, true, true, true, true, true, false, false, false, false, false, false, false, false, false, false, false]
abbrev B21_28 : Array Bool := #[true, true, true, true, true, true, true, true, true, true, true, true, true, true, true, true, true, true, true, true, false, false, false, false, false, false, false, false, false, false]
abbrev B21_29 : Array Bool := #[true, true, true, true, true, true, true, true, true, true, true, true, true, true, true, true, true, true, true, true, true, false, false, false, false, false, false, false, false, false]
abbrev B21_30 : Array Bool := #[true, true, true, true, true, true, true, true, true, true, true, true, true, true, true, true, true, true, true, true, true, false, false, true, false, false, false, false, false, false]
abbrev B21_31 : Array Bool := #[true, true, true, true, true, true, true, true, true, true, true, true, true, true, true, true, true, true, true, true, true, true, false, true, false, false, false, false, false, false]
abbrev B21_32 : Array Bool := #[true, true, true, true, true, true, true, true, true, true, true, true, true, true, true, true, true, true, true, true, true, true, true, true, false, false, false, false, false, false]
abbrev B21_33 : Array Bool := #[true, true, true, true, true, true, true, true, true, true, true, true, true, true, true, true, true, true, true, true, true, true, true, true, true, false, false, false, false, false]
abbrev B21_34 : Array Bool := #[true, true, true, true, true, true, true, true, true, true, true, true, true, true, true, true, true, true, true, true, true, true, true, true, true, true, false, false, false, false]
abbrev B21_35 : Array Bool := #[true, true, true, true, true, true, true, true, true, true, true, true, true, true, true, true, true, true, true, true, true, true, true, true, true, true, true, false, false, false]
abbrev B21_36 : Array Bool := #[true, true, true, true, true, true, true, true, true, true, true, true, true, true, true, true, true, true, true, true, true, true, true, true, true, true, true, true, false, false]
abbrev B21_37 : Array Bool := #[true, true, true, true, true, true, true, true, true, true, true, true, true, true, true, true, true, true, true, true, true, true, true, true, true, true, true, true, true, false]
abbrev B21_38 : Array Bool := #[true, true, true, true, true, true, true, true, true, true, true, true, true, true, true, true, true, true, true, true, true, true, true, true, true, true, true, true, true, true]
mutual
def potsherdlaw18_QuotaSums.j0 : Nat → Int → Bool → List (S28) → Option (Bool)
 | 0, _, _, _ => none
 | k + 1, x1, x23, x248000 => if x23 = true then ((potsherdlaw18_awake.f k).bind fun t250 => (some t250)) else ((quota_Used.f k x248000).bind fun t251 => ((quota_Left.f k x248000 (wrap64 (Int.tmod (IntKind.u64.wrap (x1)) 61))).bind fun t252 => (potsherdlaw18_QuotaSums.l0 k (wrap64 (Int.tmod (IntKind.u64.wrap (x1)) 61)) t251 t252 0 x248000 (x248000.length : Int) 0 x248000)))
def potsherdlaw18_QuotaSums.l0 : Nat → Int → Int → Int → Int → List (S28) → Int → Int → List (S28) → Option (Bool)
 | 0, _, _, _, _, _, _, _, _ => none
 | k + 1, x1, x7, x8, x9, x35, x36, x37, x248000 => if x37 < x36 then (if 0 ≤ x37 then (if x37 < (x35.length : Int) then ((potsherdref12_Pages.f k ((rd_T28 x35 x37).f0) ((rd_T28 x35 x37).f1) ((rd_T28 x35 x37).f2) ((rd_T28 x35 x37).f3) ((rd_T28 x35 x37).f4)).bind fun t255 => (potsherdlaw18_QuotaSums.l0 k x1 x7 x8 (wrap64 (x9 + t255)) x35 x36 (wrap64 (x37 + 1)) x248000)) else (none)) else (none)) else ((potsherdref12_Clear.f k x248000).bind fun t256 => (potsherdlaw18_QuotaSums.l1 k x1 x7 x8 x9 0 t256 (t256.length : Int) 0 x248000 t256))
def potsherdlaw18_QuotaSums.l1 : Nat → Int → Int → Int → Int → Int → List (S28) → Int → Int → List (S28) → List (S28) → Option (Bool)
 | 0, _, _, _, _, _, _, _, _, _, _ => none
 | k + 1, x1, x7, x8, x9, x13, x49, x50, x51, x248000, x260000 => if x51 < x50 then (if 0 ≤ x51 then (if x51 < (x49.length : Int) then (if ((rd_T28 x49 x51).f0) = 0 then (if x51 < (x248000.length : Int) then (if ((rd_T28 x248000 x51).f0) = 0 then (potsherdlaw18_QuotaSums.l1 k x1 x7 x8 x9 x13 x49 x50 (wrap64 (x51 + 1)) x248000 x260000) else (potsherdlaw18_QuotaSums.l1 k x1 x7 x8 x9 (wrap64 (x13 + 1)) x49 x50 (wrap64 (x51 + 1)) x248000 x260000)) else (none)) else (potsherdlaw18_QuotaSums.l1 k x1 x7 x8 x9 x13 x49 x50 (wrap64 (x51 + 1)) x248000 x260000)) else (none)) else (none)) else (if x7 = x9 then (if x8 = (mx 0 (wrap64 (x1 - x7))) then ((quota_Nodes.f k x260000).bind fun t263 => ((quota_Nodes.f k x248000).bind fun t264 => (if t263 = (wrap64 (t264 + x13)) then ((quota_Used.f k x260000).bind fun t265 => (if t265 ≤ x7 then ((potsherdlaw18_awake.f k).bind fun t266 => (some t266)) else (some false))) else (some false)))) else (some false)) else (some false))
end
def potsherdlaw18_QuotaSums.f (k : Nat) (l0_0 : List (S28)) (a1 : Int) (a2 : Int) : Option (Bool) := (potsherdlaw15_Light.f k l0_0).bind fun t248 => (if t248 > 0 then (potsherdlaw18_QuotaSums.j0 k a1 true l0_0) else ((potsherdref12_MayTree.f k l0_0).bind fun t249 => (potsherdlaw18_QuotaSums.j0 k a1 (!t249) l0_0)))
theorem potsherdlaw18_QuotaSums.mono_l : ∀ k, (∀ y0 y1 y2, LeO (potsherdlaw18_QuotaSums.j0 k y0 y1 y2) (potsherdlaw18_QuotaSums.j0 (k + 1) y0 y1 y2)) ∧ (∀ y0 y1 y2 y3 y4 y5 y6 y7, LeO (potsherdlaw18_QuotaSums.l0 k y0 y1 y2 y3 y4 y5 y6 y7) (potsherdlaw18_QuotaSums.l0 (k + 1) y0 y1 y2 y3 y4 y5 y6 y7)) ∧ (∀ y0 y1 y2 y3 y4 y5 y6 y7 y8 y9, LeO (potsherdlaw18_QuotaSums.l1 k y0 y1 y2 y3 y4 y5 y6 y7 y8 y9) (potsherdlaw18_QuotaSums.l1 (k + 1) y0 y1 y2 y3 y4 y5 y6 y7 y8 y9))
 | 0 => ⟨fun _ _ _ r h => by simp [potsherdlaw18_QuotaSums.j0] at h, fun _ _ _ _ _ _ _ _ r h => by simp [potsherdlaw18_QuotaSums.l0] at h, fun _ _ _ _ _ _ _ _ _ _ r h => by simp [potsherdlaw18_QuotaSums.l1] at h⟩
 | k + 1 => by
  obtain ⟨ih0, ih1, ih2⟩ := potsherdlaw18_QuotaSums.mono_l k; refine ⟨?_, ?_, ?_⟩
  ·
   intro y0 y1 y2
   unfold potsherdlaw18_QuotaSums.j0
   repeat' first
   | (with_reducible exact ih0 _ _ _)
   | (with_reducible exact ih1 _ _ _ _ _ _ _ _)
   | (with_reducible exact ih2 _ _ _ _ _ _ _ _ _ _)
   | (with_reducible exact potsherdlaw15_Light.mono _ _)
   | (with_reducible exact potsherdlaw18_awake.mono _)
   | (with_reducible exact potsherdref12_Clear.mono _ _)
   | (with_reducible exact potsherdref12_MayTree.mono _ _)
   | (with_reducible exact potsherdref12_Pages.mono _ _ _ _ _ _)
   | (with_reducible exact quota_Left.mono _ _ _)
   | (with_reducible exact quota_Nodes.mono _ _)
   | (with_reducible exact quota_Used.mono _ _)
   | (with_reducible exact LeO.refl _)
   | (with_reducible exact LeO.none _)
   | (with_reducible refine LeO.ite ?_ ?_)
   | (with_reducible refine LeO.bind ?_ (fun _ => ?_))
   | exact ih0 _ _ _
   | exact ih1 _ _ _ _ _ _ _ _
   | exact ih2 _ _ _ _ _ _ _ _ _ _
   | exact potsherdlaw15_Light.mono _ _
   | exact potsherdlaw18_awake.mono _
   | exact potsherdref12_Clear.mono _ _
   | exact potsherdref12_MayTree.mono _ _
   | exact potsherdref12_Pages.mono _ _ _ _ _ _
   | exact quota_Left.mono _ _ _
   | exact quota_Nodes.mono _ _
   | exact quota_Used.mono _ _
   | exact LeO.none _
   | refine LeO.ite ?_ ?_
   | refine LeO.bind ?_ (fun _ => ?_)
  ·
   intro y0 y1 y2 y3 y4 y5 y6 y7
   unfold potsherdlaw18_QuotaSums.l0
   repeat' first
   | (with_reducible exact ih0 _ _ _)
   | (with_reducible exact ih1 _ _ _ _ _ _ _ _)
   | (with_reducible exact ih2 _ _ _ _ _ _ _ _ _ _)
   | (with_reducible exact potsherdlaw15_Light.mono _ _)
   | (with_reducible exact potsherdlaw18_awake.mono _)
   | (with_reducible exact potsherdref12_Clear.mono _ _)
   | (with_reducible exact potsherdref12_MayTree.mono _ _)
   | (with_reducible exact potsherdref12_Pages.mono _ _ _ _ _ _)
   | (with_reducible exact quota_Left.mono _ _ _)
   | (with_reducible exact quota_Nodes.mono _ _)
   | (with_reducible exact quota_Used.mono _ _)
   | (with_reducible exact LeO.refl _)
   | (with_reducible exact LeO.none _)
   | (with_reducible refine LeO.ite ?_ ?_)
   | (with_reducible refine LeO.bind ?_ (fun _ => ?_))
   | exact ih0 _ _ _
   | exact ih1 _ _ _ _ _ _ _ _
   | exact ih2 _ _ _ _ _ _ _ _ _ _
   | exact potsherdlaw15_Light.mono _ _
   | exact potsherdlaw18_awake.mono _
   | exact potsherdref12_Clear.mono _ _
   | exact potsherdref12_MayTree.mono _ _
   | exact potsherdref12_Pages.mono _ _ _ _ _ _
   | exact quota_Left.mono _ _ _
   | exact quota_Nodes.mono _ _
   | exact quota_Used.mono _ _
   | exact LeO.none _
   | refine LeO.ite ?_ ?_
   | refine LeO.bind ?_ (fun _ => ?_)
  ·
   intro y0 y1 y2 y3 y4 y5 y6 y7 y8 y9
   unfold potsherdlaw18_QuotaSums.l1
   repeat' first
   | (with_reducible exact ih0 _ _ _)
   | (with_reducible exact ih1 _ _ _ _ _ _ _ _)
   | (with_reducible exact ih2 _ _ _ _ _ _ _ _ _ _)
   | (with_reducible exact potsherdlaw15_Light.mono _ _)
   | (with_reducible exact potsherdlaw18_awake.mono _)
   | (with_reducible exact potsherdref12_Clear.mono _ _)
   | (with_reducible exact potsherdref12_MayTree.mono _ _)
   | (with_reducible exact potsherdref12_Pages.mono _ _ _ _ _ _)
   | (with_reducible exact quota_Left.mono _ _ _)
   | (with_reducible exact quota_Nodes.mono _ _)
   | (with_reducible exact quota_Used.mono _ _)
   | (with_reducible exact LeO.refl _)
   | (with_reducible exact LeO.none _)
   | (with_reducible refine LeO.ite ?_ ?_)
   | (with_reducible refine LeO.bind ?_ (fun _ => ?_))
   | exact ih0 _ _ _
   | exact ih1 _ _ _ _ _ _ _ _
   | exact ih2 _ _ _ _ _ _ _ _ _ _
   | exact potsherdlaw15_Light.mono _ _
   | exact potsherdlaw18_awake.mono _
   | exact potsherdref12_Clear.mono _ _
   | exact potsherdref12_MayTree.mono _ _
   | exact potsherdref12_Pages.mono _ _ _ _ _ _
   | exact quota_Left.mono _ _ _
   | exact quota_Nodes.mono _ _
   | exact quota_Used.mono _ _
   | exact LeO.none _
   | refine LeO.ite ?_ ?_
   | refine LeO.bind ?_ (fun _ => ?_)
theorem potsherdlaw18_QuotaSums.mono : ∀ a0 a1 a2 k, LeO (potsherdlaw18_QuotaSums.f k a0 a1 a2) (potsherdlaw18_QuotaSums.f (k + 1) a0 a1 a2) := by
 intro a0 a1 a2 k; obtain ⟨ih0, ih1, ih2⟩ := potsherdlaw18_QuotaSums.mono_l k
 unfold potsherdlaw18_QuotaSums.f
 repeat' first
  | (with_reducible exact ih0 _ _ _)
  | (with_reducible exact ih1 _ _ _ _ _ _ _ _)
  | (with_reducible exact ih2 _ _ _ _ _ _ _ _ _ _)
  | (with_reducible exact potsherdlaw15_Light.mono _ _)
  | (with_reducible exact potsherdlaw18_awake.mono _)
  | (with_reducible exact potsherdref12_Clear.mono _ _)
  | (with_reducible exact potsherdref12_MayTree.mono _ _)
  | (with_reducible exact potsherdref12_Pages.mono _ _ _ _ _ _)
  | (with_reducible exact quota_Left.mono _ _ _)
  | (with_reducible exact quota_Nodes.mono _ _)
  | (with_reducible exact quota_Used.mono _ _)
  | (with_reducible exact LeO.refl _)
  | (with_reducible exact LeO.none _)
  | (with_reducible refine LeO.ite ?_ ?_)
  | (with_reducible refine LeO.bind ?_ (fun _ => ?_))
  | exact ih0 _ _ _
  | exact ih1 _ _ _ _ _ _ _ _
  | exact ih2 _ _ _ _ _ _ _ _ _ _
  | exact potsherdlaw15_Light.mono _ _
  | exact potsherdlaw18_awake.mono _
  | exact potsherdref12_Clear.mono _ _
  | exact potsherdref12_MayTree.mono _ _
  | exact potsherdref12_Pages.mono _ _ _ _ _ _
  | exact quota_Left.mono _ _ _
  | exact quota_Nodes.mono _ _
  | exact quota_Used.mono _ _
  | exact LeO.none _
  | refine LeO.ite ?_ ?_
  | refine LeO.bind ?_ (fun _ => ?_)
def potsherdlaw18_QuotaSums.T19 : Bool × List (List Nat × List Nat) := (true, [([], []), ([], []), ([0, 1], [0, 1]), ([2], [2]), ([3], [3]), ([3], [3]), ([3], [3]), ([5, 6, 3], [3, 5, 6]), ([7, 3], [3, 7]), ([4, 8, 3], [3, 4, 8]), ([3, 9], [3, 9]), ([10, 3], [10]), ([11], [11]), ([12, 11, 11], [11, 12]), ([11], [11]), ([14, 13, 11], [11, 14]), ([11], [11]), ([15, 16, 11], [11, 15, 16]), ([13, 17, 11], [11, 13, 17]), ([11, 18], [11, 18]), ([19, 15], [19]), ([20], [20]), ([21, 20, 20], [20, 21]), ([20], [20]), ([22, 23, 20], [20, 22, 23]), ([20, 24], [20, 24]), ([25, 22], [25]), ([26, 26], [26]), ([26, 27], [26, 27]), ([28, 27, 0, 1, 2, 3, 4, 5, 6, 7, 8, 9, 10, 11, 12, 13, 14, 15, 16, 17, 18, 19, 20, 21, 22, 23, 24, 25, 26, 27, 28], [28])])
def potsherdlaw18_QuotaSums.B19 : List Nat := [0, 0, 3, 7, 15, 15, 15, 111, 239, 511, 1023, 2047, 4095, 8191, 4095, 32767, 4095, 131071, 262143, 524287, 1048575, 2097151, 4194303, 2097151, 16777215, 33554431, 67108863, 134217727, 268435455, 536870911]
theorem potsherdlaw18_QuotaSums.tab19 : rtab .any (opsOf Try.f5 19) = potsherdlaw18_QuotaSums.T19 := by kernel_rfl
theorem potsherdlaw18_QuotaSums.bits19 : waitsOk potsherdlaw18_QuotaSums.T19.2 potsherdlaw18_QuotaSums.B19 = true := by kernel_rfl
set_option maxHeartbeats 8000000 in
set_option maxRecDepth 100000 in
theorem potsherdlaw18_QuotaSums.calls (k : Nat) (A0_0 : Option Addr) (c0_0 : Nat) (l0_0 : List (S28)) (a1 : Int) (a2 : Int) (w : World) (hr0_0 : Kd.C k28 w A0_0 l0_0.length l0_0) (hc0_0 : l0_0.length ≤ c0_0) (h : potsherdlaw18_QuotaSums.f k l0_0 a1 a2 = some true) :
 Calls Try.prog 5 #[.agg #[.slice A0_0 l0_0.length c0_0], .int .i64 a1, .int .i64 a2] w fun e w' => e = .returned (.bool true) ∧ Below w.heap.size w w' := by
 have hu24 := Try.underlying24; have hu28 := Try.underlying28; have HR0_0 := Aside0.mk hr0_0; have HC0_0 := Aside0.mk hc0_0; clear hr0_0 hc0_0; have HB := Aside0.mk (Below.refl w.heap.size w); have H : ((potsherdlaw15_Light.f k l0_0).bind fun t248 => (if t248 > 0 then (potsherdlaw18_QuotaSums.j0 k a1 true l0_0) else ((potsherdref12_MayTree.f k l0_0).bind fun t249 => (potsherdlaw18_QuotaSums.j0 k a1 (!t249) l0_0)))) = some true := h; clear h; have HC4 := Aside0.mk H; clear H
 go_enter Try.func5, Try.ntmps5
 go_upto_region 1 with (first | ((with_reducible refine gate_dst (N := 3) rfl ?_); (try (refine gate_guard (by rfl) ?_; dsimp only)); refine box_event ?hg (N := 3) ?hd (cs := #[.slice A0_0 l0_0.length c0_0]) (t := 24) ?hr ?_; (case hd => rfl); (case hg => rfl); (case hr => first | (go_simp; done) | (go_simp; rfl)); intro gb247 hg w5 hbox hb; have n0_ := Aside0.mk (below_step (by repeat (first | (with_reducible first | exact HB.out | apply wA | apply wN | apply wD) | exact HB.out)) hb); have n1_ := Aside0.mk (hbox); have n2_ := Aside0.mk ((by rw [hg]; exact (below_size (by repeat (first | (with_reducible first | exact HB.out | apply wA | apply wN | apply wD) | exact HB.out))) : w.heap.size ≤ gb247)); have n3_ := Aside0.mk ((by rw [hg]; exact (below_size (by repeat (first | (with_reducible first | exact HB.out | apply wA | apply wN | apply wD) | exact HB.out))) : w.heap.size ≤ gb247)); clear HB; have HB := n0_; have BK247 := n1_; have GW247 := n2_; have GE247 := n3_; clear n0_ n1_ n2_ n3_; clear hb hbox hg))
 (try simp only [Act.put, lT, l0_, lS])
 go_cut [23] (fun v23 wc => ∃ (kq : Nat) (x23_3 : Bool), v23 = .bool x23_3 ∧ Aside0 (potsherdlaw18_QuotaSums.j0 kq a1 x23_3 l0_0 = some true) ∧ Aside0 (kq ≤ k) ∧ Aside0 (wc.heap[gb247]? = some (.cells #[(.slice A0_0 l0_0.length c0_0)] 24 (0, 0))) ∧ Aside0 (Below w.heap.size w wc))
 case first =>
  have H := HC4.out; clear HC4; replace H := Option.bind_eq_some_iff.mp H; obtain ⟨t248, A60, H⟩ := H; replace H : (if t248 > 0 then (potsherdlaw18_QuotaSums.j0 k a1 true l0_0) else ((potsherdref12_MayTree.f k l0_0).bind fun t249 => (potsherdlaw18_QuotaSums.j0 k a1 (!t249) l0_0))) = some true := H; have A6 := Aside0.mk A60; clear A60
  by_cases c7 : t248 > 0
  ·
   rw [if_pos c7] at H; have c7b0 : decide (0 < t248) = true := decide_eq_true c7; clear c7
   (first | rw [c7b0] | (simp only [i64_w, i32_w]; rw [c7b0]) | skip)
   have H' := Aside0.mk H; clear H; have hcz8_0 : w5.cell? ⟨gb247, 0, none⟩ = some (.slice A0_0 l0_0.length c0_0) := (bC BK247.out 0).trans rfl; have hfz8_0 := bZ BK247.out 0
   go_wp2_with (first | ((with_reducible refine gate_callee (f := 13) rfl ?_); refine goesL_ (some 17) rfl rfl Try.func13 (by kernel_rfl) rfl #[.agg #[.slice A0_0 l0_0.length c0_0]] rfl (by (try simp only [List.map_toArray, List.map_cons, List.map_nil]); first | done | rfl | (simp only [List.length_drop, List.length_take]; rfl)) ?_; (with_reducible refine (potsherdlaw15_Light.calls k _ _ l0_0 t248 _ ?side1 ?side2 A6.out).mono ?_); (case side1 => repeat (first | exact (Kd.C_below HR0_0.out HB.out) | (with_reducible refine Kd.C_alloc ?_ _) | (with_reducible refine Kd.C_drewN ?_ _) | (with_reducible refine Kd.C_drew ?_))); (case side2 => exact HC0_0.out); rintro e w9 ⟨rfl, hb⟩; refine ⟨_, rfl, ?_⟩; have n0_ := Aside0.mk (bB (g := gb247) (o := .cells #[.slice A0_0 l0_0.length c0_0] 24 (0, 0)) (by (with_reducible repeat (first | refine bN ?_ _ | refine bD ?_ | refine bA ?_ _)); exact BK247.out) hb); have n1_ := Aside0.mk (below_step (by repeat (first | (with_reducible first | exact HB.out | apply wA | apply wN | apply wD | refine wS ?_ GE247.out) | exact HB.out)) hb); clear BK247; clear HB; have BK247 := n0_; have HB := n1_; clear n0_ n1_; (try clear hb); (try clear hb2); (try clear hk); (try clear hi)))
   go_meet
   case rel => exact ⟨_, (true), (by first | rfl | (simp; done) | (simp [*]; done)), H', ⟨by first | omega | exact Nat.le_refl _⟩, ⟨by (with_reducible repeat (first | refine bN ?_ _ | refine bD ?_ | refine bA ?_ _)); exact BK247.out⟩, ⟨by repeat (first | (with_reducible first | exact HB.out | apply wA | apply wN | apply wD | refine wS ?_ GE247.out) | exact HB.out)⟩⟩
  ·
   rw [if_neg c7] at H; have c7b0 : decide (0 < t248) = false := decide_eq_false c7; clear c7
   (first | rw [c7b0] | (simp only [i64_w, i32_w]; rw [c7b0]) | skip)
   replace H := Option.bind_eq_some_iff.mp H; obtain ⟨t249, A100, H⟩ := H; replace H : (potsherdlaw18_QuotaSums.j0 k a1 (!t249) l0_0) = some true := H; have A10 := Aside0.mk A100; clear A100; have H' := Aside0.mk H; clear H; have hcz11_0 : w5.cell? ⟨gb247, 0, none⟩ = some (.slice A0_0 l0_0.length c0_0) := (bC BK247.out 0).trans rfl; have hfz11_0 := bZ BK247.out 0
   go_wp2_with (first | ((with_reducible refine gate_callee (f := 13) rfl ?_); refine goesL_ (some 17) rfl rfl Try.func13 (by kernel_rfl) rfl #[.agg #[.slice A0_0 l0_0.length c0_0]] rfl (by (try simp only [List.map_toArray, List.map_cons, List.map_nil]); first | done | rfl | (simp only [List.length_drop, List.length_take]; rfl)) ?_; (with_reducible refine (potsherdlaw15_Light.calls k _ _ l0_0 t248 _ ?side1 ?side2 A6.out).mono ?_); (case side1 => repeat (first | exact (Kd.C_below HR0_0.out HB.out) | (with_reducible refine Kd.C_alloc ?_ _) | (with_reducible refine Kd.C_drewN ?_ _) | (with_reducible refine Kd.C_drew ?_))); (case side2 => exact HC0_0.out); rintro e w12 ⟨rfl, hb⟩; refine ⟨_, rfl, ?_⟩; have n0_ := Aside0.mk (bB (g := gb247) (o := .cells #[.slice A0_0 l0_0.length c0_0] 24 (0, 0)) (by (with_reducible repeat (first | refine bN ?_ _ | refine bD ?_ | refine bA ?_ _)); exact BK247.out) hb); have n1_ := Aside0.mk (below_step (by repeat (first | (with_reducible first | exact HB.out | apply wA | apply wN | apply wD | refine wS ?_ GE247.out) | exact HB.out)) hb); clear BK247; clear HB; have BK247 := n0_; have HB := n1_; clear n0_ n1_; (try clear hb); (try clear hb2); (try clear hk); (try clear hi); have hcz13_0 : w12.cell? ⟨gb247, 0, none⟩ = some (.slice A0_0 l0_0.length c0_0) := (bC BK247.out 0).trans rfl; have hfz13_0 := bZ BK247.out 0) | (go_at_call 29; (with_reducible refine (potsherdref12_MayTree.calls k _ _ l0_0 t249 _ ?side1 ?side2 A10.out).mono ?_); (case side1 => repeat (first | exact (Kd.C_below HR0_0.out HB.out) | (with_reducible refine Kd.C_alloc ?_ _) | (with_reducible refine Kd.C_drewN ?_ _) | (with_reducible refine Kd.C_drew ?_))); (case side2 => exact HC0_0.out); rintro e w14 ⟨rfl, hb⟩; have n0_ := Aside0.mk (bB (g := gb247) (o := .cells #[.slice A0_0 l0_0.length c0_0] 24 (0, 0)) (by (with_reducible repeat (first | refine bN ?_ _ | refine bD ?_ | refine bA ?_ _)); exact BK247.out) hb); have n1_ := Aside0.mk (below_step (by repeat (first | (with_reducible first | exact HB.out | apply wA | apply wN | apply wD | refine wS ?_ GE247.out) | exact HB.out)) hb); clear BK247; clear HB; have BK247 := n0_; have HB := n1_; clear n0_ n1_; (try clear hb); (try clear hb2); (try clear hk); (try clear hi)))
   go_meet
   case rel => exact ⟨_, (!t249), (by first | rfl | (simp; done) | (simp [*]; done)), H', ⟨by first | omega | exact Nat.le_refl _⟩, ⟨by (with_reducible repeat (first | refine bN ?_ _ | refine bD ?_ | refine bA ?_ _)); exact BK247.out⟩, ⟨by repeat (first | (with_reducible first | exact HB.out | apply wA | apply wN | apply wD | refine wS ?_ GE247.out) | exact HB.out)⟩⟩
 case rest =>
  clear HC4
  try clear c1
  try clear p2
  try clear c5
  try clear c7
  try clear c7b0
  try clear c13
  try clear hcz11_0
  try clear hcz13_0
  try clear hcz8_0
  try clear hfz11_0
  try clear hfz13_0
  try clear hfz8_0
  obtain ⟨kq, x23_3, rfl, HA, HJ3, BK247, HB⟩ := hcut
  cases kq with
  | zero => exact absurd HA.out (by simp [potsherdlaw18_QuotaSums.j0])
  | succ kj3 =>
   have H := HA.out; clear HA; simp only [potsherdlaw18_QuotaSums.j0] at H
   by_cases c15 : x23_3 = true
   ·
    subst c15
    have H1 : ((potsherdlaw18_awake.f kj3).bind fun t250 => (some t250)) = some true := by rw [if_pos rfl] at H; exact H
    clear H; have H := H1; clear H1; replace H := Option.bind_eq_some_iff.mp H; obtain ⟨t250, A160, H⟩ := H; replace H : (some t250) = some true := H; have A16 := Aside0.mk A160; clear A160; have HRET := Aside0.mk (Option.some.inj H); clear H
    go_wp2_with (first | ((with_reducible refine gate_callee (f := 15) rfl ?_); refine goesL_ (some 24) rfl rfl Try.func15 (by kernel_rfl) rfl #[] rfl (by (try simp only [List.map_toArray, List.map_cons, List.map_nil]); first | done | rfl | (simp only [List.length_drop, List.length_take]; rfl)) ?_; (with_reducible refine (potsherdlaw18_awake.calls kj3  t250 _ A16.out).mono ?_); rintro e w17 ⟨rfl, hb⟩; refine ⟨_, rfl, ?_⟩; have n0_ := Aside0.mk (bB (g := gb247) (o := .cells #[.slice A0_0 l0_0.length c0_0] 24 (0, 0)) (by (with_reducible repeat (first | refine bN ?_ _ | refine bD ?_ | refine bA ?_ _)); exact BK247.out) hb); have n1_ := Aside0.mk (below_step (by repeat (first | (with_reducible first | exact HB.out | apply wA | apply wN | apply wD | refine wS ?_ GE247.out) | exact HB.out)) hb); clear BK247; clear HB; have BK247 := n0_; have HB := n1_; clear n0_ n1_; (try clear hb); (try clear hb2); (try clear hk); (try clear hi)))
    go_ret
    exact ⟨by first | rfl | exact congrArg (fun b_ => Ending.returned (Value.bool b_)) HRET.out | (rw [HRET.out]) | (simp [errW_none, errW_some] <;> rfl) | (simp [*, errW_none, errW_some] <;> rfl), by repeat (first | (with_reducible first | exact HB.out | apply wA | apply wN | apply wD | refine wS ?_ GE247.out) | exact HB.out)⟩
   ·
    replace c15 := Bool.eq_false_iff.mpr c15; subst c15
    have H1 : ((quota_Used.f kj3 l0_0).bind fun t251 => ((quota_Left.f kj3 l0_0 (wrap64 (Int.tmod (IntKind.u64.wrap (a1)) 61))).bind fun t252 => (potsherdlaw18_QuotaSums.l0 kj3 (wrap64 (Int.tmod (IntKind.u64.wrap (a1)) 61)) t251 t252 0 l0_0 (l0_0.length : Int) 0 l0_0))) = some true := by rw [if_neg (show ¬ (false = true) by decide)] at H; exact H
    clear H; have H := H1; clear H1; replace H := Option.bind_eq_some_iff.mp H; obtain ⟨t251, A180, H⟩ := H; replace H : ((quota_Left.f kj3 l0_0 (wrap64 (Int.tmod (IntKind.u64.wrap (a1)) 61))).bind fun t252 => (potsherdlaw18_QuotaSums.l0 kj3 (wrap64 (Int.tmod (IntKind.u64.wrap (a1)) 61)) t251 t252 0 l0_0 (l0_0.length : Int) 0 l0_0)) = some true := H; have A18 := Aside0.mk A180; clear A180; replace H := Option.bind_eq_some_iff.mp H; obtain ⟨t252, A190, H⟩ := H; replace H : (potsherdlaw18_QuotaSums.l0 kj3 (wrap64 (Int.tmod (IntKind.u64.wrap (a1)) 61)) t251 t252 0 l0_0 (l0_0.length : Int) 0 l0_0) = some true := H; have A19 := Aside0.mk A190; clear A190; have H' := Aside0.mk H; clear H
    try go_wp2
    have n0_ := Aside0.mk (bD BK247.out); have n1_ := Aside0.mk (wD HB.out); clear BK247; clear HB; have BK247 := n0_; have HB := n1_; clear n0_ n1_; refine start_ (n := 7) (S := fun w' => w'.cell? ⟨gb247, 0, none⟩ = some (.slice A0_0 l0_0.length c0_0)) (ds := []) B21_0 (by kernel_rfl) rfl rfl ((bC BK247.out 0).trans rfl) (fun hHeld => ?_); generalize wc.drew = w20 at BK247 HB hHeld ⊢; refine pure_ (i := 3) (N := some 32) (v := ?_) (a' := ?_) B21_1 rfl rfl (by kernel_rfl) (fun _ _ _ h => h) (Or.inl ⟨by rfl, ?_⟩) ?_ ?_; rotate_left
    ·
     intro w'; go_simp; with_reducible rfl
    rotate_left
    ·
     simp only [Act.put, lT, l0_, lS, i64_w, i32_w]; rfl
    refine take_ (i := 0) (N := some 29) (v := ?_) (a' := ?_) B21_2 rfl rfl (by kernel_rfl) (fun _ _ _ h => h) (Or.inl ⟨by rfl, ?_⟩) hHeld ?_ ?_; rotate_left
    ·
     intro w' s0; go_simp; with_reducible rfl
    rotate_left
    ·
     simp only [Act.put, lT, l0_, lS, i64_w, i32_w]; rfl
    refine take_ (i := 2) (N := some 31) (v := ?_) (a' := ?_) B21_3 rfl rfl (by kernel_rfl) (fun _ _ _ h => h) (Or.inl ⟨by rfl, ?_⟩) hHeld ?_ ?_; rotate_left
    ·
     intro w' s0; go_simp; with_reducible rfl
    rotate_left
    ·
     simp only [Act.put, lT, l0_, lS, i64_w, i32_w]; rfl
    refine one_ (i := 1) (N := some 30) B21_4 rfl rfl (by kernel_rfl) (by decide) (fun K hK => ?_); refine goes_ Try.func16 (by kernel_rfl) rfl #[.agg #[.slice A0_0 l0_0.length c0_0]] (by rfl) rfl rfl (by (try simp only [List.map_toArray, List.map_cons, List.map_nil]); first | done | rfl | (simp only [List.length_drop, List.length_take]; rfl)) ?_
    with_reducible refine (quota_Used.calls kj3 _ _ l0_0 t251 _ ?side1 ?side2 A18.out).mono ?_
    (case side1 => repeat (first | exact (Kd.C_below HR0_0.out HB.out) | (with_reducible refine Kd.C_alloc ?_ _) | (with_reducible refine Kd.C_drewN ?_ _) | (with_reducible refine Kd.C_drew ?_)))
    (case side2 => exact HC0_0.out)
    rintro e w21 ⟨rfl, hb⟩; refine ⟨_, rfl, ?_⟩; have n0_ := Aside0.mk (bB (g := gb247) (o := .cells #[.slice A0_0 l0_0.length c0_0] 24 (0, 0)) (by (with_reducible repeat (first | refine bN ?_ _ | refine bD ?_ | refine bA ?_ _)); exact BK247.out) hb)
    have n1_ := Aside0.mk (below_step (by repeat (first | (with_reducible first | exact HB.out | apply wA | apply wN | apply wD | refine wS ?_ GE247.out) | exact HB.out)) hb); clear BK247; clear HB; have BK247 := n0_; have HB := n1_; clear n0_ n1_
    (try clear hb)
    (try clear hb2)
    (try clear hk)
    (try clear hi)
    refine hK.out _ _ ((bC BK247.out 0).trans rfl) (fun hHeld => ?_); clear hK K; refine norm_ (a' := ?_) ?_ ?_; rotate_left
    ·
     show Act.put _ (some 30) _ = _
     simp only [Act.put, lT, l0_, lS, i64_w, i32_w]; rfl
    refine one_ (i := 4) (N := some 33) B21_5 rfl rfl (by kernel_rfl) (by decide) (fun K hK => ?_); refine goes_ Try.func18 (by kernel_rfl) rfl #[.agg #[.slice A0_0 l0_0.length c0_0], .int .i64 (wrap64 (Int.tmod (IntKind.u64.wrap (a1)) 61))] (by rfl) rfl rfl (by (try simp only [List.map_toArray, List.map_cons, List.map_nil]); first | done | rfl | (simp only [List.length_drop, List.length_take]; rfl)) ?_
    with_reducible refine (quota_Left.calls kj3 _ _ l0_0 (wrap64 (Int.tmod (IntKind.u64.wrap (a1)) 61)) t252 _ ?side1 ?side2 A19.out).mono ?_
    (case side1 => repeat (first | exact (Kd.C_below HR0_0.out HB.out) | (with_reducible refine Kd.C_alloc ?_ _) | (with_reducible refine Kd.C_drewN ?_ _) | (with_reducible refine Kd.C_drew ?_)))
    (case side2 => exact HC0_0.out)
    rintro e w22 ⟨rfl, hb⟩; refine ⟨_, rfl, ?_⟩; have n0_ := Aside0.mk (bB (g := gb247) (o := .cells #[.slice A0_0 l0_0.length c0_0] 24 (0, 0)) (by (with_reducible repeat (first | refine bN ?_ _ | refine bD ?_ | refine bA ?_ _)); exact BK247.out) hb)
    have n1_ := Aside0.mk (below_step (by repeat (first | (with_reducible first | exact HB.out | apply wA | apply wN | apply wD | refine wS ?_ GE247.out) | exact HB.out)) hb); clear BK247; clear HB; have BK247 := n0_; have HB := n1_; clear n0_ n1_
    (try clear hb)
    (try clear hb2)
    (try clear hk)
    (try clear hi)
    refine hK.out _ _ ((bC BK247.out 0).trans rfl) (fun hHeld => ?_); clear hK K; refine norm_ (a' := ?_) ?_ ?_; rotate_left
    ·
     show Act.put _ (some 33) _ = _
     simp only [Act.put, lT, l0_, lS, i64_w, i32_w]; rfl
    refine pure_ (i := 5) (N := some 7) (v := ?_) (a' := ?_) B21_6 rfl rfl (by kernel_rfl) (fun _ _ _ h => h) (Or.inl ⟨by rfl, ?_⟩) ?_ ?_; rotate_left
    ·
     intro w'; go_simp; with_reducible rfl
    rotate_left
    ·
     simp only [Act.put, lT, l0_, lS, i64_w, i32_w]; rfl
    refine pure_ (i := 6) (N := some 8) (v := ?_) (a' := ?_) B21_7 rfl rfl (by kernel_rfl) (fun _ _ _ h => h) (Or.inl ⟨by rfl, ?_⟩) ?_ ?_; rotate_left
    ·
     intro w'; go_simp; with_reducible rfl
    rotate_left
    ·
     simp only [Act.put, lT, l0_, lS, i64_w, i32_w]; rfl
    refine done_ (by kernel_rfl) ?_; have hcz23_0 : w22.cell? ⟨gb247, 0, none⟩ = some (.slice A0_0 l0_0.length c0_0) := (bC BK247.out 0).trans rfl; have hfz23_0 := bZ BK247.out 0
    try go_wp2
    go_loopg [9, 37] kj3 (fun kq v9 v37 w' => ∃ (x9_2 : Int) (x37_2 : Int), v9 = .int .i64 x9_2 ∧ v37 = .int .i64 x37_2 ∧ Aside0 (potsherdlaw18_QuotaSums.l0 kq (wrap64 (Int.tmod (IntKind.u64.wrap (a1)) 61)) t251 t252 x9_2 l0_0 (l0_0.length : Int) x37_2 l0_0 = some true) ∧ Aside0 (kq ≤ kj3) ∧ Aside0 (w'.heap[gb247]? = some (.cells #[(.slice A0_0 l0_0.length c0_0)] 24 (0, 0))) ∧ Aside0 (Below w.heap.size w w'))
    case atStart => exact ⟨(0), (0), (by first | rfl | (simp; done) | (simp [*]; done)), (by first | rfl | (simp; done) | (simp [*]; done)), H', ⟨Nat.le_refl _⟩, ⟨by (with_reducible repeat (first | refine bN ?_ _ | refine bD ?_ | refine bA ?_ _)); exact BK247.out⟩, ⟨by repeat (first | (with_reducible first | exact HB.out | apply wA | apply wN | apply wD | refine wS ?_ GE247.out) | exact HB.out)⟩⟩
    case round =>
     clear H'
     try clear c1
     try clear p2
     try clear c5
     try clear p6
     try clear c7
     try clear c7b0
     try clear c13
     try clear c15
     try clear c16
     try clear c18
     try clear hcz11_0
     try clear hcz13_0
     try clear hcz23_0
     try clear hcz8_0
     try clear hfz11_0
     try clear hfz13_0
     try clear hfz23_0
     try clear hfz8_0
     try clear p2
     obtain ⟨x9_2, x37_2, rfl, rfl, HA, HK2, BK247, HB⟩ := hrel
     cases gk with
     | zero => exact absurd HA.out (by simp [potsherdlaw18_QuotaSums.l0])
     | succ k2 =>
      have H := HA.out; clear HA; simp only [potsherdlaw18_QuotaSums.l0] at H
      by_cases c24 : x37_2 < (l0_0.length : Int)
      ·
       rw [if_pos c24] at H; have c24b0 : decide (x37_2 < (l0_0.length : Int)) = true := decide_eq_true c24; clear c24
       by_cases c25 : 0 ≤ x37_2
       ·
        rw [if_pos c25] at H; have c25b0 : decide (0 ≤ x37_2) = true := decide_eq_true c25; clear c25
        by_cases c26 : x37_2 < (l0_0.length : Int)
        ·
         rw [if_pos c26] at H; have c26b0 : decide (x37_2 < (l0_0.length : Int)) = true := decide_eq_true c26; clear c26; replace H := Option.bind_eq_some_iff.mp H; obtain ⟨t255, A270, H⟩ := H; replace H : (potsherdlaw18_QuotaSums.l0 k2 (wrap64 (Int.tmod (IntKind.u64.wrap (a1)) 61)) t251 t252 (wrap64 (x9_2 + t255)) l0_0 (l0_0.length : Int) (wrap64 (x37_2 + 1)) l0_0) = some true := H; have A27 := Aside0.mk A270; clear A270; have H' := Aside0.mk H; clear H; have p253 : 0 ≤ (x37_2 : Int) := of_decide_eq_true (by first | (with_reducible assumption) | assumption); have q253 : x37_2 < (l0_0.length : Int) := of_decide_eq_true (by first | (with_reducible assumption) | assumption); obtain ⟨ad253, A253_3, c253_3, A253_4, c253_4, e253, hx253_0, hx253_1, hx253_2, hx253_3, hx253_4, hl253_3, hi253_3, hl253_4, hi253_4⟩ := at_T28 HR0_0.out x37_2 p253 q253
         cases e253
         replace hx253_0 := (HB.out.cell (World.block_lt_of_cell? w _ hx253_0)).trans hx253_0; replace hx253_1 := (HB.out.cell (World.block_lt_of_cell? w _ hx253_1)).trans hx253_1; replace hx253_2 := (HB.out.cell (World.block_lt_of_cell? w _ hx253_2)).trans hx253_2; replace hx253_3 := (HB.out.cell (World.block_lt_of_cell? w _ hx253_3)).trans hx253_3; replace hx253_4 := (HB.out.cell (World.block_lt_of_cell? w _ hx253_4)).trans hx253_4; have HR253_3 := Aside0.mk hi253_3; have HC253_3 := Aside0.mk hl253_3; clear hi253_3 hl253_3; have HR253_4 := Aside0.mk hi253_4; have HC253_4 := Aside0.mk hl253_4; clear hi253_4 hl253_4; replace p253 := eq_true p253; replace q253 := eq_true q253
         go_wp2_with (first | ((with_reducible refine gate_dst (N := 11) rfl ?_); (try (refine gate_guard (by rfl) ?_; dsimp only)); refine box_event ?hg (N := 11) ?hd (cs := #[.int .i64 0, .int .i64 0, .int .i64 0, .slice none 0 0, .slice none 0 0]) (t := 28) ?hr ?_; (case hd => rfl); (case hg => rfl); (case hr => first | (go_simp; done) | (go_simp; rfl)); intro gb254 hg w28 hbox hb; have n0_ := Aside0.mk (bB (g := gb247) (o := .cells #[.slice (some ad253) l0_0.length c0_0] 24 (0, 0)) (by (with_reducible repeat (first | refine bN ?_ _ | refine bD ?_ | refine bA ?_ _)); exact BK247.out) hb); have n1_ := Aside0.mk (below_step (by repeat (first | (with_reducible first | exact HB.out | apply wA | apply wN | apply wD | refine wS ?_ GE247.out) | exact HB.out)) hb); have n2_ := Aside0.mk (hbox); have n3_ := Aside0.mk ((by rw [hg]; exact (below_size (by repeat (first | (with_reducible first | exact HB.out | apply wA | apply wN | apply wD | refine wS ?_ GE247.out) | exact HB.out))) : w.heap.size ≤ gb254)); have n4_ := Aside0.mk ((by rw [hg]; exact (below_size (by repeat (first | (with_reducible first | exact HB.out | apply wA | apply wN | apply wD | refine wS ?_ GE247.out) | exact HB.out))) : w.heap.size ≤ gb254)); have n5_ := Aside0.mk ((by rw [hg]; exact Nat.ne_of_lt (blk_lt (g := gb247) (o := .cells #[.slice (some ad253) l0_0.length c0_0] 24 (0, 0)) (by (with_reducible repeat (first | refine bN ?_ _ | refine bD ?_ | refine bA ?_ _)); exact BK247.out)) : gb247 ≠ gb254)); have n6_ := Aside0.mk ((by rw [hg]; exact Nat.ne_of_gt (blk_lt (g := gb247) (o := .cells #[.slice (some ad253) l0_0.length c0_0] 24 (0, 0)) (by (with_reducible repeat (first | refine bN ?_ _ | refine bD ?_ | refine bA ?_ _)); exact BK247.out)) : gb254 ≠ gb247)); clear BK247; clear HB; have BK247 := n0_; have HB := n1_; have BK254 := n2_; have GW254 := n3_; have GE254 := n4_; have NB247_254 := n5_; have NB254_247 := n6_; clear n0_ n1_ n2_ n3_ n4_ n5_ n6_; clear hb hbox hg; have hnb29 := NB254_247.out; have hnc29 := NB247_254.out; have hcz30_0 : w28.cell? ⟨gb254, 0, none⟩ = some (.int .i64 0) := (bC BK254.out 0).trans rfl; have hcz30_1 : w28.cell? ⟨gb254, 1, none⟩ = some (.int .i64 0) := (bC BK254.out 1).trans rfl; have hcz30_2 : w28.cell? ⟨gb254, 2, none⟩ = some (.int .i64 0) := (bC BK254.out 2).trans rfl; have hcz30_3 : w28.cell? ⟨gb254, 3, none⟩ = some (.slice none 0 0) := (bC BK254.out 3).trans rfl; have hcz30_4 : w28.cell? ⟨gb254, 4, none⟩ = some (.slice none 0 0) := (bC BK254.out 4).trans rfl; have hfz30_0 := bZ BK254.out 0; have hfz30_1 := bZ BK254.out 1; have hfz30_2 := bZ BK254.out 2; have hfz30_3 := bZ BK254.out 3; have hfz30_4 := bZ BK254.out 4) | ((with_reducible refine gate_callee (f := 28) rfl ?_); refine goesL_ (some 43) rfl rfl Try.func28 (by kernel_rfl) rfl #[.agg #[.int .i64 ((rd_T28 l0_0 x37_2).f0), .int .i64 ((rd_T28 l0_0 x37_2).f1), .int .i64 ((rd_T28 l0_0 x37_2).f2), .slice A253_3 ((rd_T28 l0_0 x37_2).f3).length c253_3, .slice A253_4 ((rd_T28 l0_0 x37_2).f4).length c253_4]] rfl (by (try simp only [List.map_toArray, List.map_cons, List.map_nil]); first | done | rfl | (simp only [List.length_drop, List.length_take]; rfl)) ?_; (with_reducible refine (potsherdref12_Pages.calls k2 ((rd_T28 l0_0 x37_2).f0) ((rd_T28 l0_0 x37_2).f1) ((rd_T28 l0_0 x37_2).f2) _ _ ((rd_T28 l0_0 x37_2).f3) _ _ ((rd_T28 l0_0 x37_2).f4) t255 _ ?side1 ?side2 ?side3 ?side4 A27.out).mono ?_); (case side1 => exact Kd.C_below HR253_3.out (by repeat (first | (with_reducible first | exact HB.out | apply wA | apply wN | apply wD | refine wS ?_ GE247.out | refine wS ?_ GE254.out) | exact HB.out))); (case side2 => exact HC253_3.out); (case side3 => exact Kd.C_below HR253_4.out (by repeat (first | (with_reducible first | exact HB.out | apply wA | apply wN | apply wD | refine wS ?_ GE247.out | refine wS ?_ GE254.out) | exact HB.out))); (case side4 => exact HC253_4.out); rintro e w31 ⟨rfl, hb⟩; refine ⟨_, rfl, ?_⟩; have n0_ := Aside0.mk (bB (g := gb247) (o := .cells #[.slice (some ad253) l0_0.length c0_0] 24 (0, 0)) (by (with_reducible repeat (first | refine bN ?_ _ | refine bD ?_ | refine bA ?_ _)); refine bF ?_ NB247_254.out _; (with_reducible repeat (first | refine bN ?_ _ | refine bD ?_ | refine bA ?_ _)); refine bF ?_ NB247_254.out _; (with_reducible repeat (first | refine bN ?_ _ | refine bD ?_ | refine bA ?_ _)); refine bF ?_ NB247_254.out _; (with_reducible repeat (first | refine bN ?_ _ | refine bD ?_ | refine bA ?_ _)); refine bF ?_ NB247_254.out _; (with_reducible repeat (first | refine bN ?_ _ | refine bD ?_ | refine bA ?_ _)); refine bF ?_ NB247_254.out _; (with_reducible repeat (first | refine bN ?_ _ | refine bD ?_ | refine bA ?_ _)); exact BK247.out) hb); have n1_ := Aside0.mk (bB (g := gb254) (o := .cells #[.int .i64 ((rd_T28 l0_0 x37_2).f0), .int .i64 ((rd_T28 l0_0 x37_2).f1), .int .i64 ((rd_T28 l0_0 x37_2).f2), .slice A253_3 ((rd_T28 l0_0 x37_2).f3).length c253_3, .slice A253_4 ((rd_T28 l0_0 x37_2).f4).length c253_4] 28 (0, 0)) (by (with_reducible repeat (first | refine bN ?_ _ | refine bD ?_ | refine bA ?_ _)); refine blk_put (cs := #[.int .i64 ((rd_T28 l0_0 x37_2).f0), .int .i64 ((rd_T28 l0_0 x37_2).f1), .int .i64 ((rd_T28 l0_0 x37_2).f2), .slice A253_3 ((rd_T28 l0_0 x37_2).f3).length c253_3, .slice none 0 0]) ?_ 4 _ rfl; (with_reducible repeat (first | refine bN ?_ _ | refine bD ?_ | refine bA ?_ _)); refine blk_put (cs := #[.int .i64 ((rd_T28 l0_0 x37_2).f0), .int .i64 ((rd_T28 l0_0 x37_2).f1), .int .i64 ((rd_T28 l0_0 x37_2).f2), .slice none 0 0, .slice none 0 0]) ?_ 3 _ rfl; (with_reducible repeat (first | refine bN ?_ _ | refine bD ?_ | refine bA ?_ _)); refine blk_put (cs := #[.int .i64 ((rd_T28 l0_0 x37_2).f0), .int .i64 ((rd_T28 l0_0 x37_2).f1), .int .i64 0, .slice none 0 0, .slice none 0 0]) ?_ 2 _ rfl; (with_reducible repeat (first | refine bN ?_ _ | refine bD ?_ | refine bA ?_ _)); refine blk_put (cs := #[.int .i64 ((rd_T28 l0_0 x37_2).f0), .int .i64 0, .int .i64 0, .slice none 0 0, .slice none 0 0]) ?_ 1 _ rfl; (with_reducible repeat (first | refine bN ?_ _ | refine bD ?_ | refine bA ?_ _)); refine blk_put (cs := #[.int .i64 0, .int .i64 0, .int .i64 0, .slice none 0 0, .slice none 0 0]) ?_ 0 _ rfl; (with_reducible repeat (first | refine bN ?_ _ | refine bD ?_ | refine bA ?_ _)); exact BK254.out) hb); have n2_ := Aside0.mk (below_step (by repeat (first | (with_reducible first | exact HB.out | apply wA | apply wN | apply wD | refine wS ?_ GE247.out | refine wS ?_ GE254.out) | exact HB.out)) hb); clear BK247; clear BK254; clear HB; have BK247 := n0_; have BK254 := n1_; have HB := n2_; clear n0_ n1_ n2_; (try clear hb); (try clear hb2); (try clear hk); (try clear hi)))
         go_roundg k2
         case measure => have := HJ3.out; have := HK2.out; omega
         case rel => exact ⟨(wrap64 (x9_2 + t255)), (wrap64 (x37_2 + 1)), (by first | rfl | (simp; done) | (simp [*]; done)), (by first | rfl | (simp; done) | (simp [*]; done)), H', ⟨by have := HJ3.out; have := HK2.out; omega⟩, ⟨by (with_reducible repeat (first | refine bN ?_ _ | refine bD ?_ | refine bA ?_ _)); exact BK247.out⟩, ⟨by repeat (first | (with_reducible first | exact HB.out | apply wA | apply wN | apply wD | refine wS ?_ GE247.out | refine wS ?_ GE254.out) | exact HB.out)⟩⟩
        ·
         rw [if_neg c26] at H; exact absurd H (by simp)
       ·
        rw [if_neg c25] at H; exact absurd H (by simp)
      ·
       rw [if_neg c24] at H; have c24b0 : decide (x37_2 < (l0_0.length : Int)) = false := decide_eq_false c24; clear c24; replace H := Option.bind_eq_some_iff.mp H; obtain ⟨t256, A320, H⟩ := H; replace H : (potsherdlaw18_QuotaSums.l1 k2 (wrap64 (Int.tmod (IntKind.u64.wrap (a1)) 61)) t251 t252 x9_2 0 t256 (t256.length : Int) 0 l0_0 t256) = some true := H; have A32 := Aside0.mk A320; clear A320; have H' := Aside0.mk H; clear H; have hcz33_0 : wr.cell? ⟨gb247, 0, none⟩ = some (.slice A0_0 l0_0.length c0_0) := (bC BK247.out 0).trans rfl; have hfz33_0 := bZ BK247.out 0
       go_wp2_with (first | ((with_reducible refine gate_callee (f := 30) rfl ?_); refine goesL_ (some 47) rfl rfl Try.func30 (by kernel_rfl) rfl #[.agg #[.slice A0_0 l0_0.length c0_0]] rfl (by (try simp only [List.map_toArray, List.map_cons, List.map_nil]); first | done | rfl | (simp only [List.length_drop, List.length_take]; rfl)) ?_; (with_reducible refine (potsherdref12_Clear.calls k2 _ _ l0_0 t256 _ ?side1 ?side2 A32.out).mono ?_); (case side1 => repeat (first | exact (Kd.C_below HR0_0.out HB.out) | (with_reducible refine Kd.C_alloc ?_ _) | (with_reducible refine Kd.C_drewN ?_ _) | (with_reducible refine Kd.C_drew ?_))); (case side2 => exact HC0_0.out); rintro e w34 ⟨v257, rfl, ho0, hb⟩; refine ⟨_, rfl, ?_⟩; have n0_ := Aside0.mk (Kd.S_lower ho0 (below_size (by repeat (first | (with_reducible first | exact HB.out | apply wA | apply wN | apply wD | refine wS ?_ GE247.out) | exact HB.out)))); have n1_ := Aside0.mk (bB (g := gb247) (o := .cells #[.slice A0_0 l0_0.length c0_0] 24 (0, 0)) (by (with_reducible repeat (first | refine bN ?_ _ | refine bD ?_ | refine bA ?_ _)); exact BK247.out) hb); have n2_ := Aside0.mk (below_step (by repeat (first | (with_reducible first | exact HB.out | apply wA | apply wN | apply wD | refine wS ?_ GE247.out) | exact HB.out)) hb); clear BK247; clear HB; have HO258 := n0_; have BK247 := n1_; have HB := n2_; clear n0_ n1_ n2_; (try clear hb); (try clear hb2); (try clear hk); (try clear hi); (try clear ho0)) | ((with_reducible refine gate_dst (N := 12) rfl ?_); (try (refine gate_guard (by rfl) ?_; dsimp only)); refine box_event ?hg (N := 12) ?hd (cs := #[.slice none 0 0]) (t := 24) ?hr ?_; (case hd => rfl); (case hg => rfl); (case hr => first | (go_simp; done) | (go_simp; rfl)); intro gb259 hg w35 hbox hb; have n0_ := Aside0.mk (Kd.S_below (by (with_reducible repeat (first | apply Kd.S_alloc | apply Kd.S_drewN | apply Kd.S_drew)); exact HO258.out) hb); have n1_ := Aside0.mk (bB (g := gb247) (o := .cells #[.slice A0_0 l0_0.length c0_0] 24 (0, 0)) (by (with_reducible repeat (first | refine bN ?_ _ | refine bD ?_ | refine bA ?_ _)); exact BK247.out) hb); have n2_ := Aside0.mk (below_step (by repeat (first | (with_reducible first | exact HB.out | apply wA | apply wN | apply wD | refine wS ?_ GE247.out) | exact HB.out)) hb); have n3_ := Aside0.mk (hbox); have n4_ := Aside0.mk ((by rw [hg]; exact (below_size (by repeat (first | (with_reducible first | exact HB.out | apply wA | apply wN | apply wD | refine wS ?_ GE247.out) | exact HB.out))) : w.heap.size ≤ gb259)); have n5_ := Aside0.mk ((by rw [hg]; exact (below_size (by repeat (first | (with_reducible first | exact HB.out | apply wA | apply wN | apply wD | refine wS ?_ GE247.out) | exact HB.out))) : w.heap.size ≤ gb259)); have n6_ := Aside0.mk ((by rw [hg]; exact Nat.ne_of_lt (blk_lt (g := gb247) (o := .cells #[.slice A0_0 l0_0.length c0_0] 24 (0, 0)) (by (with_reducible repeat (first | refine bN ?_ _ | refine bD ?_ | refine bA ?_ _)); exact BK247.out)) : gb247 ≠ gb259)); have n7_ := Aside0.mk ((by rw [hg]; exact Nat.ne_of_gt (blk_lt (g := gb247) (o := .cells #[.slice A0_0 l0_0.length c0_0] 24 (0, 0)) (by (with_reducible repeat (first | refine bN ?_ _ | refine bD ?_ | refine bA ?_ _)); exact BK247.out)) : gb259 ≠ gb247)); clear HO258; clear BK247; clear HB; have HO258 := n0_; have BK247 := n1_; have HB := n2_; have BK259 := n3_; have GW259 := n4_; have GE259 := n5_; have NB247_259 := n6_; have NB259_247 := n7_; clear n0_ n1_ n2_ n3_ n4_ n5_ n6_ n7_; clear hb hbox hg; obtain ⟨Ao36, co36, eo36⟩ := Kd.S_slice HO258.out; subst eo36; have hnb37 := NB259_247.out; have hnc37 := NB247_259.out; have hcz38_0 : w35.cell? ⟨gb259, 0, none⟩ = some (.slice none 0 0) := (bC BK259.out 0).trans rfl; have hfz38_0 := bZ BK259.out 0))
       go_loopg [13, 51] k2 (fun kq v13 v51 w' => ∃ (x13_3 : Int) (x51_3 : Int), v13 = .int .i64 x13_3 ∧ v51 = .int .i64 x51_3 ∧ Aside0 (potsherdlaw18_QuotaSums.l1 kq (wrap64 (Int.tmod (IntKind.u64.wrap (a1)) 61)) t251 t252 x9_2 x13_3 t256 (t256.length : Int) x51_3 l0_0 t256 = some true) ∧ Aside0 (kq ≤ k2) ∧ Aside0 (Kd.S k28 28 w' w.heap.size (fun _ => True) (.slice Ao36 t256.length co36) t256) ∧ Aside0 (Kd.S k28 28 w' w.heap.size (fun _ => True) (.slice Ao36 t256.length co36) t256) ∧ Aside0 (w'.heap[gb247]? = some (.cells #[(.slice A0_0 l0_0.length c0_0)] 24 (0, 0))) ∧ Aside0 (w'.heap[gb259]? = some (.cells #[(.slice Ao36 t256.length co36)] 24 (0, 0))) ∧ Aside0 (Below w.heap.size w w'))
       case atStart => exact ⟨(0), (0), (by first | rfl | (simp; done) | (simp [*]; done)), (by first | rfl | (simp; done) | (simp [*]; done)), H', ⟨Nat.le_refl _⟩, ⟨by (with_reducible repeat (first | apply Kd.S_alloc | apply Kd.S_drewN | apply Kd.S_drew)); exact Kd.S_mono (Kd.S_far (p := ⟨gb259, 0, none⟩) (Kd.S_types HO258.out BK259.out (by decide)) (fun _ hk => hk.2) (.slice Ao36 t256.length co36)) (fun _ hk => trivial)⟩, ⟨by (with_reducible repeat (first | apply Kd.S_alloc | apply Kd.S_drewN | apply Kd.S_drew)); exact Kd.S_mono (Kd.S_far (p := ⟨gb259, 0, none⟩) (Kd.S_types HO258.out BK259.out (by decide)) (fun _ hk => hk.2) (.slice Ao36 t256.length co36)) (fun _ hk => trivial)⟩, ⟨by (with_reducible repeat (first | refine bN ?_ _ | refine bD ?_ | refine bA ?_ _)); refine bF ?_ NB247_259.out _; (with_reducible repeat (first | refine bN ?_ _ | refine bD ?_ | refine bA ?_ _)); exact BK247.out⟩, ⟨by (with_reducible repeat (first | refine bN ?_ _ | refine bD ?_ | refine bA ?_ _)); refine blk_put (cs := #[.slice none 0 0]) ?_ 0 _ rfl; (with_reducible repeat (first | refine bN ?_ _ | refine bD ?_ | refine bA ?_ _)); exact BK259.out⟩, ⟨by repeat (first | (with_reducible first | exact HB.out | apply wA | apply wN | apply wD | refine wS ?_ GE247.out | refine wS ?_ GE259.out) | exact HB.out)⟩⟩
       case round =>
        clear H'
        try clear c1
        try clear c2
        try clear p2
        try clear q2
        try clear hx2
        try clear c3
        try clear c5
        try clear p6
        try clear c7
        try clear c7b0
        try clear c13
        try clear c15
        try clear c16
        try clear c18
        try clear c24
        try clear c24b0
        try clear c25
        try clear c25b0
        try clear p25
        try clear q25
        try clear hx25
        try clear c26
        try clear c26b0
        try clear c28
        try clear c29
        try clear c30
        try clear c37
        try clear hcz11_0
        try clear hcz13_0
        try clear hcz23_0
        try clear hcz30_0
        try clear hcz30_1
        try clear hcz30_2
        try clear hcz30_3
        try clear hcz30_4
        try clear hcz33_0
        try clear hcz38_0
        try clear hcz8_0
        try clear hfz11_0
        try clear hfz13_0
        try clear hfz23_0
        try clear hfz30_0
        try clear hfz30_1
        try clear hfz30_2
        try clear hfz30_3
        try clear hfz30_4
        try clear hfz33_0
        try clear hfz38_0
        try clear hfz8_0
        try clear hx253_0
        try clear hx253_1
        try clear hx253_2
        try clear hx253_3
        try clear hx253_4
        try clear p2
        try clear p253
        try clear p6
        try clear q253
        obtain ⟨x13_3, x51_3, rfl, rfl, HA, HK3, HO_49, HO_260000, BK247, BK259, HB⟩ := hrel
        cases gk with
        | zero => exact absurd HA.out (by simp [potsherdlaw18_QuotaSums.l1])
        | succ k3 =>
         have H := HA.out; clear HA; simp only [potsherdlaw18_QuotaSums.l1] at H
         by_cases c39 : x51_3 < (t256.length : Int)
         ·
          rw [if_pos c39] at H; have c39b0 : decide (x51_3 < (t256.length : Int)) = true := decide_eq_true c39; clear c39
          by_cases c40 : 0 ≤ x51_3
          ·
           rw [if_pos c40] at H; have c40b0 : decide (0 ≤ x51_3) = true := decide_eq_true c40; clear c40
           by_cases c41 : x51_3 < (t256.length : Int)
           ·
            rw [if_pos c41] at H; have c41b0 : decide (x51_3 < (t256.length : Int)) = true := decide_eq_true c41; clear c41
            by_cases c42 : ((rd_T28 t256 x51_3).f0) = 0
            ·
             rw [if_pos c42] at H; have c42b0 : (((rd_T28 t256 x51_3).f0) == 0) = true := beq_iff_eq.mpr c42; have c42b1 : (((rd_T28 t256 x51_3).f0) != 0) = false := bne_eq_false_iff_eq.mpr c42; clear c42
             by_cases c43 : x51_3 < (l0_0.length : Int)
             ·
              rw [if_pos c43] at H; have c43b0 : decide (x51_3 < (l0_0.length : Int)) = true := decide_eq_true c43; clear c43
              by_cases c44 : ((rd_T28 l0_0 x51_3).f0) = 0
              ·
               rw [if_pos c44] at H; have c44b0 : (((rd_T28 l0_0 x51_3).f0) == 0) = true := beq_iff_eq.mpr c44; have c44b1 : (((rd_T28 l0_0 x51_3).f0) != 0) = false := bne_eq_false_iff_eq.mpr c44; clear c44; have H' := Aside0.mk H; clear H; have p260 : 0 ≤ (x51_3 : Int) := of_decide_eq_true (by first | (with_reducible assumption) | assumption); have q260 : x51_3 < (t256.length : Int) := of_decide_eq_true (by first | (with_reducible assumption) | assumption); obtain ⟨ad260, A260_3, c260_3, A260_4, c260_4, e260, hx260_0, hx260_1, hx260_2, hx260_3, hx260_4, hl260_3, hi260_3, hl260_4, hi260_4⟩ := at_T28 (Kd.S_reads' HO_49.out).2.2 x51_3 p260 q260
               cases e260
               obtain ⟨ce260, hce260, hMe260, hcc260⟩ := Kd.S_get HO_49.out z28 x51_3 p260 (by first | exact q260 | exact of_decide_eq_true (by first | (with_reducible assumption) | assumption) | (have e_ := (Kd.S_reads' HO_49.out).1; omega))
               obtain ⟨ve260_3, ve260_4, rfl, ge260_3, ge260_4⟩ := k28_openM hMe260; have hv260_3 := hcc260 3 _ rfl; rw [add_field _ _ 3 (by omega)] at hv260_3; replace hv260_3 := Option.some.inj (hv260_3.symm.trans hx260_3); rw [hv260_3] at ge260_3; have HL260_3 := Aside0.mk (show Kd.R (Kd.int .i64) 3 _ _ _ _ ((rd_T28 t256 x51_3).f3) from ge260_3); clear hv260_3 ge260_3; have hv260_4 := hcc260 4 _ rfl; rw [add_field _ _ 4 (by omega)] at hv260_4; replace hv260_4 := Option.some.inj (hv260_4.symm.trans hx260_4); rw [hv260_4] at ge260_4; have HL260_4 := Aside0.mk (show Kd.R k78 78 _ _ _ _ ((rd_T28 t256 x51_3).f4) from ge260_4); clear hv260_4 ge260_4; clear hcc260 hce260; have HR260_3 := Aside0.mk hi260_3; have HC260_3 := Aside0.mk hl260_3; clear hi260_3 hl260_3; have HR260_4 := Aside0.mk hi260_4; have HC260_4 := Aside0.mk hl260_4; clear hi260_4 hl260_4; replace p260 := eq_true p260; replace q260 := eq_true q260
               go_wp2_with (first | ((with_reducible refine gate_dst (N := 15) rfl ?_); (try (refine gate_guard (by rfl) ?_; dsimp only)); refine box_event ?hg (N := 15) ?hd (cs := #[.int .i64 0, .int .i64 0, .int .i64 0, .slice none 0 0, .slice none 0 0]) (t := 28) ?hr ?_; (case hd => rfl); (case hg => rfl); (case hr => first | (go_simp; done) | (go_simp; rfl)); intro gb261 hg w45 hbox hb; have n0_ := Aside0.mk (Kd.S_below (Kd.S_elderB (by (with_reducible repeat (first | apply Kd.S_alloc | apply Kd.S_drewN | apply Kd.S_drew)); exact HO_49.out) gb261 (Nat.le_of_eq hg.symm)) hb); have n1_ := Aside0.mk (Kd.S_below (Kd.S_elderB (by (with_reducible repeat (first | apply Kd.S_alloc | apply Kd.S_drewN | apply Kd.S_drew)); exact HO_260000.out) gb261 (Nat.le_of_eq hg.symm)) hb); have n2_ := Aside0.mk (Kd.R_below (by (with_reducible repeat (first | apply Kd.R_alloc | apply Kd.R_drewN | apply Kd.R_drew)); exact HL260_3.out) hb); have n3_ := Aside0.mk (Kd.R_below (by (with_reducible repeat (first | apply Kd.R_alloc | apply Kd.R_drewN | apply Kd.R_drew)); exact HL260_4.out) hb); have n4_ := Aside0.mk (bB (g := gb247) (o := .cells #[.slice A0_0 l0_0.length c0_0] 24 (0, 0)) (by (with_reducible repeat (first | refine bN ?_ _ | refine bD ?_ | refine bA ?_ _)); exact BK247.out) hb); have n5_ := Aside0.mk (bB (g := gb259) (o := .cells #[.slice (some ad260) t256.length co36] 24 (0, 0)) (by (with_reducible repeat (first | refine bN ?_ _ | refine bD ?_ | refine bA ?_ _)); exact BK259.out) hb); have n6_ := Aside0.mk (Kd.C_below (by repeat (first | (with_reducible exact HR260_3.out) | (with_reducible refine Kd.C_alloc ?_ _) | (with_reducible refine Kd.C_drewN ?_ _) | (with_reducible refine Kd.C_drew ?_) | exact HR260_3.out)) hb); have n7_ := Aside0.mk (Kd.C_below (by repeat (first | (with_reducible exact HR260_4.out) | (with_reducible refine Kd.C_alloc ?_ _) | (with_reducible refine Kd.C_drewN ?_ _) | (with_reducible refine Kd.C_drew ?_) | exact HR260_4.out)) hb); have n8_ := Aside0.mk (below_step (by repeat (first | (with_reducible first | exact HB.out | apply wA | apply wN | apply wD | refine wS ?_ GE247.out | refine wS ?_ GE259.out) | exact HB.out)) hb); have n9_ := Aside0.mk (hbox); have n10_ := Aside0.mk ((by rw [hg]; exact (below_size (by repeat (first | (with_reducible first | exact HB.out | apply wA | apply wN | apply wD | refine wS ?_ GE247.out | refine wS ?_ GE259.out) | exact HB.out))) : w.heap.size ≤ gb261)); have n11_ := Aside0.mk ((by rw [hg]; exact (below_size (by repeat (first | (with_reducible first | exact HB.out | apply wA | apply wN | apply wD | refine wS ?_ GE247.out | refine wS ?_ GE259.out) | exact HB.out))) : w.heap.size ≤ gb261)); have n12_ := Aside0.mk ((by rw [hg]; exact Nat.ne_of_lt (blk_lt (g := gb247) (o := .cells #[.slice A0_0 l0_0.length c0_0] 24 (0, 0)) (by (with_reducible repeat (first | refine bN ?_ _ | refine bD ?_ | refine bA ?_ _)); exact BK247.out)) : gb247 ≠ gb261)); have n13_ := Aside0.mk ((by rw [hg]; exact Nat.ne_of_gt (blk_lt (g := gb247) (o := .cells #[.slice A0_0 l0_0.length c0_0] 24 (0, 0)) (by (with_reducible repeat (first | refine bN ?_ _ | refine bD ?_ | refine bA ?_ _)); exact BK247.out)) : gb261 ≠ gb247)); have n14_ := Aside0.mk ((by rw [hg]; exact Nat.ne_of_lt (blk_lt (g := gb259) (o := .cells #[.slice (some ad260) t256.length co36] 24 (0, 0)) (by (with_reducible repeat (first | refine bN ?_ _ | refine bD ?_ | refine bA ?_ _)); exact BK259.out)) : gb259 ≠ gb261)); have n15_ := Aside0.mk ((by rw [hg]; exact Nat.ne_of_gt (blk_lt (g := gb259) (o := .cells #[.slice (some ad260) t256.length co36] 24 (0, 0)) (by (with_reducible repeat (first | refine bN ?_ _ | refine bD ?_ | refine bA ?_ _)); exact BK259.out)) : gb261 ≠ gb259)); clear HO_49; clear HO_260000; clear HL260_3; clear HL260_4; clear BK247; clear BK259; clear HR260_3; clear HR260_4; clear HB; have HO_49 := n0_; have HO_260000 := n1_; have HL260_3 := n2_; have HL260_4 := n3_; have BK247 := n4_; have BK259 := n5_; have HR260_3 := n6_; have HR260_4 := n7_; have HB := n8_; have BK261 := n9_; have GW261 := n10_; have GE261 := n11_; have NB247_261 := n12_; have NB261_247 := n13_; have NB259_261 := n14_; have NB261_259 := n15_; clear n0_ n1_ n2_ n3_ n4_ n5_ n6_ n7_ n8_ n9_ n10_ n11_ n12_ n13_ n14_ n15_; clear hb hbox hg; have hnb46 := NB261_247.out; have hnc46 := NB247_261.out; have hnb47 := NB261_259.out; have hnc47 := NB259_261.out; have hcz48_0 : w45.cell? ⟨gb261, 0, none⟩ = some (.int .i64 0) := (bC BK261.out 0).trans rfl; have hcz48_1 : w45.cell? ⟨gb261, 1, none⟩ = some (.int .i64 0) := (bC BK261.out 1).trans rfl; have hcz48_2 : w45.cell? ⟨gb261, 2, none⟩ = some (.int .i64 0) := (bC BK261.out 2).trans rfl; have hcz48_3 : w45.cell? ⟨gb261, 3, none⟩ = some (.slice none 0 0) := (bC BK261.out 3).trans rfl; have hcz48_4 : w45.cell? ⟨gb261, 4, none⟩ = some (.slice none 0 0) := (bC BK261.out 4).trans rfl; have hfz48_0 := bZ BK261.out 0; have hfz48_1 := bZ BK261.out 1; have hfz48_2 := bZ BK261.out 2; have hfz48_3 := bZ BK261.out 3; have hfz48_4 := bZ BK261.out 4; have hnb49 := NB247_259.out; have hnc49 := NB259_247.out; have hcz50_0 : w45.cell? ⟨gb247, 0, none⟩ = some (.slice A0_0 l0_0.length c0_0) := (bC BK247.out 0).trans rfl; have hfz50_0 := bZ BK247.out 0; have p262 : 0 ≤ (x51_3 : Int) := of_decide_eq_true (by first | (with_reducible assumption) | assumption); have q262 : x51_3 < (l0_0.length : Int) := of_decide_eq_true (by first | (with_reducible assumption) | assumption); obtain ⟨ad262, A262_3, c262_3, A262_4, c262_4, e262, hx262_0, hx262_1, hx262_2, hx262_3, hx262_4, hl262_3, hi262_3, hl262_4, hi262_4⟩ := at_T28 HR0_0.out x51_3 p262 q262; cases e262; have hn262_0 : ad262.block ≠ gb261 := Nat.ne_of_lt (Nat.lt_of_lt_of_le (by have := World.block_lt_of_cell? _ _ hx262_0; first | rwa [add_block] at this | exact this) GW261.out); have hn262_1 : ad262.block ≠ gb261 := Nat.ne_of_lt (Nat.lt_of_lt_of_le (by have := World.block_lt_of_cell? _ _ hx262_0; first | rwa [add_block] at this | exact this) GW261.out); have hn262_2 : ad262.block ≠ gb261 := Nat.ne_of_lt (Nat.lt_of_lt_of_le (by have := World.block_lt_of_cell? _ _ hx262_0; first | rwa [add_block] at this | exact this) GW261.out); have hn262_3 : ad262.block ≠ gb261 := Nat.ne_of_lt (Nat.lt_of_lt_of_le (by have := World.block_lt_of_cell? _ _ hx262_0; first | rwa [add_block] at this | exact this) GW261.out); have hn262_4 : ad262.block ≠ gb261 := Nat.ne_of_lt (Nat.lt_of_lt_of_le (by have := World.block_lt_of_cell? _ _ hx262_0; first | rwa [add_block] at this | exact this) GW261.out); replace hx262_0 := (HB.out.cell (World.block_lt_of_cell? w _ hx262_0)).trans hx262_0; replace hx262_1 := (HB.out.cell (World.block_lt_of_cell? w _ hx262_1)).trans hx262_1; replace hx262_2 := (HB.out.cell (World.block_lt_of_cell? w _ hx262_2)).trans hx262_2; replace hx262_3 := (HB.out.cell (World.block_lt_of_cell? w _ hx262_3)).trans hx262_3; replace hx262_4 := (HB.out.cell (World.block_lt_of_cell? w _ hx262_4)).trans hx262_4; have HR262_3 := Aside0.mk hi262_3; have HC262_3 := Aside0.mk hl262_3; clear hi262_3 hl262_3; have HR262_4 := Aside0.mk hi262_4; have HC262_4 := Aside0.mk hl262_4; clear hi262_4 hl262_4; replace hx262_0 := (cell_far (p := ⟨gb261, 0, none⟩) (by first | (rw [add_block]; exact hn262_0) | (show (Addr.add _ _).block ≠ _; rw [add_block]; exact hn262_0) | exact hn262_0) (.int .i64 ((rd_T28 t256 x51_3).f0))).trans hx262_0; replace hx262_1 := (cell_far (p := ⟨gb261, 0, none⟩) (by first | (rw [add_block]; exact hn262_0) | (show (Addr.add _ _).block ≠ _; rw [add_block]; exact hn262_0) | exact hn262_0) (.int .i64 ((rd_T28 t256 x51_3).f0))).trans hx262_1; replace hx262_2 := (cell_far (p := ⟨gb261, 0, none⟩) (by first | (rw [add_block]; exact hn262_0) | (show (Addr.add _ _).block ≠ _; rw [add_block]; exact hn262_0) | exact hn262_0) (.int .i64 ((rd_T28 t256 x51_3).f0))).trans hx262_2; replace hx262_3 := (cell_far (p := ⟨gb261, 0, none⟩) (by first | (rw [add_block]; exact hn262_0) | (show (Addr.add _ _).block ≠ _; rw [add_block]; exact hn262_0) | exact hn262_0) (.int .i64 ((rd_T28 t256 x51_3).f0))).trans hx262_3; replace hx262_4 := (cell_far (p := ⟨gb261, 0, none⟩) (by first | (rw [add_block]; exact hn262_0) | (show (Addr.add _ _).block ≠ _; rw [add_block]; exact hn262_0) | exact hn262_0) (.int .i64 ((rd_T28 t256 x51_3).f0))).trans hx262_4; replace hx262_0 := (cell_far (p := ⟨gb261, 1, none⟩) (by first | (rw [add_block]; exact hn262_1) | (show (Addr.add _ _).block ≠ _; rw [add_block]; exact hn262_1) | exact hn262_1) (.int .i64 ((rd_T28 t256 x51_3).f1))).trans hx262_0; replace hx262_1 := (cell_far (p := ⟨gb261, 1, none⟩) (by first | (rw [add_block]; exact hn262_1) | (show (Addr.add _ _).block ≠ _; rw [add_block]; exact hn262_1) | exact hn262_1) (.int .i64 ((rd_T28 t256 x51_3).f1))).trans hx262_1; replace hx262_2 := (cell_far (p := ⟨gb261, 1, none⟩) (by first | (rw [add_block]; exact hn262_1) | (show (Addr.add _ _).block ≠ _; rw [add_block]; exact hn262_1) | exact hn262_1) (.int .i64 ((rd_T28 t256 x51_3).f1))).trans hx262_2; replace hx262_3 := (cell_far (p := ⟨gb261, 1, none⟩) (by first | (rw [add_block]; exact hn262_1) | (show (Addr.add _ _).block ≠ _; rw [add_block]; exact hn262_1) | exact hn262_1) (.int .i64 ((rd_T28 t256 x51_3).f1))).trans hx262_3; replace hx262_4 := (cell_far (p := ⟨gb261, 1, none⟩) (by first | (rw [add_block]; exact hn262_1) | (show (Addr.add _ _).block ≠ _; rw [add_block]; exact hn262_1) | exact hn262_1) (.int .i64 ((rd_T28 t256 x51_3).f1))).trans hx262_4; replace hx262_0 := (cell_far (p := ⟨gb261, 2, none⟩) (by first | (rw [add_block]; exact hn262_2) | (show (Addr.add _ _).block ≠ _; rw [add_block]; exact hn262_2) | exact hn262_2) (.int .i64 ((rd_T28 t256 x51_3).f2))).trans hx262_0; replace hx262_1 := (cell_far (p := ⟨gb261, 2, none⟩) (by first | (rw [add_block]; exact hn262_2) | (show (Addr.add _ _).block ≠ _; rw [add_block]; exact hn262_2) | exact hn262_2) (.int .i64 ((rd_T28 t256 x51_3).f2))).trans hx262_1; replace hx262_2 := (cell_far (p := ⟨gb261, 2, none⟩) (by first | (rw [add_block]; exact hn262_2) | (show (Addr.add _ _).block ≠ _; rw [add_block]; exact hn262_2) | exact hn262_2) (.int .i64 ((rd_T28 t256 x51_3).f2))).trans hx262_2; replace hx262_3 := (cell_far (p := ⟨gb261, 2, none⟩) (by first | (rw [add_block]; exact hn262_2) | (show (Addr.add _ _).block ≠ _; rw [add_block]; exact hn262_2) | exact hn262_2) (.int .i64 ((rd_T28 t256 x51_3).f2))).trans hx262_3; replace hx262_4 := (cell_far (p := ⟨gb261, 2, none⟩) (by first | (rw [add_block]; exact hn262_2) | (show (Addr.add _ _).block ≠ _; rw [add_block]; exact hn262_2) | exact hn262_2) (.int .i64 ((rd_T28 t256 x51_3).f2))).trans hx262_4; replace hx262_0 := (cell_far (p := ⟨gb261, 3, none⟩) (by first | (rw [add_block]; exact hn262_3) | (show (Addr.add _ _).block ≠ _; rw [add_block]; exact hn262_3) | exact hn262_3) (.slice A260_3 ((rd_T28 t256 x51_3).f3).length c260_3)).trans hx262_0; replace hx262_1 := (cell_far (p := ⟨gb261, 3, none⟩) (by first | (rw [add_block]; exact hn262_3) | (show (Addr.add _ _).block ≠ _; rw [add_block]; exact hn262_3) | exact hn262_3) (.slice A260_3 ((rd_T28 t256 x51_3).f3).length c260_3)).trans hx262_1; replace hx262_2 := (cell_far (p := ⟨gb261, 3, none⟩) (by first | (rw [add_block]; exact hn262_3) | (show (Addr.add _ _).block ≠ _; rw [add_block]; exact hn262_3) | exact hn262_3) (.slice A260_3 ((rd_T28 t256 x51_3).f3).length c260_3)).trans hx262_2; replace hx262_3 := (cell_far (p := ⟨gb261, 3, none⟩) (by first | (rw [add_block]; exact hn262_3) | (show (Addr.add _ _).block ≠ _; rw [add_block]; exact hn262_3) | exact hn262_3) (.slice A260_3 ((rd_T28 t256 x51_3).f3).length c260_3)).trans hx262_3; replace hx262_4 := (cell_far (p := ⟨gb261, 3, none⟩) (by first | (rw [add_block]; exact hn262_3) | (show (Addr.add _ _).block ≠ _; rw [add_block]; exact hn262_3) | exact hn262_3) (.slice A260_3 ((rd_T28 t256 x51_3).f3).length c260_3)).trans hx262_4; replace hx262_0 := (cell_far (p := ⟨gb261, 4, none⟩) (by first | (rw [add_block]; exact hn262_4) | (show (Addr.add _ _).block ≠ _; rw [add_block]; exact hn262_4) | exact hn262_4) (.slice A260_4 ((rd_T28 t256 x51_3).f4).length c260_4)).trans hx262_0; replace hx262_1 := (cell_far (p := ⟨gb261, 4, none⟩) (by first | (rw [add_block]; exact hn262_4) | (show (Addr.add _ _).block ≠ _; rw [add_block]; exact hn262_4) | exact hn262_4) (.slice A260_4 ((rd_T28 t256 x51_3).f4).length c260_4)).trans hx262_1; replace hx262_2 := (cell_far (p := ⟨gb261, 4, none⟩) (by first | (rw [add_block]; exact hn262_4) | (show (Addr.add _ _).block ≠ _; rw [add_block]; exact hn262_4) | exact hn262_4) (.slice A260_4 ((rd_T28 t256 x51_3).f4).length c260_4)).trans hx262_2; replace hx262_3 := (cell_far (p := ⟨gb261, 4, none⟩) (by first | (rw [add_block]; exact hn262_4) | (show (Addr.add _ _).block ≠ _; rw [add_block]; exact hn262_4) | exact hn262_4) (.slice A260_4 ((rd_T28 t256 x51_3).f4).length c260_4)).trans hx262_3; replace hx262_4 := (cell_far (p := ⟨gb261, 4, none⟩) (by first | (rw [add_block]; exact hn262_4) | (show (Addr.add _ _).block ≠ _; rw [add_block]; exact hn262_4) | exact hn262_4) (.slice A260_4 ((rd_T28 t256 x51_3).f4).length c260_4)).trans hx262_4; clear hn262_0; clear hn262_1; clear hn262_2; clear hn262_3; clear hn262_4; replace p262 := eq_true p262; replace q262 := eq_true q262))
               go_roundg k3
               case measure => have := HJ3.out; have := HK2.out; have := HK3.out; omega
               case rel => exact ⟨(x13_3), (wrap64 (x51_3 + 1)), (by first | rfl | (simp; done) | (simp [*]; done)), (by first | rfl | (simp; done) | (simp [*]; done)), H', ⟨by have := HJ3.out; have := HK2.out; have := HK3.out; omega⟩, ⟨by (with_reducible repeat (first | apply Kd.S_alloc | apply Kd.S_drewN | apply Kd.S_drew)); exact Kd.S_mono (Kd.S_far (p := ⟨gb261, 4, none⟩) (Kd.S_far (p := ⟨gb261, 3, none⟩) (Kd.S_far (p := ⟨gb261, 2, none⟩) (Kd.S_far (p := ⟨gb261, 1, none⟩) (Kd.S_far (p := ⟨gb261, 0, none⟩) (Kd.S_mono HO_49.out (fun k_ hk => (⟨hk, hk.2⟩ : _ ∧ k_ ≠ gb261))) (fun _ hk => hk.2) (.int .i64 ((rd_T28 t256 x51_3).f0))) (fun _ hk => hk.2) (.int .i64 ((rd_T28 t256 x51_3).f1))) (fun _ hk => hk.2) (.int .i64 ((rd_T28 t256 x51_3).f2))) (fun _ hk => hk.2) (.slice A260_3 ((rd_T28 t256 x51_3).f3).length c260_3)) (fun _ hk => hk.2) (.slice A260_4 ((rd_T28 t256 x51_3).f4).length c260_4)) (fun _ hk => trivial)⟩, ⟨by (with_reducible repeat (first | apply Kd.S_alloc | apply Kd.S_drewN | apply Kd.S_drew)); exact Kd.S_mono (Kd.S_far (p := ⟨gb261, 4, none⟩) (Kd.S_far (p := ⟨gb261, 3, none⟩) (Kd.S_far (p := ⟨gb261, 2, none⟩) (Kd.S_far (p := ⟨gb261, 1, none⟩) (Kd.S_far (p := ⟨gb261, 0, none⟩) (Kd.S_mono HO_260000.out (fun k_ hk => (⟨hk, hk.2⟩ : _ ∧ k_ ≠ gb261))) (fun _ hk => hk.2) (.int .i64 ((rd_T28 t256 x51_3).f0))) (fun _ hk => hk.2) (.int .i64 ((rd_T28 t256 x51_3).f1))) (fun _ hk => hk.2) (.int .i64 ((rd_T28 t256 x51_3).f2))) (fun _ hk => hk.2) (.slice A260_3 ((rd_T28 t256 x51_3).f3).length c260_3)) (fun _ hk => hk.2) (.slice A260_4 ((rd_T28 t256 x51_3).f4).length c260_4)) (fun _ hk => trivial)⟩, ⟨by (with_reducible repeat (first | refine bN ?_ _ | refine bD ?_ | refine bA ?_ _)); refine bF ?_ NB247_261.out _; (with_reducible repeat (first | refine bN ?_ _ | refine bD ?_ | refine bA ?_ _)); refine bF ?_ NB247_261.out _; (with_reducible repeat (first | refine bN ?_ _ | refine bD ?_ | refine bA ?_ _)); refine bF ?_ NB247_261.out _; (with_reducible repeat (first | refine bN ?_ _ | refine bD ?_ | refine bA ?_ _)); refine bF ?_ NB247_261.out _; (with_reducible repeat (first | refine bN ?_ _ | refine bD ?_ | refine bA ?_ _)); refine bF ?_ NB247_261.out _; (with_reducible repeat (first | refine bN ?_ _ | refine bD ?_ | refine bA ?_ _)); exact BK247.out⟩, ⟨by (with_reducible repeat (first | refine bN ?_ _ | refine bD ?_ | refine bA ?_ _)); refine bF ?_ NB259_261.out _; (with_reducible repeat (first | refine bN ?_ _ | refine bD ?_ | refine bA ?_ _)); refine bF ?_ NB259_261.out _; (with_reducible repeat (first | refine bN ?_ _ | refine bD ?_ | refine bA ?_ _)); refine bF ?_ NB259_261.out _; (with_reducible repeat (first | refine bN ?_ _ | refine bD ?_ | refine bA ?_ _)); refine bF ?_ NB259_261.out _; (with_reducible repeat (first | refine bN ?_ _ | refine bD ?_ | refine bA ?_ _)); refine bF ?_ NB259_261.out _; (with_reducible repeat (first | refine bN ?_ _ | refine bD ?_ | refine bA ?_ _)); exact BK259.out⟩, ⟨by repeat (first | (with_reducible first | exact HB.out | apply wA | apply wN | apply wD | refine wS ?_ GE247.out | refine wS ?_ GE259.out | refine wS ?_ GE261.out) | exact HB.out)⟩⟩
              ·
               rw [if_neg c44] at H; have c44b0 : (((rd_T28 l0_0 x51_3).f0) == 0) = false := beq_eq_false_iff_ne.mpr c44; have c44b1 : (((rd_T28 l0_0 x51_3).f0) != 0) = true := bne_iff_ne.mpr c44; have H' := Aside0.mk H; clear H; have p260 : 0 ≤ (x51_3 : Int) := of_decide_eq_true (by first | (with_reducible assumption) | assumption); have q260 : x51_3 < (t256.length : Int) := of_decide_eq_true (by first | (with_reducible assumption) | assumption); obtain ⟨ad260, A260_3, c260_3, A260_4, c260_4, e260, hx260_0, hx260_1, hx260_2, hx260_3, hx260_4, hl260_3, hi260_3, hl260_4, hi260_4⟩ := at_T28 (Kd.S_reads' HO_49.out).2.2 x51_3 p260 q260
               cases e260
               obtain ⟨ce260, hce260, hMe260, hcc260⟩ := Kd.S_get HO_49.out z28 x51_3 p260 (by first | exact q260 | exact of_decide_eq_true (by first | (with_reducible assumption) | assumption) | (have e_ := (Kd.S_reads' HO_49.out).1; omega))
               obtain ⟨ve260_3, ve260_4, rfl, ge260_3, ge260_4⟩ := k28_openM hMe260; have hv260_3 := hcc260 3 _ rfl; rw [add_field _ _ 3 (by omega)] at hv260_3; replace hv260_3 := Option.some.inj (hv260_3.symm.trans hx260_3); rw [hv260_3] at ge260_3; have HL260_3 := Aside0.mk (show Kd.R (Kd.int .i64) 3 _ _ _ _ ((rd_T28 t256 x51_3).f3) from ge260_3); clear hv260_3 ge260_3; have hv260_4 := hcc260 4 _ rfl; rw [add_field _ _ 4 (by omega)] at hv260_4; replace hv260_4 := Option.some.inj (hv260_4.symm.trans hx260_4); rw [hv260_4] at ge260_4; have HL260_4 := Aside0.mk (show Kd.R k78 78 _ _ _ _ ((rd_T28 t256 x51_3).f4) from ge260_4); clear hv260_4 ge260_4; clear hcc260 hce260; have HR260_3 := Aside0.mk hi260_3; have HC260_3 := Aside0.mk hl260_3; clear hi260_3 hl260_3; have HR260_4 := Aside0.mk hi260_4; have HC260_4 := Aside0.mk hl260_4; clear hi260_4 hl260_4; replace p260 := eq_true p260; replace q260 := eq_true q260
               go_wp2_with (first | ((with_reducible refine gate_dst (N := 15) rfl ?_); (try (refine gate_guard (by rfl) ?_; dsimp only)); refine box_event ?hg (N := 15) ?hd (cs := #[.int .i64 0, .int .i64 0, .int .i64 0, .slice none 0 0, .slice none 0 0]) (t := 28) ?hr ?_; (case hd => rfl); (case hg => rfl); (case hr => first | (go_simp; done) | (go_simp; rfl)); intro gb261 hg w51 hbox hb; have n0_ := Aside0.mk (Kd.S_below (Kd.S_elderB (by (with_reducible repeat (first | apply Kd.S_alloc | apply Kd.S_drewN | apply Kd.S_drew)); exact HO_49.out) gb261 (Nat.le_of_eq hg.symm)) hb); have n1_ := Aside0.mk (Kd.S_below (Kd.S_elderB (by (with_reducible repeat (first | apply Kd.S_alloc | apply Kd.S_drewN | apply Kd.S_drew)); exact HO_260000.out) gb261 (Nat.le_of_eq hg.symm)) hb); have n2_ := Aside0.mk (Kd.R_below (by (with_reducible repeat (first | apply Kd.R_alloc | apply Kd.R_drewN | apply Kd.R_drew)); exact HL260_3.out) hb); have n3_ := Aside0.mk (Kd.R_below (by (with_reducible repeat (first | apply Kd.R_alloc | apply Kd.R_drewN | apply Kd.R_drew)); exact HL260_4.out) hb); have n4_ := Aside0.mk (bB (g := gb247) (o := .cells #[.slice A0_0 l0_0.length c0_0] 24 (0, 0)) (by (with_reducible repeat (first | refine bN ?_ _ | refine bD ?_ | refine bA ?_ _)); exact BK247.out) hb); have n5_ := Aside0.mk (bB (g := gb259) (o := .cells #[.slice (some ad260) t256.length co36] 24 (0, 0)) (by (with_reducible repeat (first | refine bN ?_ _ | refine bD ?_ | refine bA ?_ _)); exact BK259.out) hb); have n6_ := Aside0.mk (Kd.C_below (by repeat (first | (with_reducible exact HR260_3.out) | (with_reducible refine Kd.C_alloc ?_ _) | (with_reducible refine Kd.C_drewN ?_ _) | (with_reducible refine Kd.C_drew ?_) | exact HR260_3.out)) hb); have n7_ := Aside0.mk (Kd.C_below (by repeat (first | (with_reducible exact HR260_4.out) | (with_reducible refine Kd.C_alloc ?_ _) | (with_reducible refine Kd.C_drewN ?_ _) | (with_reducible refine Kd.C_drew ?_) | exact HR260_4.out)) hb); have n8_ := Aside0.mk (below_step (by repeat (first | (with_reducible first | exact HB.out | apply wA | apply wN | apply wD | refine wS ?_ GE247.out | refine wS ?_ GE259.out) | exact HB.out)) hb); have n9_ := Aside0.mk (hbox); have n10_ := Aside0.mk ((by rw [hg]; exact (below_size (by repeat (first | (with_reducible first | exact HB.out | apply wA | apply wN | apply wD | refine wS ?_ GE247.out | refine wS ?_ GE259.out) | exact HB.out))) : w.heap.size ≤ gb261)); have n11_ := Aside0.mk ((by rw [hg]; exact (below_size (by repeat (first | (with_reducible first | exact HB.out | apply wA | apply wN | apply wD | refine wS ?_ GE247.out | refine wS ?_ GE259.out) | exact HB.out))) : w.heap.size ≤ gb261)); have n12_ := Aside0.mk ((by rw [hg]; exact Nat.ne_of_lt (blk_lt (g := gb247) (o := .cells #[.slice A0_0 l0_0.length c0_0] 24 (0, 0)) (by (with_reducible repeat (first | refine bN ?_ _ | refine bD ?_ | refine bA ?_ _)); exact BK247.out)) : gb247 ≠ gb261)); have n13_ := Aside0.mk ((by rw [hg]; exact Nat.ne_of_gt (blk_lt (g := gb247) (o := .cells #[.slice A0_0 l0_0.length c0_0] 24 (0, 0)) (by (with_reducible repeat (first | refine bN ?_ _ | refine bD ?_ | refine bA ?_ _)); exact BK247.out)) : gb261 ≠ gb247)); have n14_ := Aside0.mk ((by rw [hg]; exact Nat.ne_of_lt (blk_lt (g := gb259) (o := .cells #[.slice (some ad260) t256.length co36] 24 (0, 0)) (by (with_reducible repeat (first | refine bN ?_ _ | refine bD ?_ | refine bA ?_ _)); exact BK259.out)) : gb259 ≠ gb261)); have n15_ := Aside0.mk ((by rw [hg]; exact Nat.ne_of_gt (blk_lt (g := gb259) (o := .cells #[.slice (some ad260) t256.length co36] 24 (0, 0)) (by (with_reducible repeat (first | refine bN ?_ _ | refine bD ?_ | refine bA ?_ _)); exact BK259.out)) : gb261 ≠ gb259)); clear HO_49; clear HO_260000; clear HL260_3; clear HL260_4; clear BK247; clear BK259; clear HR260_3; clear HR260_4; clear HB; have HO_49 := n0_; have HO_260000 := n1_; have HL260_3 := n2_; have HL260_4 := n3_; have BK247 := n4_; have BK259 := n5_; have HR260_3 := n6_; have HR260_4 := n7_; have HB := n8_; have BK261 := n9_; have GW261 := n10_; have GE261 := n11_; have NB247_261 := n12_; have NB261_247 := n13_; have NB259_261 := n14_; have NB261_259 := n15_; clear n0_ n1_ n2_ n3_ n4_ n5_ n6_ n7_ n8_ n9_ n10_ n11_ n12_ n13_ n14_ n15_; clear hb hbox hg; have hnb52 := NB261_247.out; have hnc52 := NB247_261.out; have hnb53 := NB261_259.out; have hnc53 := NB259_261.out; have hcz54_0 : w51.cell? ⟨gb261, 0, none⟩ = some (.int .i64 0) := (bC BK261.out 0).trans rfl; have hcz54_1 : w51.cell? ⟨gb261, 1, none⟩ = some (.int .i64 0) := (bC BK261.out 1).trans rfl; have hcz54_2 : w51.cell? ⟨gb261, 2, none⟩ = some (.int .i64 0) := (bC BK261.out 2).trans rfl; have hcz54_3 : w51.cell? ⟨gb261, 3, none⟩ = some (.slice none 0 0) := (bC BK261.out 3).trans rfl; have hcz54_4 : w51.cell? ⟨gb261, 4, none⟩ = some (.slice none 0 0) := (bC BK261.out 4).trans rfl; have hfz54_0 := bZ BK261.out 0; have hfz54_1 := bZ BK261.out 1; have hfz54_2 := bZ BK261.out 2; have hfz54_3 := bZ BK261.out 3; have hfz54_4 := bZ BK261.out 4; have hnb55 := NB247_259.out; have hnc55 := NB259_247.out; have hcz56_0 : w51.cell? ⟨gb247, 0, none⟩ = some (.slice A0_0 l0_0.length c0_0) := (bC BK247.out 0).trans rfl; have hfz56_0 := bZ BK247.out 0; have p262 : 0 ≤ (x51_3 : Int) := of_decide_eq_true (by first | (with_reducible assumption) | assumption); have q262 : x51_3 < (l0_0.length : Int) := of_decide_eq_true (by first | (with_reducible assumption) | assumption); obtain ⟨ad262, A262_3, c262_3, A262_4, c262_4, e262, hx262_0, hx262_1, hx262_2, hx262_3, hx262_4, hl262_3, hi262_3, hl262_4, hi262_4⟩ := at_T28 HR0_0.out x51_3 p262 q262; cases e262; have hn262_0 : ad262.block ≠ gb261 := Nat.ne_of_lt (Nat.lt_of_lt_of_le (by have := World.block_lt_of_cell? _ _ hx262_0; first | rwa [add_block] at this | exact this) GW261.out); have hn262_1 : ad262.block ≠ gb261 := Nat.ne_of_lt (Nat.lt_of_lt_of_le (by have := World.block_lt_of_cell? _ _ hx262_0; first | rwa [add_block] at this | exact this) GW261.out); have hn262_2 : ad262.block ≠ gb261 := Nat.ne_of_lt (Nat.lt_of_lt_of_le (by have := World.block_lt_of_cell? _ _ hx262_0; first | rwa [add_block] at this | exact this) GW261.out); have hn262_3 : ad262.block ≠ gb261 := Nat.ne_of_lt (Nat.lt_of_lt_of_le (by have := World.block_lt_of_cell? _ _ hx262_0; first | rwa [add_block] at this | exact this) GW261.out); have hn262_4 : ad262.block ≠ gb261 := Nat.ne_of_lt (Nat.lt_of_lt_of_le (by have := World.block_lt_of_cell? _ _ hx262_0; first | rwa [add_block] at this | exact this) GW261.out); replace hx262_0 := (HB.out.cell (World.block_lt_of_cell? w _ hx262_0)).trans hx262_0; replace hx262_1 := (HB.out.cell (World.block_lt_of_cell? w _ hx262_1)).trans hx262_1; replace hx262_2 := (HB.out.cell (World.block_lt_of_cell? w _ hx262_2)).trans hx262_2; replace hx262_3 := (HB.out.cell (World.block_lt_of_cell? w _ hx262_3)).trans hx262_3; replace hx262_4 := (HB.out.cell (World.block_lt_of_cell? w _ hx262_4)).trans hx262_4; have HR262_3 := Aside0.mk hi262_3; have HC262_3 := Aside0.mk hl262_3; clear hi262_3 hl262_3; have HR262_4 := Aside0.mk hi262_4; have HC262_4 := Aside0.mk hl262_4; clear hi262_4 hl262_4; replace hx262_0 := (cell_far (p := ⟨gb261, 0, none⟩) (by first | (rw [add_block]; exact hn262_0) | (show (Addr.add _ _).block ≠ _; rw [add_block]; exact hn262_0) | exact hn262_0) (.int .i64 ((rd_T28 t256 x51_3).f0))).trans hx262_0; replace hx262_1 := (cell_far (p := ⟨gb261, 0, none⟩) (by first | (rw [add_block]; exact hn262_0) | (show (Addr.add _ _).block ≠ _; rw [add_block]; exact hn262_0) | exact hn262_0) (.int .i64 ((rd_T28 t256 x51_3).f0))).trans hx262_1; replace hx262_2 := (cell_far (p := ⟨gb261, 0, none⟩) (by first | (rw [add_block]; exact hn262_0) | (show (Addr.add _ _).block ≠ _; rw [add_block]; exact hn262_0) | exact hn262_0) (.int .i64 ((rd_T28 t256 x51_3).f0))).trans hx262_2; replace hx262_3 := (cell_far (p := ⟨gb261, 0, none⟩) (by first | (rw [add_block]; exact hn262_0) | (show (Addr.add _ _).block ≠ _; rw [add_block]; exact hn262_0) | exact hn262_0) (.int .i64 ((rd_T28 t256 x51_3).f0))).trans hx262_3; replace hx262_4 := (cell_far (p := ⟨gb261, 0, none⟩) (by first | (rw [add_block]; exact hn262_0) | (show (Addr.add _ _).block ≠ _; rw [add_block]; exact hn262_0) | exact hn262_0) (.int .i64 ((rd_T28 t256 x51_3).f0))).trans hx262_4; replace hx262_0 := (cell_far (p := ⟨gb261, 1, none⟩) (by first | (rw [add_block]; exact hn262_1) | (show (Addr.add _ _).block ≠ _; rw [add_block]; exact hn262_1) | exact hn262_1) (.int .i64 ((rd_T28 t256 x51_3).f1))).trans hx262_0; replace hx262_1 := (cell_far (p := ⟨gb261, 1, none⟩) (by first | (rw [add_block]; exact hn262_1) | (show (Addr.add _ _).block ≠ _; rw [add_block]; exact hn262_1) | exact hn262_1) (.int .i64 ((rd_T28 t256 x51_3).f1))).trans hx262_1; replace hx262_2 := (cell_far (p := ⟨gb261, 1, none⟩) (by first | (rw [add_block]; exact hn262_1) | (show (Addr.add _ _).block ≠ _; rw [add_block]; exact hn262_1) | exact hn262_1) (.int .i64 ((rd_T28 t256 x51_3).f1))).trans hx262_2; replace hx262_3 := (cell_far (p := ⟨gb261, 1, none⟩) (by first | (rw [add_block]; exact hn262_1) | (show (Addr.add _ _).block ≠ _; rw [add_block]; exact hn262_1) | exact hn262_1) (.int .i64 ((rd_T28 t256 x51_3).f1))).trans hx262_3; replace hx262_4 := (cell_far (p := ⟨gb261, 1, none⟩) (by first | (rw [add_block]; exact hn262_1) | (show (Addr.add _ _).block ≠ _; rw [add_block]; exact hn262_1) | exact hn262_1) (.int .i64 ((rd_T28 t256 x51_3).f1))).trans hx262_4; replace hx262_0 := (cell_far (p := ⟨gb261, 2, none⟩) (by first | (rw [add_block]; exact hn262_2) | (show (Addr.add _ _).block ≠ _; rw [add_block]; exact hn262_2) | exact hn262_2) (.int .i64 ((rd_T28 t256 x51_3).f2))).trans hx262_0; replace hx262_1 := (cell_far (p := ⟨gb261, 2, none⟩) (by first | (rw [add_block]; exact hn262_2) | (show (Addr.add _ _).block ≠ _; rw [add_block]; exact hn262_2) | exact hn262_2) (.int .i64 ((rd_T28 t256 x51_3).f2))).trans hx262_1; replace hx262_2 := (cell_far (p := ⟨gb261, 2, none⟩) (by first | (rw [add_block]; exact hn262_2) | (show (Addr.add _ _).block ≠ _; rw [add_block]; exact hn262_2) | exact hn262_2) (.int .i64 ((rd_T28 t256 x51_3).f2))).trans hx262_2; replace hx262_3 := (cell_far (p := ⟨gb261, 2, none⟩) (by first | (rw [add_block]; exact hn262_2) | (show (Addr.add _ _).block ≠ _; rw [add_block]; exact hn262_2) | exact hn262_2) (.int .i64 ((rd_T28 t256 x51_3).f2))).trans hx262_3; replace hx262_4 := (cell_far (p := ⟨gb261, 2, none⟩) (by first | (rw [add_block]; exact hn262_2) | (show (Addr.add _ _).block ≠ _; rw [add_block]; exact hn262_2) | exact hn262_2) (.int .i64 ((rd_T28 t256 x51_3).f2))).trans hx262_4; replace hx262_0 := (cell_far (p := ⟨gb261, 3, none⟩) (by first | (rw [add_block]; exact hn262_3) | (show (Addr.add _ _).block ≠ _; rw [add_block]; exact hn262_3) | exact hn262_3) (.slice A260_3 ((rd_T28 t256 x51_3).f3).length c260_3)).trans hx262_0; replace hx262_1 := (cell_far (p := ⟨gb261, 3, none⟩) (by first | (rw [add_block]; exact hn262_3) | (show (Addr.add _ _).block ≠ _; rw [add_block]; exact hn262_3) | exact hn262_3) (.slice A260_3 ((rd_T28 t256 x51_3).f3).length c260_3)).trans hx262_1; replace hx262_2 := (cell_far (p := ⟨gb261, 3, none⟩) (by first | (rw [add_block]; exact hn262_3) | (show (Addr.add _ _).block ≠ _; rw [add_block]; exact hn262_3) | exact hn262_3) (.slice A260_3 ((rd_T28 t256 x51_3).f3).length c260_3)).trans hx262_2; replace hx262_3 := (cell_far (p := ⟨gb261, 3, none⟩) (by first | (rw [add_block]; exact hn262_3) | (show (Addr.add _ _).block ≠ _; rw [add_block]; exact hn262_3) | exact hn262_3) (.slice A260_3 ((rd_T28 t256 x51_3).f3).length c260_3)).trans hx262_3; replace hx262_4 := (cell_far (p := ⟨gb261, 3, none⟩) (by first | (rw [add_block]; exact hn262_3) | (show (Addr.add _ _).block ≠ _; rw [add_block]; exact hn262_3) | exact hn262_3) (.slice A260_3 ((rd_T28 t256 x51_3).f3).length c260_3)).trans hx262_4; replace hx262_0 := (cell_far (p := ⟨gb261, 4, none⟩) (by first | (rw [add_block]; exact hn262_4) | (show (Addr.add _ _).block ≠ _; rw [add_block]; exact hn262_4) | exact hn262_4) (.slice A260_4 ((rd_T28 t256 x51_3).f4).length c260_4)).trans hx262_0; replace hx262_1 := (cell_far (p := ⟨gb261, 4, none⟩) (by first | (rw [add_block]; exact hn262_4) | (show (Addr.add _ _).block ≠ _; rw [add_block]; exact hn262_4) | exact hn262_4) (.slice A260_4 ((rd_T28 t256 x51_3).f4).length c260_4)).trans hx262_1; replace hx262_2 := (cell_far (p := ⟨gb261, 4, none⟩) (by first | (rw [add_block]; exact hn262_4) | (show (Addr.add _ _).block ≠ _; rw [add_block]; exact hn262_4) | exact hn262_4) (.slice A260_4 ((rd_T28 t256 x51_3).f4).length c260_4)).trans hx262_2; replace hx262_3 := (cell_far (p := ⟨gb261, 4, none⟩) (by first | (rw [add_block]; exact hn262_4) | (show (Addr.add _ _).block ≠ _; rw [add_block]; exact hn262_4) | exact hn262_4) (.slice A260_4 ((rd_T28 t256 x51_3).f4).length c260_4)).trans hx262_3; replace hx262_4 := (cell_far (p := ⟨gb261, 4, none⟩) (by first | (rw [add_block]; exact hn262_4) | (show (Addr.add _ _).block ≠ _; rw [add_block]; exact hn262_4) | exact hn262_4) (.slice A260_4 ((rd_T28 t256 x51_3).f4).length c260_4)).trans hx262_4; clear hn262_0; clear hn262_1; clear hn262_2; clear hn262_3; clear hn262_4; replace p262 := eq_true p262; replace q262 := eq_true q262))
               go_roundg k3
               case measure => have := HJ3.out; have := HK2.out; have := HK3.out; omega
               case rel => exact ⟨(wrap64 (x13_3 + 1)), (wrap64 (x51_3 + 1)), (by first | rfl | (simp; done) | (simp [*]; done)), (by first | rfl | (simp; done) | (simp [*]; done)), H', ⟨by have := HJ3.out; have := HK2.out; have := HK3.out; omega⟩, ⟨by (with_reducible repeat (first | apply Kd.S_alloc | apply Kd.S_drewN | apply Kd.S_drew)); exact Kd.S_mono (Kd.S_far (p := ⟨gb261, 4, none⟩) (Kd.S_far (p := ⟨gb261, 3, none⟩) (Kd.S_far (p := ⟨gb261, 2, none⟩) (Kd.S_far (p := ⟨gb261, 1, none⟩) (Kd.S_far (p := ⟨gb261, 0, none⟩) (Kd.S_mono HO_49.out (fun k_ hk => (⟨hk, hk.2⟩ : _ ∧ k_ ≠ gb261))) (fun _ hk => hk.2) (.int .i64 ((rd_T28 t256 x51_3).f0))) (fun _ hk => hk.2) (.int .i64 ((rd_T28 t256 x51_3).f1))) (fun _ hk => hk.2) (.int .i64 ((rd_T28 t256 x51_3).f2))) (fun _ hk => hk.2) (.slice A260_3 ((rd_T28 t256 x51_3).f3).length c260_3)) (fun _ hk => hk.2) (.slice A260_4 ((rd_T28 t256 x51_3).f4).length c260_4)) (fun _ hk => trivial)⟩, ⟨by (with_reducible repeat (first | apply Kd.S_alloc | apply Kd.S_drewN | apply Kd.S_drew)); exact Kd.S_mono (Kd.S_far (p := ⟨gb261, 4, none⟩) (Kd.S_far (p := ⟨gb261, 3, none⟩) (Kd.S_far (p := ⟨gb261, 2, none⟩) (Kd.S_far (p := ⟨gb261, 1, none⟩) (Kd.S_far (p := ⟨gb261, 0, none⟩) (Kd.S_mono HO_260000.out (fun k_ hk => (⟨hk, hk.2⟩ : _ ∧ k_ ≠ gb261))) (fun _ hk => hk.2) (.int .i64 ((rd_T28 t256 x51_3).f0))) (fun _ hk => hk.2) (.int .i64 ((rd_T28 t256 x51_3).f1))) (fun _ hk => hk.2) (.int .i64 ((rd_T28 t256 x51_3).f2))) (fun _ hk => hk.2) (.slice A260_3 ((rd_T28 t256 x51_3).f3).length c260_3)) (fun _ hk => hk.2) (.slice A260_4 ((rd_T28 t256 x51_3).f4).length c260_4)) (fun _ hk => trivial)⟩, ⟨by (with_reducible repeat (first | refine bN ?_ _ | refine bD ?_ | refine bA ?_ _)); refine bF ?_ NB247_261.out _; (with_reducible repeat (first | refine bN ?_ _ | refine bD ?_ | refine bA ?_ _)); refine bF ?_ NB247_261.out _; (with_reducible repeat (first | refine bN ?_ _ | refine bD ?_ | refine bA ?_ _)); refine bF ?_ NB247_261.out _; (with_reducible repeat (first | refine bN ?_ _ | refine bD ?_ | refine bA ?_ _)); refine bF ?_ NB247_261.out _; (with_reducible repeat (first | refine bN ?_ _ | refine bD ?_ | refine bA ?_ _)); refine bF ?_ NB247_261.out _; (with_reducible repeat (first | refine bN ?_ _ | refine bD ?_ | refine bA ?_ _)); exact BK247.out⟩, ⟨by (with_reducible repeat (first | refine bN ?_ _ | refine bD ?_ | refine bA ?_ _)); refine bF ?_ NB259_261.out _; (with_reducible repeat (first | refine bN ?_ _ | refine bD ?_ | refine bA ?_ _)); refine bF ?_ NB259_261.out _; (with_reducible repeat (first | refine bN ?_ _ | refine bD ?_ | refine bA ?_ _)); refine bF ?_ NB259_261.out _; (with_reducible repeat (first | refine bN ?_ _ | refine bD ?_ | refine bA ?_ _)); refine bF ?_ NB259_261.out _; (with_reducible repeat (first | refine bN ?_ _ | refine bD ?_ | refine bA ?_ _)); refine bF ?_ NB259_261.out _; (with_reducible repeat (first | refine bN ?_ _ | refine bD ?_ | refine bA ?_ _)); exact BK259.out⟩, ⟨by repeat (first | (with_reducible first | exact HB.out | apply wA | apply wN | apply wD | refine wS ?_ GE247.out | refine wS ?_ GE259.out | refine wS ?_ GE261.out) | exact HB.out)⟩⟩
             ·
              rw [if_neg c43] at H; exact absurd H (by simp)
            ·
             rw [if_neg c42] at H; have c42b0 : (((rd_T28 t256 x51_3).f0) == 0) = false := beq_eq_false_iff_ne.mpr c42; have c42b1 : (((rd_T28 t256 x51_3).f0) != 0) = true := bne_iff_ne.mpr c42; have H' := Aside0.mk H; clear H; have p260 : 0 ≤ (x51_3 : Int) := of_decide_eq_true (by first | (with_reducible assumption) | assumption); have q260 : x51_3 < (t256.length : Int) := of_decide_eq_true (by first | (with_reducible assumption) | assumption); obtain ⟨ad260, A260_3, c260_3, A260_4, c260_4, e260, hx260_0, hx260_1, hx260_2, hx260_3, hx260_4, hl260_3, hi260_3, hl260_4, hi260_4⟩ := at_T28 (Kd.S_reads' HO_49.out).2.2 x51_3 p260 q260
             cases e260
             obtain ⟨ce260, hce260, hMe260, hcc260⟩ := Kd.S_get HO_49.out z28 x51_3 p260 (by first | exact q260 | exact of_decide_eq_true (by first | (with_reducible assumption) | assumption) | (have e_ := (Kd.S_reads' HO_49.out).1; omega))
             obtain ⟨ve260_3, ve260_4, rfl, ge260_3, ge260_4⟩ := k28_openM hMe260; have hv260_3 := hcc260 3 _ rfl; rw [add_field _ _ 3 (by omega)] at hv260_3; replace hv260_3 := Option.some.inj (hv260_3.symm.trans hx260_3); rw [hv260_3] at ge260_3; have HL260_3 := Aside0.mk (show Kd.R (Kd.int .i64) 3 _ _ _ _ ((rd_T28 t256 x51_3).f3) from ge260_3); clear hv260_3 ge260_3; have hv260_4 := hcc260 4 _ rfl; rw [add_field _ _ 4 (by omega)] at hv260_4; replace hv260_4 := Option.some.inj (hv260_4.symm.trans hx260_4); rw [hv260_4] at ge260_4; have HL260_4 := Aside0.mk (show Kd.R k78 78 _ _ _ _ ((rd_T28 t256 x51_3).f4) from ge260_4); clear hv260_4 ge260_4; clear hcc260 hce260; have HR260_3 := Aside0.mk hi260_3; have HC260_3 := Aside0.mk hl260_3; clear hi260_3 hl260_3; have HR260_4 := Aside0.mk hi260_4; have HC260_4 := Aside0.mk hl260_4; clear hi260_4 hl260_4; replace p260 := eq_true p260; replace q260 := eq_true q260
             go_wp2_with (first | ((with_reducible refine gate_dst (N := 15) rfl ?_); (try (refine gate_guard (by rfl) ?_; dsimp only)); refine box_event ?hg (N := 15) ?hd (cs := #[.int .i64 0, .int .i64 0, .int .i64 0, .slice none 0 0, .slice none 0 0]) (t := 28) ?hr ?_; (case hd => rfl); (case hg => rfl); (case hr => first | (go_simp; done) | (go_simp; rfl)); intro gb261 hg w57 hbox hb; have n0_ := Aside0.mk (Kd.S_below (Kd.S_elderB (by (with_reducible repeat (first | apply Kd.S_alloc | apply Kd.S_drewN | apply Kd.S_drew)); exact HO_49.out) gb261 (Nat.le_of_eq hg.symm)) hb); have n1_ := Aside0.mk (Kd.S_below (Kd.S_elderB (by (with_reducible repeat (first | apply Kd.S_alloc | apply Kd.S_drewN | apply Kd.S_drew)); exact HO_260000.out) gb261 (Nat.le_of_eq hg.symm)) hb); have n2_ := Aside0.mk (Kd.R_below (by (with_reducible repeat (first | apply Kd.R_alloc | apply Kd.R_drewN | apply Kd.R_drew)); exact HL260_3.out) hb); have n3_ := Aside0.mk (Kd.R_below (by (with_reducible repeat (first | apply Kd.R_alloc | apply Kd.R_drewN | apply Kd.R_drew)); exact HL260_4.out) hb); have n4_ := Aside0.mk (bB (g := gb247) (o := .cells #[.slice A0_0 l0_0.length c0_0] 24 (0, 0)) (by (with_reducible repeat (first | refine bN ?_ _ | refine bD ?_ | refine bA ?_ _)); exact BK247.out) hb); have n5_ := Aside0.mk (bB (g := gb259) (o := .cells #[.slice (some ad260) t256.length co36] 24 (0, 0)) (by (with_reducible repeat (first | refine bN ?_ _ | refine bD ?_ | refine bA ?_ _)); exact BK259.out) hb); have n6_ := Aside0.mk (Kd.C_below (by repeat (first | (with_reducible exact HR260_3.out) | (with_reducible refine Kd.C_alloc ?_ _) | (with_reducible refine Kd.C_drewN ?_ _) | (with_reducible refine Kd.C_drew ?_) | exact HR260_3.out)) hb); have n7_ := Aside0.mk (Kd.C_below (by repeat (first | (with_reducible exact HR260_4.out) | (with_reducible refine Kd.C_alloc ?_ _) | (with_reducible refine Kd.C_drewN ?_ _) | (with_reducible refine Kd.C_drew ?_) | exact HR260_4.out)) hb); have n8_ := Aside0.mk (below_step (by repeat (first | (with_reducible first | exact HB.out | apply wA | apply wN | apply wD | refine wS ?_ GE247.out | refine wS ?_ GE259.out) | exact HB.out)) hb); have n9_ := Aside0.mk (hbox); have n10_ := Aside0.mk ((by rw [hg]; exact (below_size (by repeat (first | (with_reducible first | exact HB.out | apply wA | apply wN | apply wD | refine wS ?_ GE247.out | refine wS ?_ GE259.out) | exact HB.out))) : w.heap.size ≤ gb261)); have n11_ := Aside0.mk ((by rw [hg]; exact (below_size (by repeat (first | (with_reducible first | exact HB.out | apply wA | apply wN | apply wD | refine wS ?_ GE247.out | refine wS ?_ GE259.out) | exact HB.out))) : w.heap.size ≤ gb261)); have n12_ := Aside0.mk ((by rw [hg]; exact Nat.ne_of_lt (blk_lt (g := gb247) (o := .cells #[.slice A0_0 l0_0.length c0_0] 24 (0, 0)) (by (with_reducible repeat (first | refine bN ?_ _ | refine bD ?_ | refine bA ?_ _)); exact BK247.out)) : gb247 ≠ gb261)); have n13_ := Aside0.mk ((by rw [hg]; exact Nat.ne_of_gt (blk_lt (g := gb247) (o := .cells #[.slice A0_0 l0_0.length c0_0] 24 (0, 0)) (by (with_reducible repeat (first | refine bN ?_ _ | refine bD ?_ | refine bA ?_ _)); exact BK247.out)) : gb261 ≠ gb247)); have n14_ := Aside0.mk ((by rw [hg]; exact Nat.ne_of_lt (blk_lt (g := gb259) (o := .cells #[.slice (some ad260) t256.length co36] 24 (0, 0)) (by (with_reducible repeat (first | refine bN ?_ _ | refine bD ?_ | refine bA ?_ _)); exact BK259.out)) : gb259 ≠ gb261)); have n15_ := Aside0.mk ((by rw [hg]; exact Nat.ne_of_gt (blk_lt (g := gb259) (o := .cells #[.slice (some ad260) t256.length co36] 24 (0, 0)) (by (with_reducible repeat (first | refine bN ?_ _ | refine bD ?_ | refine bA ?_ _)); exact BK259.out)) : gb261 ≠ gb259)); clear HO_49; clear HO_260000; clear HL260_3; clear HL260_4; clear BK247; clear BK259; clear HR260_3; clear HR260_4; clear HB; have HO_49 := n0_; have HO_260000 := n1_; have HL260_3 := n2_; have HL260_4 := n3_; have BK247 := n4_; have BK259 := n5_; have HR260_3 := n6_; have HR260_4 := n7_; have HB := n8_; have BK261 := n9_; have GW261 := n10_; have GE261 := n11_; have NB247_261 := n12_; have NB261_247 := n13_; have NB259_261 := n14_; have NB261_259 := n15_; clear n0_ n1_ n2_ n3_ n4_ n5_ n6_ n7_ n8_ n9_ n10_ n11_ n12_ n13_ n14_ n15_; clear hb hbox hg; have hnb58 := NB261_247.out; have hnc58 := NB247_261.out; have hnb59 := NB261_259.out; have hnc59 := NB259_261.out; have hcz60_0 : w57.cell? ⟨gb261, 0, none⟩ = some (.int .i64 0) := (bC BK261.out 0).trans rfl; have hcz60_1 : w57.cell? ⟨gb261, 1, none⟩ = some (.int .i64 0) := (bC BK261.out 1).trans rfl; have hcz60_2 : w57.cell? ⟨gb261, 2, none⟩ = some (.int .i64 0) := (bC BK261.out 2).trans rfl; have hcz60_3 : w57.cell? ⟨gb261, 3, none⟩ = some (.slice none 0 0) := (bC BK261.out 3).trans rfl; have hcz60_4 : w57.cell? ⟨gb261, 4, none⟩ = some (.slice none 0 0) := (bC BK261.out 4).trans rfl; have hfz60_0 := bZ BK261.out 0; have hfz60_1 := bZ BK261.out 1; have hfz60_2 := bZ BK261.out 2; have hfz60_3 := bZ BK261.out 3; have hfz60_4 := bZ BK261.out 4))
             go_roundg k3
             case measure => have := HJ3.out; have := HK2.out; have := HK3.out; omega
             case rel => exact ⟨(x13_3), (wrap64 (x51_3 + 1)), (by first | rfl | (simp; done) | (simp [*]; done)), (by first | rfl | (simp; done) | (simp [*]; done)), H', ⟨by have := HJ3.out; have := HK2.out; have := HK3.out; omega⟩, ⟨by (with_reducible repeat (first | apply Kd.S_alloc | apply Kd.S_drewN | apply Kd.S_drew)); exact Kd.S_mono (Kd.S_far (p := ⟨gb261, 4, none⟩) (Kd.S_far (p := ⟨gb261, 3, none⟩) (Kd.S_far (p := ⟨gb261, 2, none⟩) (Kd.S_far (p := ⟨gb261, 1, none⟩) (Kd.S_far (p := ⟨gb261, 0, none⟩) (Kd.S_mono HO_49.out (fun k_ hk => (⟨hk, hk.2⟩ : _ ∧ k_ ≠ gb261))) (fun _ hk => hk.2) (.int .i64 ((rd_T28 t256 x51_3).f0))) (fun _ hk => hk.2) (.int .i64 ((rd_T28 t256 x51_3).f1))) (fun _ hk => hk.2) (.int .i64 ((rd_T28 t256 x51_3).f2))) (fun _ hk => hk.2) (.slice A260_3 ((rd_T28 t256 x51_3).f3).length c260_3)) (fun _ hk => hk.2) (.slice A260_4 ((rd_T28 t256 x51_3).f4).length c260_4)) (fun _ hk => trivial)⟩, ⟨by (with_reducible repeat (first | apply Kd.S_alloc | apply Kd.S_drewN | apply Kd.S_drew)); exact Kd.S_mono (Kd.S_far (p := ⟨gb261, 4, none⟩) (Kd.S_far (p := ⟨gb261, 3, none⟩) (Kd.S_far (p := ⟨gb261, 2, none⟩) (Kd.S_far (p := ⟨gb261, 1, none⟩) (Kd.S_far (p := ⟨gb261, 0, none⟩) (Kd.S_mono HO_260000.out (fun k_ hk => (⟨hk, hk.2⟩ : _ ∧ k_ ≠ gb261))) (fun _ hk => hk.2) (.int .i64 ((rd_T28 t256 x51_3).f0))) (fun _ hk => hk.2) (.int .i64 ((rd_T28 t256 x51_3).f1))) (fun _ hk => hk.2) (.int .i64 ((rd_T28 t256 x51_3).f2))) (fun _ hk => hk.2) (.slice A260_3 ((rd_T28 t256 x51_3).f3).length c260_3)) (fun _ hk => hk.2) (.slice A260_4 ((rd_T28 t256 x51_3).f4).length c260_4)) (fun _ hk => trivial)⟩, ⟨by (with_reducible repeat (first | refine bN ?_ _ | refine bD ?_ | refine bA ?_ _)); refine bF ?_ NB247_261.out _; (with_reducible repeat (first | refine bN ?_ _ | refine bD ?_ | refine bA ?_ _)); refine bF ?_ NB247_261.out _; (with_reducible repeat (first | refine bN ?_ _ | refine bD ?_ | refine bA ?_ _)); refine bF ?_ NB247_261.out _; (with_reducible repeat (first | refine bN ?_ _ | refine bD ?_ | refine bA ?_ _)); refine bF ?_ NB247_261.out _; (with_reducible repeat (first | refine bN ?_ _ | refine bD ?_ | refine bA ?_ _)); refine bF ?_ NB247_261.out _; (with_reducible repeat (first | refine bN ?_ _ | refine bD ?_ | refine bA ?_ _)); exact BK247.out⟩, ⟨by (with_reducible repeat (first | refine bN ?_ _ | refine bD ?_ | refine bA ?_ _)); refine bF ?_ NB259_261.out _; (with_reducible repeat (first | refine bN ?_ _ | refine bD ?_ | refine bA ?_ _)); refine bF ?_ NB259_261.out _; (with_reducible repeat (first | refine bN ?_ _ | refine bD ?_ | refine bA ?_ _)); refine bF ?_ NB259_261.out _; (with_reducible repeat (first | refine bN ?_ _ | refine bD ?_ | refine bA ?_ _)); refine bF ?_ NB259_261.out _; (with_reducible repeat (first | refine bN ?_ _ | refine bD ?_ | refine bA ?_ _)); refine bF ?_ NB259_261.out _; (with_reducible repeat (first | refine bN ?_ _ | refine bD ?_ | refine bA ?_ _)); exact BK259.out⟩, ⟨by repeat (first | (with_reducible first | exact HB.out | apply wA | apply wN | apply wD | refine wS ?_ GE247.out | refine wS ?_ GE259.out | refine wS ?_ GE261.out) | exact HB.out)⟩⟩
           ·
            rw [if_neg c41] at H; exact absurd H (by simp)
          ·
           rw [if_neg c40] at H; exact absurd H (by simp)
         ·
          rw [if_neg c39] at H; have c39b0 : decide (x51_3 < (t256.length : Int)) = false := decide_eq_false c39; clear c39
          by_cases c61 : t251 = x9_2
          ·
           rw [if_pos c61] at H; have c61b0 : (t251 == x9_2) = true := beq_iff_eq.mpr c61; have c61b1 : (t251 != x9_2) = false := bne_eq_false_iff_eq.mpr c61; clear c61; obtain ⟨ji62, hji62⟩ : ∃ j_ : Int, (mx 0 (wrap64 ((wrap64 (Int.tmod (IntKind.u64.wrap (a1)) 61)) - t251))) = j_ := ⟨_, rfl⟩
           replace H : (if t252 = (ji62) then ((quota_Nodes.f k3 t256).bind fun t263 => ((quota_Nodes.f k3 l0_0).bind fun t264 => (if t263 = (wrap64 (t264 + x13_3)) then ((quota_Used.f k3 t256).bind fun t265 => (if t265 ≤ t251 then ((potsherdlaw18_awake.f k3).bind fun t266 => (some t266)) else (some false))) else (some false)))) else (some false)) = some true := by first | (rw [hji62] at H; exact H) | (simp only [hji62] at H ⊢; exact H)
           have hji62_ : (if 0 < (wrap64 ((wrap64 (Int.tmod (IntKind.u64.wrap (a1)) 61)) - t251)) then (wrap64 ((wrap64 (Int.tmod (IntKind.u64.wrap (a1)) 61)) - t251)) else 0) = ji62 := hji62
           by_cases c63 : t252 = (ji62)
           ·
            rw [if_pos c63] at H; have c63b0 : (t252 == (ji62)) = true := beq_iff_eq.mpr c63; have c63b1 : (t252 != (ji62)) = false := bne_eq_false_iff_eq.mpr c63; clear c63; replace H := Option.bind_eq_some_iff.mp H; obtain ⟨t263, A640, H⟩ := H; replace H : ((quota_Nodes.f k3 l0_0).bind fun t264 => (if t263 = (wrap64 (t264 + x13_3)) then ((quota_Used.f k3 t256).bind fun t265 => (if t265 ≤ t251 then ((potsherdlaw18_awake.f k3).bind fun t266 => (some t266)) else (some false))) else (some false))) = some true := H; have A64 := Aside0.mk A640; clear A640; replace H := Option.bind_eq_some_iff.mp H; obtain ⟨t264, A650, H⟩ := H; replace H : (if t263 = (wrap64 (t264 + x13_3)) then ((quota_Used.f k3 t256).bind fun t265 => (if t265 ≤ t251 then ((potsherdlaw18_awake.f k3).bind fun t266 => (some t266)) else (some false))) else (some false)) = some true := H; have A65 := Aside0.mk A650; clear A650
            by_cases c66 : t263 = (wrap64 (t264 + x13_3))
            ·
             rw [if_pos c66] at H; have c66b0 : (t263 == (wrap64 (t264 + x13_3))) = true := beq_iff_eq.mpr c66; have c66b1 : (t263 != (wrap64 (t264 + x13_3))) = false := bne_eq_false_iff_eq.mpr c66; clear c66; replace H := Option.bind_eq_some_iff.mp H; obtain ⟨t265, A670, H⟩ := H; replace H : (if t265 ≤ t251 then ((potsherdlaw18_awake.f k3).bind fun t266 => (some t266)) else (some false)) = some true := H; have A67 := Aside0.mk A670; clear A670
             by_cases c68 : t265 ≤ t251
             ·
              rw [if_pos c68] at H; have c68b0 : decide (t265 ≤ t251) = true := decide_eq_true c68; clear c68; replace H := Option.bind_eq_some_iff.mp H; obtain ⟨t266, A690, H⟩ := H; replace H : (some t266) = some true := H; have A69 := Aside0.mk A690; clear A690; have HRET := Aside0.mk (Option.some.inj H); clear H
              try go_wp2
              have n0_ := Aside0.mk (Kd.S_drew HO_49.out); have n1_ := Aside0.mk (Kd.S_drew HO_260000.out); have n2_ := Aside0.mk (bD BK247.out); have n3_ := Aside0.mk (bD BK259.out); have n4_ := Aside0.mk (wD HB.out); clear HO_49; clear HO_260000; clear BK247; clear BK259; clear HB; have HO_49 := n0_; have HO_260000 := n1_; have BK247 := n2_; have BK259 := n3_; have HB := n4_; clear n0_ n1_ n2_ n3_ n4_; refine start_ (n := 30) (S := fun w' => w'.cell? ⟨gb259, 0, none⟩ = some (.slice Ao36 t256.length co36) ∧ w'.cell? ⟨gb247, 0, none⟩ = some (.slice A0_0 l0_0.length c0_0)) (ds := []) B21_8 (by kernel_rfl) rfl rfl ⟨(bC BK259.out 0).trans rfl, (bC BK247.out 0).trans rfl⟩ (fun hHeld => ?_); refine with_tabW potsherdlaw18_QuotaSums.tab19 potsherdlaw18_QuotaSums.bits19 (fun HT_ HW_ => ?_); generalize wr.drew = w70 at HO_49 HO_260000 BK247 BK259 HB hHeld ⊢; refine pure_ (i := 0) (N := some 71) (v := ?_) (a' := ?_) B21_9 rfl rfl (any_of HT_.out (by kernel_rfl)) (fun _ _ _ h => h) (Or.inl ⟨by rfl, ?_⟩) ?_ ?_; rotate_left
              ·
               intro w'; go_simp; with_reducible rfl
              rotate_left
              ·
               simp only [Act.put, lT, l0_, lS, i64_w, i32_w]; rfl
              refine pure_ (i := 1) (N := some 72) (v := ?_) (a' := ?_) B21_10 rfl rfl (any_of HT_.out (by kernel_rfl)) (fun _ _ _ h => h) (Or.inl ⟨by rfl, ?_⟩) ?_ ?_; rotate_left
              ·
               intro w'; go_simp; with_reducible rfl
              rotate_left
              ·
               simp only [Act.put, lT, l0_, lS, i64_w, i32_w]; rfl
              refine pure_ (i := 2) (N := some 73) (v := ?_) (a' := ?_) B21_11 rfl rfl (any_of HT_.out (by kernel_rfl)) (fun _ _ _ h => h) (Or.inl ⟨by rfl, ?_⟩) ?_ ?_; rotate_left
              ·
               intro w'; go_simp; with_reducible rfl
              rotate_left
              ·
               simp only [Act.put, lT, l0_, lS, i64_w, i32_w]; rfl
              refine pure_ (i := 3) (N := some 74) (v := ?_) (a' := ?_) B21_12 rfl rfl (any_of HT_.out (by kernel_rfl)) (fun _ _ _ h => h) (Or.inl ⟨by rfl, ?_⟩) ?_ ?_; rotate_left
              ·
               intro w'; go_simp; with_reducible rfl
              rotate_left
              ·
               simp only [Act.put, lT, l0_, lS, i64_w, i32_w]; rfl
              refine pure_ (i := 4) (N := some 75) (v := ?_) (a' := ?_) B21_13 rfl rfl (any_of HT_.out (by kernel_rfl)) (fun _ _ _ h => h) (Or.inl ⟨by rfl, ?_⟩) ?_ ?_; rotate_left
              ·
               intro w'; go_simp; with_reducible rfl
              rotate_left
              ·
               simp only [Act.put, lT, l0_, lS, i64_w, i32_w]; rfl
              refine pure_ (i := 5) (N := some 76) (v := ?_) (a' := ?_) B21_14 rfl rfl (any_of HT_.out (by kernel_rfl)) (fun _ _ _ h => h) (Or.inl ⟨by rfl, ?_⟩) ?_ ?_; rotate_left
              ·
               intro w'; go_simp; with_reducible rfl
              rotate_left
              ·
               simp only [Act.put, lT, l0_, lS, i64_w, i32_w]; rfl
              refine pure_ (i := 6) (N := some 77) (v := ?_) (a' := ?_) B21_15 rfl rfl (any_of HT_.out (by kernel_rfl)) (fun _ _ _ h => h) (Or.inl ⟨by rfl, ?_⟩) ?_ ?_; rotate_left
              ·
               intro w'; go_simp; with_reducible rfl
              rotate_left
              ·
               simp only [Act.put, lT, l0_, lS, i64_w, i32_w]; rfl
              refine pure_ (i := 7) (N := some 78) (v := ?_) (a' := ?_) B21_16 rfl rfl (any_of HT_.out (by kernel_rfl)) (fun _ _ _ h => h) (Or.inl ⟨by rfl, ?_⟩) ?_ ?_; rotate_left
              ·
               intro w'; go_simp; with_reducible rfl
              rotate_left
              ·
               simp only [Act.put, lT, l0_, lS, i64_w, i32_w]; rfl
              refine pure_ (i := 8) (N := some 79) (v := ?_) (a' := ?_) B21_17 rfl rfl (any_of HT_.out (by kernel_rfl)) (fun _ _ _ h => h) (Or.inl ⟨by rfl, ?_⟩) ?_ ?_; rotate_left
              ·
               intro w'; go_simp; with_reducible rfl
              rotate_left
              ·
               simp only [Act.put, lT, l0_, lS, i64_w, i32_w]; rfl
              refine pure_ (i := 9) (N := some 80) (v := ?_) (a' := ?_) B21_18 rfl rfl (any_of HT_.out (by kernel_rfl)) (fun _ _ _ h => h) (Or.inl ⟨by rfl, ?_⟩) ?_ ?_; rotate_left
              ·
               intro w'; go_simp; with_reducible rfl
              rotate_left
              ·
               simp only [Act.put, lT, l0_, lS, i64_w, i32_w]; rfl
              refine pure_ (i := 10) (N := some 81) (v := ?_) (a' := ?_) B21_19 rfl rfl (any_of HT_.out (by kernel_rfl)) (fun _ _ _ h => h) (Or.inl ⟨by rfl, ?_⟩) ?_ ?_; rotate_left
              ·
               intro w'; go_simp; with_reducible rfl
              rotate_left
              ·
               simp only [Act.put, lT, l0_, lS, i64_w, i32_w]; rfl
              refine pure_ (i := 11) (N := some 82) (v := ?_) (a' := ?_) B21_20 rfl rfl (any_of HT_.out (by kernel_rfl)) (fun _ _ _ h => h) (Or.inl ⟨by rfl, ?_⟩) ?_ ?_; rotate_left
              ·
               intro w'; go_simp; with_reducible rfl
              rotate_left
              ·
               simp only [Act.put, lT, l0_, lS, i64_w, i32_w]; rfl
              refine pure_ (i := 16) (N := some 87) (v := ?_) (a' := ?_) B21_21 rfl rfl (any_of HT_.out (by kernel_rfl)) (fun _ _ _ h => h) (Or.inl ⟨by rfl, ?_⟩) ?_ ?_; rotate_left
              ·
               intro w'; go_simp; with_reducible rfl
              rotate_left
              ·
               simp only [Act.put, lT, l0_, lS, i64_w, i32_w]; rfl
              refine take_ (i := 12) (N := some 83) (v := ?_) (a' := ?_) B21_22 rfl rfl (take_ofW HT_.out HW_.out (by kernel_rfl)) (fun _ _ _ h => h) (Or.inl ⟨by rfl, ?_⟩) hHeld ?_ ?_; rotate_left
              ·
               rintro w' ⟨s0, s1⟩; go_simp; with_reducible rfl
              rotate_left
              ·
               simp only [Act.put, lT, l0_, lS, i64_w, i32_w]; rfl
              refine take_ (i := 14) (N := some 85) (v := ?_) (a' := ?_) B21_23 rfl rfl (take_ofW HT_.out HW_.out (by kernel_rfl)) (fun _ _ _ h => h) (Or.inl ⟨by rfl, ?_⟩) hHeld ?_ ?_; rotate_left
              ·
               rintro w' ⟨s0, s1⟩; go_simp; with_reducible rfl
              rotate_left
              ·
               simp only [Act.put, lT, l0_, lS, i64_w, i32_w]; rfl
              refine one_ (i := 13) (N := some 84) B21_24 rfl rfl (one_of HT_.out (by kernel_rfl)) (by decide) (fun K hK => ?_); refine goes_ Try.func20 (by kernel_rfl) rfl #[.agg #[.slice Ao36 t256.length co36]] (by rfl) rfl rfl (by (try simp only [List.map_toArray, List.map_cons, List.map_nil]); first | done | rfl | (simp only [List.length_drop, List.length_take]; rfl)) ?_
              with_reducible refine (quota_Nodes.calls k3 _ _ t256 t263 _ ?side1 ?side2 A64.out).mono ?_
              (case side1 => repeat (first | exact (Kd.S_reads' HO_260000.out).2.2 | (with_reducible refine Kd.C_alloc ?_ _) | (with_reducible refine Kd.C_drewN ?_ _) | (with_reducible refine Kd.C_drew ?_)))
              (case side2 => exact (Kd.S_reads' HO_260000.out).2.1)
              rintro e w71 ⟨rfl, hb⟩; refine ⟨_, rfl, ?_⟩; have n0_ := Aside0.mk (Kd.S_below (by (with_reducible repeat (first | apply Kd.S_alloc | apply Kd.S_drewN | apply Kd.S_drew)); exact HO_49.out) hb)
              have n1_ := Aside0.mk (Kd.S_below (by (with_reducible repeat (first | apply Kd.S_alloc | apply Kd.S_drewN | apply Kd.S_drew)); exact HO_260000.out) hb)
              have n2_ := Aside0.mk (bB (g := gb247) (o := .cells #[.slice A0_0 l0_0.length c0_0] 24 (0, 0)) (by (with_reducible repeat (first | refine bN ?_ _ | refine bD ?_ | refine bA ?_ _)); exact BK247.out) hb)
              have n3_ := Aside0.mk (bB (g := gb259) (o := .cells #[.slice Ao36 t256.length co36] 24 (0, 0)) (by (with_reducible repeat (first | refine bN ?_ _ | refine bD ?_ | refine bA ?_ _)); exact BK259.out) hb)
              have n4_ := Aside0.mk (below_step (by repeat (first | (with_reducible first | exact HB.out | apply wA | apply wN | apply wD | refine wS ?_ GE247.out | refine wS ?_ GE259.out) | exact HB.out)) hb); clear HO_49; clear HO_260000; clear BK247; clear BK259; clear HB; have HO_49 := n0_; have HO_260000 := n1_; have BK247 := n2_; have BK259 := n3_; have HB := n4_; clear n0_ n1_ n2_ n3_ n4_
              (try clear hb)
              (try clear hb2)
              (try clear hk)
              (try clear hi)
              refine hK.out _ _ ⟨(bC BK259.out 0).trans rfl, (bC BK247.out 0).trans rfl⟩ (fun hHeld => ?_); clear hK K; refine norm_ (a' := ?_) ?_ ?_; rotate_left
              ·
               show Act.put _ (some 84) _ = _
               simp only [Act.put, lT, l0_, lS, i64_w, i32_w]; rfl
              refine one_ (i := 15) (N := some 86) B21_25 rfl rfl (one_of HT_.out (by kernel_rfl)) (by decide) (fun K hK => ?_); refine goes_ Try.func20 (by kernel_rfl) rfl #[.agg #[.slice A0_0 l0_0.length c0_0]] (by rfl) rfl rfl (by (try simp only [List.map_toArray, List.map_cons, List.map_nil]); first | done | rfl | (simp only [List.length_drop, List.length_take]; rfl)) ?_
              with_reducible refine (quota_Nodes.calls k3 _ _ l0_0 t264 _ ?side1 ?side2 A65.out).mono ?_
              (case side1 => repeat (first | exact (Kd.C_below HR0_0.out HB.out) | (with_reducible refine Kd.C_alloc ?_ _) | (with_reducible refine Kd.C_drewN ?_ _) | (with_reducible refine Kd.C_drew ?_)))
              (case side2 => exact HC0_0.out)
              rintro e w72 ⟨rfl, hb⟩; refine ⟨_, rfl, ?_⟩; have n0_ := Aside0.mk (Kd.S_below (by (with_reducible repeat (first | apply Kd.S_alloc | apply Kd.S_drewN | apply Kd.S_drew)); exact HO_49.out) hb)
              have n1_ := Aside0.mk (Kd.S_below (by (with_reducible repeat (first | apply Kd.S_alloc | apply Kd.S_drewN | apply Kd.S_drew)); exact HO_260000.out) hb)
              have n2_ := Aside0.mk (bB (g := gb247) (o := .cells #[.slice A0_0 l0_0.length c0_0] 24 (0, 0)) (by (with_reducible repeat (first | refine bN ?_ _ | refine bD ?_ | refine bA ?_ _)); exact BK247.out) hb)
              have n3_ := Aside0.mk (bB (g := gb259) (o := .cells #[.slice Ao36 t256.length co36] 24 (0, 0)) (by (with_reducible repeat (first | refine bN ?_ _ | refine bD ?_ | refine bA ?_ _)); exact BK259.out) hb)
              have n4_ := Aside0.mk (below_step (by repeat (first | (with_reducible first | exact HB.out | apply wA | apply wN | apply wD | refine wS ?_ GE247.out | refine wS ?_ GE259.out) | exact HB.out)) hb); clear HO_49; clear HO_260000; clear BK247; clear BK259; clear HB; have HO_49 := n0_; have HO_260000 := n1_; have BK247 := n2_; have BK259 := n3_; have HB := n4_; clear n0_ n1_ n2_ n3_ n4_
              (try clear hb)
              (try clear hb2)
              (try clear hk)
              (try clear hi)
              refine hK.out _ _ ⟨(bC BK259.out 0).trans rfl, (bC BK247.out 0).trans rfl⟩ (fun hHeld => ?_); clear hK K; refine norm_ (a' := ?_) ?_ ?_; rotate_left
              ·
               show Act.put _ (some 86) _ = _
               simp only [Act.put, lT, l0_, lS, i64_w, i32_w]; rfl
              refine pure_ (i := 17) (N := some 88) (v := ?_) (a' := ?_) B21_26 rfl rfl (any_of HT_.out (by kernel_rfl)) (fun _ _ _ h => h) (Or.inl ⟨by rfl, ?_⟩) ?_ ?_; rotate_left
              ·
               intro w'; go_simp; with_reducible rfl
              rotate_left
              ·
               simp only [Act.put, lT, l0_, lS, i64_w, i32_w]; rfl
              refine pure_ (i := 18) (N := some 89) (v := ?_) (a' := ?_) B21_27 rfl rfl (any_of HT_.out (by kernel_rfl)) (fun _ _ _ h => h) (Or.inl ⟨by rfl, ?_⟩) ?_ ?_; rotate_left
              ·
               intro w'; go_simp; with_reducible rfl
              rotate_left
              ·
               simp only [Act.put, lT, l0_, lS, i64_w, i32_w]; rfl
              refine pure_ (i := 19) (N := some 90) (v := ?_) (a' := ?_) B21_28 rfl rfl (any_of HT_.out (by kernel_rfl)) (fun _ _ _ h => h) (Or.inl ⟨by rfl, ?_⟩) ?_ ?_; rotate_left
              ·
               intro w'; go_simp; with_reducible rfl
              rotate_left
              ·
               simp only [Act.put, lT, l0_, lS, i64_w, i32_w]; rfl
              refine pure_ (i := 20) (N := some 91) (v := ?_) (a' := ?_) B21_29 rfl rfl (any_of HT_.out (by kernel_rfl)) (fun _ _ _ h => h) (Or.inl ⟨by rfl, ?_⟩) ?_ ?_; rotate_left
              ·
               intro w'; go_simp; with_reducible rfl
              rotate_left
              ·
               simp only [Act.put, lT, l0_, lS, i64_w, i32_w]; rfl
              refine pure_ (i := 23) (N := some 94) (v := ?_) (a' := ?_) B21_30 rfl rfl (any_of HT_.out (by kernel_rfl)) (fun _ _ _ h => h) (Or.inl ⟨by rfl, ?_⟩) ?_ ?_; rotate_left
              ·
               intro w'; go_simp; with_reducible rfl
              rotate_left
              ·
               simp only [Act.put, lT, l0_, lS, i64_w, i32_w]; rfl
              refine take_ (i := 21) (N := some 92) (v := ?_) (a' := ?_) B21_31 rfl rfl (take_ofW HT_.out HW_.out (by kernel_rfl)) (fun _ _ _ h => h) (Or.inl ⟨by rfl, ?_⟩) hHeld ?_ ?_; rotate_left
              ·
               rintro w' ⟨s0, s1⟩; go_simp; with_reducible rfl
              rotate_left
              ·
               simp only [Act.put, lT, l0_, lS, i64_w, i32_w]; rfl
              refine one_ (i := 22) (N := some 93) B21_32 rfl rfl (one_of HT_.out (by kernel_rfl)) (by decide) (fun K hK => ?_); refine goes_ Try.func16 (by kernel_rfl) rfl #[.agg #[.slice Ao36 t256.length co36]] (by rfl) rfl rfl (by (try simp only [List.map_toArray, List.map_cons, List.map_nil]); first | done | rfl | (simp only [List.length_drop, List.length_take]; rfl)) ?_
              with_reducible refine (quota_Used.calls k3 _ _ t256 t265 _ ?side1 ?side2 A67.out).mono ?_
              (case side1 => repeat (first | exact (Kd.S_reads' HO_260000.out).2.2 | (with_reducible refine Kd.C_alloc ?_ _) | (with_reducible refine Kd.C_drewN ?_ _) | (with_reducible refine Kd.C_drew ?_)))
              (case side2 => exact (Kd.S_reads' HO_260000.out).2.1)
              rintro e w73 ⟨rfl, hb⟩; refine ⟨_, rfl, ?_⟩; have n0_ := Aside0.mk (Kd.S_below (by (with_reducible repeat (first | apply Kd.S_alloc | apply Kd.S_drewN | apply Kd.S_drew)); exact HO_49.out) hb)
              have n1_ := Aside0.mk (Kd.S_below (by (with_reducible repeat (first | apply Kd.S_alloc | apply Kd.S_drewN | apply Kd.S_drew)); exact HO_260000.out) hb)
              have n2_ := Aside0.mk (bB (g := gb247) (o := .cells #[.slice A0_0 l0_0.length c0_0] 24 (0, 0)) (by (with_reducible repeat (first | refine bN ?_ _ | refine bD ?_ | refine bA ?_ _)); exact BK247.out) hb)
              have n3_ := Aside0.mk (bB (g := gb259) (o := .cells #[.slice Ao36 t256.length co36] 24 (0, 0)) (by (with_reducible repeat (first | refine bN ?_ _ | refine bD ?_ | refine bA ?_ _)); exact BK259.out) hb)
              have n4_ := Aside0.mk (below_step (by repeat (first | (with_reducible first | exact HB.out | apply wA | apply wN | apply wD | refine wS ?_ GE247.out | refine wS ?_ GE259.out) | exact HB.out)) hb); clear HO_49; clear HO_260000; clear BK247; clear BK259; clear HB; have HO_49 := n0_; have HO_260000 := n1_; have BK247 := n2_; have BK259 := n3_; have HB := n4_; clear n0_ n1_ n2_ n3_ n4_
              (try clear hb)
              (try clear hb2)
              (try clear hk)
              (try clear hi)
              refine hK.out _ _ ⟨(bC BK259.out 0).trans rfl, (bC BK247.out 0).trans rfl⟩ (fun hHeld => ?_); clear hK K; refine norm_ (a' := ?_) ?_ ?_; rotate_left
              ·
               show Act.put _ (some 93) _ = _
               simp only [Act.put, lT, l0_, lS, i64_w, i32_w]; rfl
              refine pure_ (i := 24) (N := some 95) (v := ?_) (a' := ?_) B21_33 rfl rfl (any_of HT_.out (by kernel_rfl)) (fun _ _ _ h => h) (Or.inl ⟨by rfl, ?_⟩) ?_ ?_; rotate_left
              ·
               intro w'; go_simp; with_reducible rfl
              rotate_left
              ·
               simp only [Act.put, lT, l0_, lS, i64_w, i32_w]; rfl
              refine pure_ (i := 25) (N := some 96) (v := ?_) (a' := ?_) B21_34 rfl rfl (any_of HT_.out (by kernel_rfl)) (fun _ _ _ h => h) (Or.inl ⟨by rfl, ?_⟩) ?_ ?_; rotate_left
              ·
               intro w'; go_simp; with_reducible rfl
              rotate_left
              ·
               simp only [Act.put, lT, l0_, lS, i64_w, i32_w]; rfl
              refine pure_ (i := 26) (N := some 97) (v := ?_) (a' := ?_) B21_35 rfl rfl (any_of HT_.out (by kernel_rfl)) (fun _ _ _ h => h) (Or.inl ⟨by rfl, ?_⟩) ?_ ?_; rotate_left
              ·
               intro w'; go_simp; with_reducible rfl
              rotate_left
              ·
               simp only [Act.put, lT, l0_, lS, i64_w, i32_w]; rfl
              refine one_ (i := 27) (N := some 98) B21_36 rfl rfl (one_of HT_.out (by kernel_rfl)) (by decide) (fun K hK => ?_); refine goes_ Try.func15 (by kernel_rfl) rfl #[] (by rfl) rfl rfl (by (try simp only [List.map_toArray, List.map_cons, List.map_nil]); first | done | rfl | (simp only [List.length_drop, List.length_take]; rfl)) ?_
              with_reducible refine (potsherdlaw18_awake.calls k3  t266 _ A69.out).mono ?_
              rintro e w74 ⟨rfl, hb⟩; refine ⟨_, rfl, ?_⟩; have n0_ := Aside0.mk (Kd.S_below (by (with_reducible repeat (first | apply Kd.S_alloc | apply Kd.S_drewN | apply Kd.S_drew)); exact HO_49.out) hb)
              have n1_ := Aside0.mk (Kd.S_below (by (with_reducible repeat (first | apply Kd.S_alloc | apply Kd.S_drewN | apply Kd.S_drew)); exact HO_260000.out) hb)
              have n2_ := Aside0.mk (bB (g := gb247) (o := .cells #[.slice A0_0 l0_0.length c0_0] 24 (0, 0)) (by (with_reducible repeat (first | refine bN ?_ _ | refine bD ?_ | refine bA ?_ _)); exact BK247.out) hb)
              have n3_ := Aside0.mk (bB (g := gb259) (o := .cells #[.slice Ao36 t256.length co36] 24 (0, 0)) (by (with_reducible repeat (first | refine bN ?_ _ | refine bD ?_ | refine bA ?_ _)); exact BK259.out) hb)
              have n4_ := Aside0.mk (below_step (by repeat (first | (with_reducible first | exact HB.out | apply wA | apply wN | apply wD | refine wS ?_ GE247.out | refine wS ?_ GE259.out) | exact HB.out)) hb); clear HO_49; clear HO_260000; clear BK247; clear BK259; clear HB; have HO_49 := n0_; have HO_260000 := n1_; have BK247 := n2_; have BK259 := n3_; have HB := n4_; clear n0_ n1_ n2_ n3_ n4_
              (try clear hb)
              (try clear hb2)
              (try clear hk)
              (try clear hi)
              refine hK.out _ _ ⟨(bC BK259.out 0).trans rfl, (bC BK247.out 0).trans rfl⟩ (fun hHeld => ?_); clear hK K; refine norm_ (a' := ?_) ?_ ?_; rotate_left
              ·
               show Act.put _ (some 98) _ = _
               simp only [Act.put, lT, l0_, lS, i64_w, i32_w]; rfl
              refine pure_ (i := 28) (N := some 99) (v := ?_) (a' := ?_) B21_37 rfl rfl (any_of HT_.out (by kernel_rfl)) (fun _ _ _ h => h) (Or.inl ⟨by rfl, ?_⟩) ?_ ?_; rotate_left
              ·
               intro w'; go_simp; with_reducible rfl
              rotate_left
              ·
               simp only [Act.put, lT, l0_, lS, i64_w, i32_w]; rfl
              refine pure_ (i := 29) (N := some 6) (v := ?_) (a' := ?_) B21_38 rfl rfl (any_of HT_.out (by kernel_rfl)) (fun _ _ _ h => h) (Or.inl ⟨by rfl, ?_⟩) ?_ ?_; rotate_left
              ·
               intro w'; go_simp; with_reducible rfl
              rotate_left
              ·
               simp only [Act.put, lT, l0_, lS, i64_w, i32_w]; rfl
              refine done_ (done_of HT_.out (by kernel_rfl)) ?_
              try go_wp2
              go_ret
              exact ⟨by first | rfl | exact congrArg (fun b_ => Ending.returned (Value.bool b_)) HRET.out | (rw [HRET.out]) | (simp [errW_none, errW_some] <;> rfl) | (simp only [← hji62]; first | rfl | (simp [errW_none, errW_some] <;> rfl)) | (simp [*, errW_none, errW_some] <;> rfl), by repeat (first | (with_reducible first | exact HB.out | apply wA | apply wN | apply wD | refine wS ?_ GE247.out | refine wS ?_ GE259.out) | exact HB.out)⟩
             ·
              rw [if_neg c68] at H; have c68b0 : decide (t265 ≤ t251) = false := decide_eq_false c68; clear c68; exact absurd H (by simp)
            ·
             rw [if_neg c66] at H; have c66b0 : (t263 == (wrap64 (t264 + x13_3))) = false := beq_eq_false_iff_ne.mpr c66; have c66b1 : (t263 != (wrap64 (t264 + x13_3))) = true := bne_iff_ne.mpr c66; exact absurd H (by simp)
           ·
            rw [if_neg c63] at H; have c63b0 : (t252 == (ji62)) = false := beq_eq_false_iff_ne.mpr c63; have c63b1 : (t252 != (ji62)) = true := bne_iff_ne.mpr c63; exact absurd H (by simp)
          ·
           rw [if_neg c61] at H; have c61b0 : (t251 == x9_2) = false := beq_eq_false_iff_ne.mpr c61; have c61b1 : (t251 != x9_2) = true := bne_iff_ne.mpr c61; exact absurd H (by simp)
end Go.Proofs.Ytkigiehkckjlhaa.PSums
