/- The Go functions that these laws reach, each as a Lean function with the same answers (a law itself where it answers true), and the proof that the code comes to them; conditions: those of each theorem. Laid by a program of this session over the print. -/
import Derived.Test.YtbaiicnibiogpaaPNodex0
import Derived.Test.YtbaiicnibiogpaaPNodex2
import Derived.Test.YtbaiicnibiogpaaPNodex3
import Derived.Test.YtbaiicnibiogpaaPNodex8
import Derived.Test.YtbaiicnibiogpaaPNodex9
import Derived.Test.YtbaiicnibiogpaaPNodex10
import Derived.Test.YtbaiicnibiogpaaPNodex11
import Derived.Test.YtbaiicnibiogpaaPNodex12
import Derived.Test.YtbaiicnibiogpaaPNodex15
import Derived.Test.YtbaiicnibiogpaaPNodex16
import Derived.Test.YtbaiicnibiogpaaPNodex17
import Derived.Test.YtbaiicnibiogpaaPNodex18
namespace Go.Proofs.Ytbaiicnibiogpaa.PNode
open Go.RowKit Go.Proofs.YtbaiicnibiogpaaW.PrintWords Go.Proofs.YtbaiicnibiogpaaW.PrintLast Go.Proofs.YtbaiicnibiogpaaW.PrintMore
attribute [local go_sem] max2_int min2_int max_two min_two max_three min_three max_four min_four   -- for this text's walks alone
set_option linter.unusedVariables false
set_option linter.unusedSimpArgs false
open Go.Proofs.YtbaiicnibiogpaaW.PrintWords renaming blk_drewN → bN, blk_drew → bD, blk_alloc → bA, below_set → wS, below_alloc → wA, pw_below_drewN → wN, below_drew1 → wD, blk_below → bB, blk_far → bF, blk_cell → bC, blk_frozen → bZ
open List renaming setIfInBounds_toArray → lT, set_cons_zero → l0_, set_cons_succ → lS
abbrev B19_0 : Array Bool := #[false, false, false, false, false, false]
abbrev B19_1 : Array Bool := #[true, false, false, false, false, false]
abbrev B19_2 : Array Bool := #[true, false, true, false, false, false]
abbrev B19_3 : Array Bool := #[true, true, true, false, false, false]
abbrev B19_4 : Array Bool := #[true, true, true, true, false, false]
abbrev B19_5 : Array Bool := #[true, true, true, true, true, false]
abbrev B19_6 : Array Bool := #[true, true, true, true, true, true]
abbrev B19_7 : Array Bool := #[false, false, false, false, false, false, false, false]
abbrev B19_8 : Array Bool := #[true, false, false, false, false, false, false, false]
abbrev B19_9 : Array Bool := #[true, false, false, true, false, false, false, false]
abbrev B19_10 : Array Bool := #[true, true, false, true, false, false, false, false]
abbrev B19_11 : Array Bool := #[true, true, false, true, true, false, false, false]
abbrev B19_12 : Array Bool := #[true, true, true, true, true, false, false, false]
abbrev B19_13 : Array Bool := #[true, true, true, true, true, true, false, false]
abbrev B19_14 : Array Bool := #[true, true, true, true, true, true, true, false]
abbrev B19_15 : Array Bool := #[true, true, true, true, true, true, true, true]
abbrev B19_16 : Array Bool := #[false, false, false, false, false, false, false, false, false]
abbrev B19_17 : Array Bool := #[true, false, false, false, false, false, false, false, false]
abbrev B19_18 : Array Bool := #[true, true, false, false, false, false, false, false, false]
abbrev B19_19 : Array Bool := #[true, true, true, false, false, false, false, false, false]
abbrev B19_20 : Array Bool := #[true, true, true, false, true, false, false, false, false]
abbrev B19_21 : Array Bool := #[true, true, true, false, true, true, false, false, false]
abbrev B19_22 : Array Bool := #[true, true, true, false, true, true, true, false, false]
abbrev B19_23 : Array Bool := #[true, true, true, true, true, true, true, false, false]
abbrev B19_24 : Array Bool := #[true, true, true, true, true, true, true, true, false]
abbrev B19_25 : Array Bool := #[true, true, true, true, true, true, true, true, true]
abbrev B19_26 : Array Bool := #[false, false, false, false, false, false, false, false, false, false, false, false, false, false, false, false, false, false, false, false, false, false, false, false, false, false, false, false, false, false, false, false]
abbrev B19_27 : Array Bool := #[true, false, false, false, false, false, false, false, false, false, false, false, false, false, false, false, false, false, false, false, false, false, false, false, false, false, false, false, false, false, false, false]
abbrev B19_28 : Array Bool := #[true, false, true, false, false, false, false, false, false, false, false, false, false, false, false, false, false, false, false, false, false, false, false, false, false, false, false, false, false, false, false, false]
abbrev B19_29 : Array Bool := #[true, true, true, false, false, false, false, false, false, false, false, false, false, false, false, false, false, false, false, false, false, false, false, false, false, false, false, false, false, false, false, false]
abbrev B19_30 : Array Bool := #[true, true, true, true, false, false, false, false, false, false, false, false, false, false, false, false, false, false, false, false, false, false, false, false, false, false, false, false, false, false, false, false]
abbrev B19_31 : Array Bool := #[true, true, true, true, true, false, false, false, false, false, false, false, false, false, false, false, false, false, false, false, false, false, false, false, false, false, false, false, false, false, false, false]
abbrev B19_32 : Array Bool := #[true, true, true, true, true, true, false, false, false, false, false, false, false, false, false, false, false, false, false, false, false, false, false, false, false, false, false, false, false, false, false, false]
abbrev B19_33 : Array Bool := #[true, true, true, true, true, true, true, false, false, false, false, false, false, false, false, false, false, false, false, false, false, false, false, false, false, false, false, false, false, false, false, false]
abbrev B19_34 : Array Bool := #[true, true, true, true, true, true, true, true, false, false, false, false, false, false, false, false, false, false, false, false, false, false, false, false, false, false, false, false, false, false, false, false]
abbrev B19_35 : Array Bool := #[true, true, true, true, true, true, true, true, false, true, false, false, false, false, false, false, false, false, false, false, false, false, false, false, false, false, false, false, false, false, false, false]
abbrev B19_36 : Array Bool := #[true, true, true, true, true, true, true, true, false, true, true, false, false, false, false, false, false, false, false, false, false, false, false, false, false, false, false, false, false, false, false, false]
abbrev B19_37 : Array Bool := #[true, true, true, true, true, true, true, true, true, true, true, false, false, false, false, false, false, false, false, false, false, false, false, false, false, false, false, false, false, false, false, false]
abbrev B19_38 : Array Bool := #[true, true, true, true, true, true, true, true, true, true, true, true, false, false, false, false, false, false, false, false, false, false, false, false, false, false, false, false, false, false, false, false]
abbrev B19_39 : Array Bool := #[true, true, true, true, true, true, true, true, true, true, true, true, true, false, false, false, false, false, false, false, false, false, false, false, false, false, false, false, false, false, false, false]
abbrev B19_40 : Array Bool := #[true, true, true, true, true, true, true, true, true, true, true, true, true, true, false, false, false, false, false, false, false, false, false, false, false, false, false, false, false, false, false, false]
abbrev B19_41 : Array Bool := #[true, true, true, true, true, true, true, true, true, true, true, true, true, true, true, false, false, false, false, false, false, false, false, false, false, false, false, false, false, false, false, false]
abbrev B19_42 : Array Bool := #[true, true, true, true, true, true, true, true, true, true, true, true, true, true, true, true, false, false, false, false, false, false, false, false, false, false, false, false, false, false, false, false]
abbrev B19_43 : Array Bool := #[true, true, true, true, true, true, true, true, true, true, true, true, true, true, true, true, false, true, false, false, false, false, false, false, false, false, false, false, false, false, false, false]
abbrev B19_44 : Array Bool := #[true, true, true, true, true, true, true, true, true, true, true, true, true, true, true, true, true, true, false, false, false, false, false, false, false, false, false, false, false, false, false, false]
abbrev B19_45 : Array Bool := #[true, true, true, true, true, true, true, true, true, true, true, true, true, true, true, true, true, true, true, false, false, false, false, false, false, false, false, false, false, false, false, false]
abbrev B19_46 : Array Bool := #[true, true, true, true, true, true, true, true, true, true, true, true, true, true, true, true, true, true, true, true, false, false, false, false, false, false, false, false, false, false, false, false]
abbrev B19_47 : Array Bool := #[true, true, true, true, true, true, true, true, true, true, true, true, true, true, true, true, true, true, true, true, true, false, false, false, false, false, false, false, false, false, false, false]
abbrev B19_48 : Array Bool := #[true, true, true, true, true, true, true, true, true, true, true, true, true, true, true, true, true, true, true, true, true, true, false, false, false, false, false, false, false, false, false, false]
abbrev B19_49 : Array Bool := #[true, true, true, true, true, true, true, true, true, true, true, true, true, true, true, true, true, true, true, true, true, true, true, false, false, false, false, false, false, false, false, false]
abbrev B19_50 : Array Bool := #[true, true, true, true, true, true, true, true, true, true, true, true, true, true, true, true, true, true, true, true, true, true, true, false, true, false, false, false, false, false, false, false]
abbrev B19_51 : Array Bool := #[true, true, true, true, true, true, true, true, true, true, true, true, true, true, true, true, true, true, true, true, true, true, true, true, true, false, false, false, false, false, false, false]
abbrev B19_52 : Array Bool := #[true, true, true, true, true, true, true, true, true, true, true, true, true, true, true, true, true, true, true, true, true, true, true, true, true, true, false, false, false, false, false, false]
abbrev B19_53 : Array Bool := #[true, true, true, true, true, true, true, true, true, true, true, true, true, true, true, true, true, true, true, true, true, true, true, true, true, true, true, false, false, false, false, false]
abbrev B19_54 : Array Bool := #[true, true, true, true, true, true, true, true, true, true, true, true, true, true, true, true, true, true, true, true, true, true, true, true, true, true, true, true, false, false, false, false]
abbrev B19_55 : Array Bool := #[true, true, true, true, true, true, true, true, true, true, true, true, true, true, true, true, true, true, true, true, true, true, true, true, true, true, true, true, true, false, false, false]
abbrev B19_56 : Array Bool := #[true, true, true, true, true, true, true, true, true, true, true, true, true, true, true, true, true, true, true, true, true, true, true, true, true, true, true, true, true, true, false, false]
abbrev B19_57 : Array Bool := #[true, true, true, true, true, true, true, true, true, true, true, true, true, true, true, true, true, true, true, true, true, true, true, true, true, true, true, true, true, true, true, false]
abbrev B19_58 : Array Bool := #[true, true, true, true, true, true, true, true, true, true, true, true, true, true, true, true, true, true, true, true, true, true, true, true, true, true, true, true, true, true, true, true]

attribute [local go_sem high] eqA48
/-! ### potsherdlaw14_NodeForms: function 7 -/
def potsherdlaw14_NodeForms.l0 : Nat → Int → List (S48) → List (S48) → Int → Int → Int → Int → Int → List Int → List (S38) → Int → Int → Int → List Int → List (S38) → Option (Bool)
 | 0, _, _, _, _, _, _, _, _, _, _, _, _, _, _, _ => none
 | k + 1, x2, x9, x10, x31, x32, x210000, x210001, x210002, x210003, x210004, x211000, x211001, x211002, x211003, x211004 => if x32 < x31 then (if 0 ≤ x32 then (if x32 < (x9.length : Int) then (if x32 < (x10.length : Int) then (if (!(((rd_T48 x9 x32).f0) == ((rd_T48 x10 x32).f0)) || (!(((rd_T48 x9 x32).f1) == ((rd_T48 x10 x32).f1)))) = true then (some false) else (potsherdlaw14_NodeForms.l0 k x2 x9 x10 x31 (wrap64 (x32 + 1)) x210000 x210001 x210002 x210003 x210004 x211000 x211001 x211002 x211003 x211004)) else (none)) else (none)) else (none)) else ((node_May.f k x210000 x210001 x210002 x210003 x210004).bind fun t222 => ((potsherdref12_MayNode.f k x210000 x210001 x210002 x210003 x210004).bind fun t223 => (if (t222 == t223) = true then ((node_Same.f k x210000 x210001 x210002 x210003 x210004 x211000 x211001 x211002 x211003 x211004).bind fun t224 => ((potsherdref12_SameNode.f k x210000 x210001 x210002 x210003 x210004 x211000 x211001 x211002 x211003 x211004).bind fun t225 => (if (t224 == t225) = true then ((node_Empty.f x2).bind fun bt226 => ((potsherdref12_EmptyNode.f x2).bind fun bt235 => ((potsherdref12_SameNode.f k bt226.1 bt226.2.1 bt226.2.2.1 bt226.2.2.2.1 bt226.2.2.2.2 bt235.1 bt235.2.1 bt235.2.2.1 bt235.2.2.2.1 bt235.2.2.2.2).bind fun t244 => (if t244 = true then ((node_Pages.f k x210000 x210001 x210002 x210003 x210004).bind fun t245 => ((potsherdref12_Pages.f k x210000 x210001 x210002 x210003 x210004).bind fun t246 => (if t245 = t246 then ((potsherdlaw14_awake.f k).bind fun t247 => (some t247)) else (some false)))) else (some false))))) else (some false)))) else (some false))))
def potsherdlaw14_NodeForms.f (k : Nat) (a0_0 : Int) (a0_1 : Int) (a0_2 : Int) (l0_3 : List Int) (l0_4 : List (S38)) (a1_0 : Int) (a1_1 : Int) (a1_2 : Int) (l1_3 : List Int) (l1_4 : List (S38)) (a2 : Int) (a3 : Int) : Option (Bool) := (potsherdlaw14_Light.f k a0_0 a0_1 a0_2 l0_3 l0_4).bind fun t211 => ((potsherdlaw14_Light.f k a1_0 a1_1 a1_2 l1_3 l1_4).bind fun t212 => (if (wrap64 (t211 + t212)) > 0 then ((potsherdlaw14_awake.f k).bind fun t213 => (some t213)) else ((node_Refs.f k a3 a0_0 a0_1 a0_2 l0_3 l0_4).bind fun t214 => ((potsherdref12_NodeRefs.f k a3 a0_0 a0_1 a0_2 l0_3 l0_4).bind fun t217 => (if (t214.length : Int) = (t217.length : Int) then (potsherdlaw14_NodeForms.l0 k a2 t214 t217 (t214.length : Int) 0 a0_0 a0_1 a0_2 l0_3 l0_4 a1_0 a1_1 a1_2 l1_3 l1_4) else (some false))))))
theorem potsherdlaw14_NodeForms.mono_l : ∀ k, (∀ y0 y1 y2 y3 y4 y5 y6 y7 y8 y9 y10 y11 y12 y13 y14, LeO (potsherdlaw14_NodeForms.l0 k y0 y1 y2 y3 y4 y5 y6 y7 y8 y9 y10 y11 y12 y13 y14) (potsherdlaw14_NodeForms.l0 (k + 1) y0 y1 y2 y3 y4 y5 y6 y7 y8 y9 y10 y11 y12 y13 y14))
 | 0 => fun _ _ _ _ _ _ _ _ _ _ _ _ _ _ _ r h => by simp [potsherdlaw14_NodeForms.l0] at h
 | k + 1 => by
  have ih0 := potsherdlaw14_NodeForms.mono_l k
  ·
   intro y0 y1 y2 y3 y4 y5 y6 y7 y8 y9 y10 y11 y12 y13 y14
   unfold potsherdlaw14_NodeForms.l0
   repeat' first
   | (with_reducible exact ih0 _ _ _ _ _ _ _ _ _ _ _ _ _ _ _)
   | (with_reducible exact node_May.mono _ _ _ _ _ _)
   | (with_reducible exact node_Pages.mono _ _ _ _ _ _)
   | (with_reducible exact node_Refs.mono _ _ _ _ _ _ _)
   | (with_reducible exact node_Same.mono _ _ _ _ _ _ _ _ _ _ _)
   | (with_reducible exact potsherdlaw14_Light.mono _ _ _ _ _ _)
   | (with_reducible exact potsherdlaw14_awake.mono _)
   | (with_reducible exact potsherdref12_MayNode.mono _ _ _ _ _ _)
   | (with_reducible exact potsherdref12_NodeRefs.mono _ _ _ _ _ _ _)
   | (with_reducible exact potsherdref12_Pages.mono _ _ _ _ _ _)
   | (with_reducible exact potsherdref12_SameNode.mono _ _ _ _ _ _ _ _ _ _ _)
   | (with_reducible exact LeO.refl _)
   | (with_reducible exact LeO.none _)
   | (with_reducible refine LeO.ite ?_ ?_)
   | (with_reducible refine LeO.bind ?_ (fun _ => ?_))
   | exact ih0 _ _ _ _ _ _ _ _ _ _ _ _ _ _ _
   | exact node_May.mono _ _ _ _ _ _
   | exact node_Pages.mono _ _ _ _ _ _
   | exact node_Refs.mono _ _ _ _ _ _ _
   | exact node_Same.mono _ _ _ _ _ _ _ _ _ _ _
   | exact potsherdlaw14_Light.mono _ _ _ _ _ _
   | exact potsherdlaw14_awake.mono _
   | exact potsherdref12_MayNode.mono _ _ _ _ _ _
   | exact potsherdref12_NodeRefs.mono _ _ _ _ _ _ _
   | exact potsherdref12_Pages.mono _ _ _ _ _ _
   | exact potsherdref12_SameNode.mono _ _ _ _ _ _ _ _ _ _ _
   | exact LeO.none _
   | refine LeO.ite ?_ ?_
   | refine LeO.bind ?_ (fun _ => ?_)
theorem potsherdlaw14_NodeForms.mono : ∀ a0 a1 a2 a3 a4 a5 a6 a7 a8 a9 a10 a11 k, LeO (potsherdlaw14_NodeForms.f k a0 a1 a2 a3 a4 a5 a6 a7 a8 a9 a10 a11) (potsherdlaw14_NodeForms.f (k + 1) a0 a1 a2 a3 a4 a5 a6 a7 a8 a9 a10 a11) := by
 intro a0 a1 a2 a3 a4 a5 a6 a7 a8 a9 a10 a11 k; have ih0 := potsherdlaw14_NodeForms.mono_l k
 unfold potsherdlaw14_NodeForms.f
 repeat' first
  | (with_reducible exact ih0 _ _ _ _ _ _ _ _ _ _ _ _ _ _ _)
  | (with_reducible exact node_May.mono _ _ _ _ _ _)
  | (with_reducible exact node_Pages.mono _ _ _ _ _ _)
  | (with_reducible exact node_Refs.mono _ _ _ _ _ _ _)
  | (with_reducible exact node_Same.mono _ _ _ _ _ _ _ _ _ _ _)
  | (with_reducible exact potsherdlaw14_Light.mono _ _ _ _ _ _)
  | (with_reducible exact potsherdlaw14_awake.mono _)
  | (with_reducible exact potsherdref12_MayNode.mono _ _ _ _ _ _)
  | (with_reducible exact potsherdref12_NodeRefs.mono _ _ _ _ _ _ _)
  | (with_reducible exact potsherdref12_Pages.mono _ _ _ _ _ _)
  | (with_reducible exact potsherdref12_SameNode.mono _ _ _ _ _ _ _ _ _ _ _)
  | (with_reducible exact LeO.refl _)
  | (with_reducible exact LeO.none _)
  | (with_reducible refine LeO.ite ?_ ?_)
  | (with_reducible refine LeO.bind ?_ (fun _ => ?_))
  | exact ih0 _ _ _ _ _ _ _ _ _ _ _ _ _ _ _
  | exact node_May.mono _ _ _ _ _ _
  | exact node_Pages.mono _ _ _ _ _ _
  | exact node_Refs.mono _ _ _ _ _ _ _
  | exact node_Same.mono _ _ _ _ _ _ _ _ _ _ _
  | exact potsherdlaw14_Light.mono _ _ _ _ _ _
  | exact potsherdlaw14_awake.mono _
  | exact potsherdref12_MayNode.mono _ _ _ _ _ _
  | exact potsherdref12_NodeRefs.mono _ _ _ _ _ _ _
  | exact potsherdref12_Pages.mono _ _ _ _ _ _
  | exact potsherdref12_SameNode.mono _ _ _ _ _ _ _ _ _ _ _
  | exact LeO.none _
  | refine LeO.ite ?_ ?_
  | refine LeO.bind ?_ (fun _ => ?_)
def potsherdlaw14_NodeForms.T3 : Bool × List (List Nat × List Nat) := (true, [([], []), ([], []), ([0, 1], [0, 1]), ([], []), ([], []), ([3, 4, 2], [3, 4]), ([2, 5, 0, 1, 2], [2]), ([5, 6, 0, 1, 2, 3, 4, 5, 6], [5])])
def potsherdlaw14_NodeForms.B3 : List Nat := [0, 0, 3, 0, 0, 31, 63, 127]
theorem potsherdlaw14_NodeForms.tab3 : rtab .any (opsOf Try.f7 3) = potsherdlaw14_NodeForms.T3 := by kernel_rfl
theorem potsherdlaw14_NodeForms.bits3 : waitsOk potsherdlaw14_NodeForms.T3.2 potsherdlaw14_NodeForms.B3 = true := by kernel_rfl
def potsherdlaw14_NodeForms.T9 : Bool × List (List Nat × List Nat) := (true, [([], []), ([], []), ([0, 1], [0, 1]), ([2], [2]), ([], []), ([], []), ([4, 5], [4, 5]), ([6], [6]), ([3, 7], [3, 7])])
def potsherdlaw14_NodeForms.B9 : List Nat := [0, 0, 3, 7, 0, 0, 48, 112, 255]
theorem potsherdlaw14_NodeForms.tab9 : rtab .any (opsOf Try.f7 9) = potsherdlaw14_NodeForms.T9 := by kernel_rfl
theorem potsherdlaw14_NodeForms.bits9 : waitsOk potsherdlaw14_NodeForms.T9.2 potsherdlaw14_NodeForms.B9 = true := by kernel_rfl
def potsherdlaw14_NodeForms.T12 : Bool × List (List Nat × List Nat) := (true, [([], []), ([0], [0]), ([], []), ([2, 1], [2]), ([1, 3], [1, 3]), ([4, 3], [4]), ([5], [5]), ([5], [5]), ([6, 7, 5, 5], [5, 6, 7]), ([5], [5]), ([5], [5]), ([9, 10, 8, 5], [5, 9, 10]), ([8, 11, 5], [5, 8, 11]), ([5, 12], [5, 12]), ([13, 11], [13]), ([14], [14]), ([15, 14, 14], [14, 15]), ([14], [14]), ([17, 16, 14], [14, 17]), ([16, 18, 18, 14], [14, 16, 18]), ([14, 19], [14, 19]), ([20, 19], [20]), ([21], [21]), ([22, 21, 21], [21, 22]), ([21], [21]), ([24, 23, 21], [21, 24]), ([23, 25, 21], [21, 23, 25]), ([21, 26], [21, 26]), ([27, 25], [27]), ([28, 28], [28]), ([28, 29], [28, 29]), ([30, 29, 0, 1, 2, 3, 4, 5, 6, 7, 8, 9, 10, 11, 12, 13, 14, 15, 16, 17, 18, 19, 20, 21, 22, 23, 24, 25, 26, 27, 28, 29, 30], [30])])
def potsherdlaw14_NodeForms.B12 : List Nat := [0, 1, 0, 7, 15, 31, 63, 63, 255, 63, 63, 2047, 4095, 8191, 16383, 32767, 65535, 32767, 262143, 524287, 1048575, 2097151, 4194303, 8388607, 4194303, 33554431, 67108863, 134217727, 268435455, 536870911, 1073741823, 2147483647]
theorem potsherdlaw14_NodeForms.tab12 : rtab .any (opsOf Try.f7 12) = potsherdlaw14_NodeForms.T12 := by kernel_rfl
theorem potsherdlaw14_NodeForms.bits12 : waitsOk potsherdlaw14_NodeForms.T12.2 potsherdlaw14_NodeForms.B12 = true := by kernel_rfl
set_option maxHeartbeats 8000000 in
set_option maxRecDepth 100000 in
theorem potsherdlaw14_NodeForms.calls (k : Nat) (a0_0 : Int) (a0_1 : Int) (a0_2 : Int) (A0_3 : Option Addr) (c0_3 : Nat) (l0_3 : List Int) (A0_4 : Option Addr) (c0_4 : Nat) (l0_4 : List (S38)) (a1_0 : Int) (a1_1 : Int) (a1_2 : Int) (A1_3 : Option Addr) (c1_3 : Nat) (l1_3 : List Int) (A1_4 : Option Addr) (c1_4 : Nat) (l1_4 : List (S38)) (a2 : Int) (a3 : Int) (w : World) (hr0_3 : Kd.C (Kd.int .i64) w A0_3 l0_3.length l0_3) (hc0_3 : l0_3.length ≤ c0_3) (hr0_4 : Kd.C k38 w A0_4 l0_4.length l0_4) (hc0_4 : l0_4.length ≤ c0_4) (hr1_3 : Kd.C (Kd.int .i64) w A1_3 l1_3.length l1_3) (hc1_3 : l1_3.length ≤ c1_3) (hr1_4 : Kd.C k38 w A1_4 l1_4.length l1_4) (hc1_4 : l1_4.length ≤ c1_4) (h : potsherdlaw14_NodeForms.f k a0_0 a0_1 a0_2 l0_3 l0_4 a1_0 a1_1 a1_2 l1_3 l1_4 a2 a3 = some true) :
 Calls Try.prog 7 #[.agg #[.int .i64 a0_0, .int .i64 a0_1, .int .i64 a0_2, .slice A0_3 l0_3.length c0_3, .slice A0_4 l0_4.length c0_4], .agg #[.int .i64 a1_0, .int .i64 a1_1, .int .i64 a1_2, .slice A1_3 l1_3.length c1_3, .slice A1_4 l1_4.length c1_4], .int .i64 a2, .int .i64 a3] w fun e w' => e = .returned (.bool true) ∧ Below w.heap.size w w' := by
 have hu43 := Try.underlying43; have hu48 := Try.underlying48; have HR0_3 := Aside0.mk hr0_3; have HC0_3 := Aside0.mk hc0_3; clear hr0_3 hc0_3; have HR0_4 := Aside0.mk hr0_4; have HC0_4 := Aside0.mk hc0_4; clear hr0_4 hc0_4; have HR1_3 := Aside0.mk hr1_3; have HC1_3 := Aside0.mk hc1_3; clear hr1_3 hc1_3; have HR1_4 := Aside0.mk hr1_4; have HC1_4 := Aside0.mk hc1_4; clear hr1_4 hc1_4; have HB := Aside0.mk (Below.refl w.heap.size w); have H : ((potsherdlaw14_Light.f k a0_0 a0_1 a0_2 l0_3 l0_4).bind fun t211 => ((potsherdlaw14_Light.f k a1_0 a1_1 a1_2 l1_3 l1_4).bind fun t212 => (if (wrap64 (t211 + t212)) > 0 then ((potsherdlaw14_awake.f k).bind fun t213 => (some t213)) else ((node_Refs.f k a3 a0_0 a0_1 a0_2 l0_3 l0_4).bind fun t214 => ((potsherdref12_NodeRefs.f k a3 a0_0 a0_1 a0_2 l0_3 l0_4).bind fun t217 => (if (t214.length : Int) = (t217.length : Int) then (potsherdlaw14_NodeForms.l0 k a2 t214 t217 (t214.length : Int) 0 a0_0 a0_1 a0_2 l0_3 l0_4 a1_0 a1_1 a1_2 l1_3 l1_4) else (some false))))))) = some true := h; clear h; replace H := Option.bind_eq_some_iff.mp H; obtain ⟨t211, A50, H⟩ := H; replace H : ((potsherdlaw14_Light.f k a1_0 a1_1 a1_2 l1_3 l1_4).bind fun t212 => (if (wrap64 (t211 + t212)) > 0 then ((potsherdlaw14_awake.f k).bind fun t213 => (some t213)) else ((node_Refs.f k a3 a0_0 a0_1 a0_2 l0_3 l0_4).bind fun t214 => ((potsherdref12_NodeRefs.f k a3 a0_0 a0_1 a0_2 l0_3 l0_4).bind fun t217 => (if (t214.length : Int) = (t217.length : Int) then (potsherdlaw14_NodeForms.l0 k a2 t214 t217 (t214.length : Int) 0 a0_0 a0_1 a0_2 l0_3 l0_4 a1_0 a1_1 a1_2 l1_3 l1_4) else (some false)))))) = some true := H; have A5 := Aside0.mk A50; clear A50; replace H := Option.bind_eq_some_iff.mp H; obtain ⟨t212, A60, H⟩ := H; replace H : (if (wrap64 (t211 + t212)) > 0 then ((potsherdlaw14_awake.f k).bind fun t213 => (some t213)) else ((node_Refs.f k a3 a0_0 a0_1 a0_2 l0_3 l0_4).bind fun t214 => ((potsherdref12_NodeRefs.f k a3 a0_0 a0_1 a0_2 l0_3 l0_4).bind fun t217 => (if (t214.length : Int) = (t217.length : Int) then (potsherdlaw14_NodeForms.l0 k a2 t214 t217 (t214.length : Int) 0 a0_0 a0_1 a0_2 l0_3 l0_4 a1_0 a1_1 a1_2 l1_3 l1_4) else (some false))))) = some true := H; have A6 := Aside0.mk A60; clear A60
 by_cases c7 : (wrap64 (t211 + t212)) > 0
 ·
  rw [if_pos c7] at H; have c7b0 : decide (0 < (wrap64 (t211 + t212))) = true := decide_eq_true c7; clear c7; replace H := Option.bind_eq_some_iff.mp H; obtain ⟨t213, A80, H⟩ := H; replace H : (some t213) = some true := H; have A8 := Aside0.mk A80; clear A80; have HRET := Aside0.mk (Option.some.inj H); clear H
  go_enter Try.func7, Try.ntmps7
  try go_wp2_with (first | ((with_reducible refine gate_dst (N := 4) rfl ?_); refine box_event ?hg (N := 4) ?hd (cs := #[.int .i64 a0_0, .int .i64 a0_1, .int .i64 a0_2, .slice A0_3 l0_3.length c0_3, .slice A0_4 l0_4.length c0_4]) (t := 43) ?hr ?_; (case hd => rfl); (case hg => rfl); (case hr => first | (go_simp; done) | (go_simp; rfl)); intro gb209 hg w9 hbox hb; have n0_ := Aside0.mk (below_step (by repeat (first | (with_reducible first | exact HB.out | apply wA | apply wN | apply wD) | exact HB.out)) hb); have n1_ := Aside0.mk (hbox); have n2_ := Aside0.mk ((by rw [hg]; exact (below_size (by repeat (first | (with_reducible first | exact HB.out | apply wA | apply wN | apply wD) | exact HB.out))) : w.heap.size ≤ gb209)); have n3_ := Aside0.mk ((by rw [hg]; exact (below_size (by repeat (first | (with_reducible first | exact HB.out | apply wA | apply wN | apply wD) | exact HB.out))) : w.heap.size ≤ gb209)); clear HB; have HB := n0_; have BK209 := n1_; have GW209 := n2_; have GE209 := n3_; clear n0_ n1_ n2_ n3_; clear hb hbox hg) | ((with_reducible refine gate_dst (N := 5) rfl ?_); refine box_event ?hg (N := 5) ?hd (cs := #[.int .i64 a1_0, .int .i64 a1_1, .int .i64 a1_2, .slice A1_3 l1_3.length c1_3, .slice A1_4 l1_4.length c1_4]) (t := 43) ?hr ?_; (case hd => rfl); (case hg => rfl); (case hr => first | (go_simp; done) | (go_simp; rfl)); intro gb210 hg w10 hbox hb; have n0_ := Aside0.mk (bB (g := gb209) (o := .cells #[.int .i64 a0_0, .int .i64 a0_1, .int .i64 a0_2, .slice A0_3 l0_3.length c0_3, .slice A0_4 l0_4.length c0_4] 43 (0, 0)) (by (with_reducible repeat (first | refine bN ?_ _ | refine bD ?_ | refine bA ?_ _)); exact BK209.out) hb); have n1_ := Aside0.mk (below_step (by repeat (first | (with_reducible first | exact HB.out | apply wA | apply wN | apply wD | refine wS ?_ GE209.out) | exact HB.out)) hb); have n2_ := Aside0.mk (hbox); have n3_ := Aside0.mk ((by rw [hg]; exact (below_size (by repeat (first | (with_reducible first | exact HB.out | apply wA | apply wN | apply wD | refine wS ?_ GE209.out) | exact HB.out))) : w.heap.size ≤ gb210)); have n4_ := Aside0.mk ((by rw [hg]; exact (below_size (by repeat (first | (with_reducible first | exact HB.out | apply wA | apply wN | apply wD | refine wS ?_ GE209.out) | exact HB.out))) : w.heap.size ≤ gb210)); have n5_ := Aside0.mk ((by rw [hg]; exact Nat.ne_of_lt (blk_lt (g := gb209) (o := .cells #[.int .i64 a0_0, .int .i64 a0_1, .int .i64 a0_2, .slice A0_3 l0_3.length c0_3, .slice A0_4 l0_4.length c0_4] 43 (0, 0)) (by (with_reducible repeat (first | refine bN ?_ _ | refine bD ?_ | refine bA ?_ _)); exact BK209.out)) : gb209 ≠ gb210)); have n6_ := Aside0.mk ((by rw [hg]; exact Nat.ne_of_gt (blk_lt (g := gb209) (o := .cells #[.int .i64 a0_0, .int .i64 a0_1, .int .i64 a0_2, .slice A0_3 l0_3.length c0_3, .slice A0_4 l0_4.length c0_4] 43 (0, 0)) (by (with_reducible repeat (first | refine bN ?_ _ | refine bD ?_ | refine bA ?_ _)); exact BK209.out)) : gb210 ≠ gb209)); clear BK209; clear HB; have BK209 := n0_; have HB := n1_; have BK210 := n2_; have GW210 := n3_; have GE210 := n4_; have NB209_210 := n5_; have NB210_209 := n6_; clear n0_ n1_ n2_ n3_ n4_ n5_ n6_; clear hb hbox hg))
  have n0_ := Aside0.mk (bD BK209.out); have n1_ := Aside0.mk (bD BK210.out); have n2_ := Aside0.mk (wD HB.out); clear BK209; clear BK210; clear HB; have BK209 := n0_; have BK210 := n1_; have HB := n2_; clear n0_ n1_ n2_; refine start_ (n := 6) (S := fun w' => w'.cell? ⟨gb209, 0, none⟩ = some (.int .i64 a0_0) ∧ w'.cell? ⟨gb209, 1, none⟩ = some (.int .i64 a0_1) ∧ w'.cell? ⟨gb209, 2, none⟩ = some (.int .i64 a0_2) ∧ w'.cell? ⟨gb209, 3, none⟩ = some (.slice A0_3 l0_3.length c0_3) ∧ w'.cell? ⟨gb209, 4, none⟩ = some (.slice A0_4 l0_4.length c0_4) ∧ w'.cell? ⟨gb210, 0, none⟩ = some (.int .i64 a1_0) ∧ w'.cell? ⟨gb210, 1, none⟩ = some (.int .i64 a1_1) ∧ w'.cell? ⟨gb210, 2, none⟩ = some (.int .i64 a1_2) ∧ w'.cell? ⟨gb210, 3, none⟩ = some (.slice A1_3 l1_3.length c1_3) ∧ w'.cell? ⟨gb210, 4, none⟩ = some (.slice A1_4 l1_4.length c1_4)) (ds := []) B19_0 (by kernel_rfl) rfl rfl ⟨(bC BK209.out 0).trans rfl, (bC BK209.out 1).trans rfl, (bC BK209.out 2).trans rfl, (bC BK209.out 3).trans rfl, (bC BK209.out 4).trans rfl, (bC BK210.out 0).trans rfl, (bC BK210.out 1).trans rfl, (bC BK210.out 2).trans rfl, (bC BK210.out 3).trans rfl, (bC BK210.out 4).trans rfl⟩ (fun hHeld => ?_); generalize w10.drew = w11 at BK209 BK210 HB hHeld ⊢; refine take_ (i := 0) (N := some 12) (v := ?_) (a' := ?_) B19_1 rfl rfl (by kernel_rfl) (fun _ _ _ h => h) (Or.inl ⟨by rfl, ?_⟩) hHeld ?_ ?_; rotate_left
  ·
   rintro w' ⟨s0, s1, s2, s3, s4, s5, s6, s7, s8, s9⟩; go_simp; with_reducible rfl
  rotate_left
  ·
   simp only [Act.put, lT, l0_, lS, i64_w, i32_w]; rfl
  refine take_ (i := 2) (N := some 14) (v := ?_) (a' := ?_) B19_2 rfl rfl (by kernel_rfl) (fun _ _ _ h => h) (Or.inl ⟨by rfl, ?_⟩) hHeld ?_ ?_; rotate_left
  ·
   rintro w' ⟨s0, s1, s2, s3, s4, s5, s6, s7, s8, s9⟩; go_simp; with_reducible rfl
  rotate_left
  ·
   simp only [Act.put, lT, l0_, lS, i64_w, i32_w]; rfl
  refine one_ (i := 1) (N := some 13) B19_3 rfl rfl (by kernel_rfl) (by decide) (fun K hK => ?_); refine goes_ Try.func25 (by kernel_rfl) rfl #[.agg #[.int .i64 a0_0, .int .i64 a0_1, .int .i64 a0_2, .slice A0_3 l0_3.length c0_3, .slice A0_4 l0_4.length c0_4]] (by rfl) rfl rfl (by (try simp only [List.map_toArray, List.map_cons, List.map_nil]); first | done | rfl | (simp only [List.length_drop, List.length_take]; rfl)) ?_
  with_reducible refine (potsherdlaw14_Light.calls k a0_0 a0_1 a0_2 _ _ l0_3 _ _ l0_4 t211 _ ?side1 ?side2 ?side3 ?side4 A5.out).mono ?_
  (case side1 => repeat (first | exact (Kd.C_below HR0_3.out HB.out) | (with_reducible refine Kd.C_alloc ?_ _) | (with_reducible refine Kd.C_drewN ?_ _) | (with_reducible refine Kd.C_drew ?_)))
  (case side2 => exact HC0_3.out)
  (case side3 => repeat (first | exact (Kd.C_below HR0_4.out HB.out) | (with_reducible refine Kd.C_alloc ?_ _) | (with_reducible refine Kd.C_drewN ?_ _) | (with_reducible refine Kd.C_drew ?_)))
  (case side4 => exact HC0_4.out)
  rintro e w12 ⟨rfl, hb⟩; refine ⟨_, rfl, ?_⟩; have n0_ := Aside0.mk (bB (g := gb209) (o := .cells #[.int .i64 a0_0, .int .i64 a0_1, .int .i64 a0_2, .slice A0_3 l0_3.length c0_3, .slice A0_4 l0_4.length c0_4] 43 (0, 0)) (by (with_reducible repeat (first | refine bN ?_ _ | refine bD ?_ | refine bA ?_ _)); exact BK209.out) hb)
  have n1_ := Aside0.mk (bB (g := gb210) (o := .cells #[.int .i64 a1_0, .int .i64 a1_1, .int .i64 a1_2, .slice A1_3 l1_3.length c1_3, .slice A1_4 l1_4.length c1_4] 43 (0, 0)) (by (with_reducible repeat (first | refine bN ?_ _ | refine bD ?_ | refine bA ?_ _)); exact BK210.out) hb)
  have n2_ := Aside0.mk (below_step (by repeat (first | (with_reducible first | exact HB.out | apply wA | apply wN | apply wD | refine wS ?_ GE209.out | refine wS ?_ GE210.out) | exact HB.out)) hb); clear BK209; clear BK210; clear HB; have BK209 := n0_; have BK210 := n1_; have HB := n2_; clear n0_ n1_ n2_
  (try clear hb)
  (try clear hb2)
  (try clear hk)
  (try clear hi)
  refine hK.out _ _ ⟨(bC BK209.out 0).trans rfl, (bC BK209.out 1).trans rfl, (bC BK209.out 2).trans rfl, (bC BK209.out 3).trans rfl, (bC BK209.out 4).trans rfl, (bC BK210.out 0).trans rfl, (bC BK210.out 1).trans rfl, (bC BK210.out 2).trans rfl, (bC BK210.out 3).trans rfl, (bC BK210.out 4).trans rfl⟩ (fun hHeld => ?_); clear hK K; refine norm_ (a' := ?_) ?_ ?_; rotate_left
  ·
   show Act.put _ (some 13) _ = _
   simp only [Act.put, lT, l0_, lS, i64_w, i32_w]; rfl
  refine one_ (i := 3) (N := some 15) B19_4 rfl rfl (by kernel_rfl) (by decide) (fun K hK => ?_); refine goes_ Try.func25 (by kernel_rfl) rfl #[.agg #[.int .i64 a1_0, .int .i64 a1_1, .int .i64 a1_2, .slice A1_3 l1_3.length c1_3, .slice A1_4 l1_4.length c1_4]] (by rfl) rfl rfl (by (try simp only [List.map_toArray, List.map_cons, List.map_nil]); first | done | rfl | (simp only [List.length_drop, List.length_take]; rfl)) ?_
  with_reducible refine (potsherdlaw14_Light.calls k a1_0 a1_1 a1_2 _ _ l1_3 _ _ l1_4 t212 _ ?side1 ?side2 ?side3 ?side4 A6.out).mono ?_
  (case side1 => repeat (first | exact (Kd.C_below HR1_3.out HB.out) | (with_reducible refine Kd.C_alloc ?_ _) | (with_reducible refine Kd.C_drewN ?_ _) | (with_reducible refine Kd.C_drew ?_)))
  (case side2 => exact HC1_3.out)
  (case side3 => repeat (first | exact (Kd.C_below HR1_4.out HB.out) | (with_reducible refine Kd.C_alloc ?_ _) | (with_reducible refine Kd.C_drewN ?_ _) | (with_reducible refine Kd.C_drew ?_)))
  (case side4 => exact HC1_4.out)
  rintro e w13 ⟨rfl, hb⟩; refine ⟨_, rfl, ?_⟩; have n0_ := Aside0.mk (bB (g := gb209) (o := .cells #[.int .i64 a0_0, .int .i64 a0_1, .int .i64 a0_2, .slice A0_3 l0_3.length c0_3, .slice A0_4 l0_4.length c0_4] 43 (0, 0)) (by (with_reducible repeat (first | refine bN ?_ _ | refine bD ?_ | refine bA ?_ _)); exact BK209.out) hb)
  have n1_ := Aside0.mk (bB (g := gb210) (o := .cells #[.int .i64 a1_0, .int .i64 a1_1, .int .i64 a1_2, .slice A1_3 l1_3.length c1_3, .slice A1_4 l1_4.length c1_4] 43 (0, 0)) (by (with_reducible repeat (first | refine bN ?_ _ | refine bD ?_ | refine bA ?_ _)); exact BK210.out) hb)
  have n2_ := Aside0.mk (below_step (by repeat (first | (with_reducible first | exact HB.out | apply wA | apply wN | apply wD | refine wS ?_ GE209.out | refine wS ?_ GE210.out) | exact HB.out)) hb); clear BK209; clear BK210; clear HB; have BK209 := n0_; have BK210 := n1_; have HB := n2_; clear n0_ n1_ n2_
  (try clear hb)
  (try clear hb2)
  (try clear hk)
  (try clear hi)
  refine hK.out _ _ ⟨(bC BK209.out 0).trans rfl, (bC BK209.out 1).trans rfl, (bC BK209.out 2).trans rfl, (bC BK209.out 3).trans rfl, (bC BK209.out 4).trans rfl, (bC BK210.out 0).trans rfl, (bC BK210.out 1).trans rfl, (bC BK210.out 2).trans rfl, (bC BK210.out 3).trans rfl, (bC BK210.out 4).trans rfl⟩ (fun hHeld => ?_); clear hK K; refine norm_ (a' := ?_) ?_ ?_; rotate_left
  ·
   show Act.put _ (some 15) _ = _
   simp only [Act.put, lT, l0_, lS, i64_w, i32_w]; rfl
  refine pure_ (i := 4) (N := some 16) (v := ?_) (a' := ?_) B19_5 rfl rfl (by kernel_rfl) (fun _ _ _ h => h) (Or.inl ⟨by rfl, ?_⟩) ?_ ?_; rotate_left
  ·
   intro w'; go_simp; with_reducible rfl
  rotate_left
  ·
   simp only [Act.put, lT, l0_, lS, i64_w, i32_w]; rfl
  refine pure_ (i := 5) (N := some 17) (v := ?_) (a' := ?_) B19_6 rfl rfl (by kernel_rfl) (fun _ _ _ h => h) (Or.inl ⟨by rfl, ?_⟩) ?_ ?_; rotate_left
  ·
   intro w'; go_simp; with_reducible rfl
  rotate_left
  ·
   simp only [Act.put, lT, l0_, lS, i64_w, i32_w]; rfl
  refine done_ (by kernel_rfl) ?_
  try go_wp2_with (first | ((with_reducible refine gate_callee (f := 26) rfl ?_); refine goesL_ (some 18) rfl rfl Try.func26 (by kernel_rfl) rfl #[] rfl (by (try simp only [List.map_toArray, List.map_cons, List.map_nil]); first | done | rfl | (simp only [List.length_drop, List.length_take]; rfl)) ?_; (with_reducible refine (potsherdlaw14_awake.calls k  t213 _ A8.out).mono ?_); rintro e w14 ⟨rfl, hb⟩; refine ⟨_, rfl, ?_⟩; have n0_ := Aside0.mk (bB (g := gb209) (o := .cells #[.int .i64 a0_0, .int .i64 a0_1, .int .i64 a0_2, .slice A0_3 l0_3.length c0_3, .slice A0_4 l0_4.length c0_4] 43 (0, 0)) (by (with_reducible repeat (first | refine bN ?_ _ | refine bD ?_ | refine bA ?_ _)); exact BK209.out) hb); have n1_ := Aside0.mk (bB (g := gb210) (o := .cells #[.int .i64 a1_0, .int .i64 a1_1, .int .i64 a1_2, .slice A1_3 l1_3.length c1_3, .slice A1_4 l1_4.length c1_4] 43 (0, 0)) (by (with_reducible repeat (first | refine bN ?_ _ | refine bD ?_ | refine bA ?_ _)); exact BK210.out) hb); have n2_ := Aside0.mk (below_step (by repeat (first | (with_reducible first | exact HB.out | apply wA | apply wN | apply wD | refine wS ?_ GE209.out | refine wS ?_ GE210.out) | exact HB.out)) hb); clear BK209; clear BK210; clear HB; have BK209 := n0_; have BK210 := n1_; have HB := n2_; clear n0_ n1_ n2_; (try clear hb); (try clear hb2); (try clear hk); (try clear hi)))
  go_ret
  exact ⟨by first | rfl | exact congrArg (fun b_ => Ending.returned (Value.bool b_)) HRET.out | (rw [HRET.out]) | (simp [errW_none, errW_some] <;> rfl) | (simp [*, errW_none, errW_some] <;> rfl), by repeat (first | (with_reducible first | exact HB.out | apply wA | apply wN | apply wD | refine wS ?_ GE209.out | refine wS ?_ GE210.out) | exact HB.out)⟩
 ·
  rw [if_neg c7] at H; have c7b0 : decide (0 < (wrap64 (t211 + t212))) = false := decide_eq_false c7; clear c7; replace H := Option.bind_eq_some_iff.mp H; obtain ⟨t214, A150, H⟩ := H; replace H : ((potsherdref12_NodeRefs.f k a3 a0_0 a0_1 a0_2 l0_3 l0_4).bind fun t217 => (if (t214.length : Int) = (t217.length : Int) then (potsherdlaw14_NodeForms.l0 k a2 t214 t217 (t214.length : Int) 0 a0_0 a0_1 a0_2 l0_3 l0_4 a1_0 a1_1 a1_2 l1_3 l1_4) else (some false))) = some true := H; have A15 := Aside0.mk A150; clear A150; replace H := Option.bind_eq_some_iff.mp H; obtain ⟨t217, A160, H⟩ := H; replace H : (if (t214.length : Int) = (t217.length : Int) then (potsherdlaw14_NodeForms.l0 k a2 t214 t217 (t214.length : Int) 0 a0_0 a0_1 a0_2 l0_3 l0_4 a1_0 a1_1 a1_2 l1_3 l1_4) else (some false)) = some true := H; have A16 := Aside0.mk A160; clear A160
  by_cases c17 : (t214.length : Int) = (t217.length : Int)
  ·
   rw [if_pos c17] at H; have c17b0 : ((t214.length : Int) == (t217.length : Int)) = true := beq_iff_eq.mpr c17; have c17b1 : ((t214.length : Int) != (t217.length : Int)) = false := bne_eq_false_iff_eq.mpr c17
   have c17b2 : (t214.length == t217.length) = true := by first | simpa using c17 | (simp at c17 ⊢; omega)
   clear c17; have H' := Aside0.mk H; clear H
   go_enter Try.func7, Try.ntmps7
   try go_wp2_with (first | ((with_reducible refine gate_dst (N := 4) rfl ?_); refine box_event ?hg (N := 4) ?hd (cs := #[.int .i64 a0_0, .int .i64 a0_1, .int .i64 a0_2, .slice A0_3 l0_3.length c0_3, .slice A0_4 l0_4.length c0_4]) (t := 43) ?hr ?_; (case hd => rfl); (case hg => rfl); (case hr => first | (go_simp; done) | (go_simp; rfl)); intro gb209 hg w18 hbox hb; have n0_ := Aside0.mk (below_step (by repeat (first | (with_reducible first | exact HB.out | apply wA | apply wN | apply wD) | exact HB.out)) hb); have n1_ := Aside0.mk (hbox); have n2_ := Aside0.mk ((by rw [hg]; exact (below_size (by repeat (first | (with_reducible first | exact HB.out | apply wA | apply wN | apply wD) | exact HB.out))) : w.heap.size ≤ gb209)); have n3_ := Aside0.mk ((by rw [hg]; exact (below_size (by repeat (first | (with_reducible first | exact HB.out | apply wA | apply wN | apply wD) | exact HB.out))) : w.heap.size ≤ gb209)); clear HB; have HB := n0_; have BK209 := n1_; have GW209 := n2_; have GE209 := n3_; clear n0_ n1_ n2_ n3_; clear hb hbox hg) | ((with_reducible refine gate_dst (N := 5) rfl ?_); refine box_event ?hg (N := 5) ?hd (cs := #[.int .i64 a1_0, .int .i64 a1_1, .int .i64 a1_2, .slice A1_3 l1_3.length c1_3, .slice A1_4 l1_4.length c1_4]) (t := 43) ?hr ?_; (case hd => rfl); (case hg => rfl); (case hr => first | (go_simp; done) | (go_simp; rfl)); intro gb210 hg w19 hbox hb; have n0_ := Aside0.mk (bB (g := gb209) (o := .cells #[.int .i64 a0_0, .int .i64 a0_1, .int .i64 a0_2, .slice A0_3 l0_3.length c0_3, .slice A0_4 l0_4.length c0_4] 43 (0, 0)) (by (with_reducible repeat (first | refine bN ?_ _ | refine bD ?_ | refine bA ?_ _)); exact BK209.out) hb); have n1_ := Aside0.mk (below_step (by repeat (first | (with_reducible first | exact HB.out | apply wA | apply wN | apply wD | refine wS ?_ GE209.out) | exact HB.out)) hb); have n2_ := Aside0.mk (hbox); have n3_ := Aside0.mk ((by rw [hg]; exact (below_size (by repeat (first | (with_reducible first | exact HB.out | apply wA | apply wN | apply wD | refine wS ?_ GE209.out) | exact HB.out))) : w.heap.size ≤ gb210)); have n4_ := Aside0.mk ((by rw [hg]; exact (below_size (by repeat (first | (with_reducible first | exact HB.out | apply wA | apply wN | apply wD | refine wS ?_ GE209.out) | exact HB.out))) : w.heap.size ≤ gb210)); have n5_ := Aside0.mk ((by rw [hg]; exact Nat.ne_of_lt (blk_lt (g := gb209) (o := .cells #[.int .i64 a0_0, .int .i64 a0_1, .int .i64 a0_2, .slice A0_3 l0_3.length c0_3, .slice A0_4 l0_4.length c0_4] 43 (0, 0)) (by (with_reducible repeat (first | refine bN ?_ _ | refine bD ?_ | refine bA ?_ _)); exact BK209.out)) : gb209 ≠ gb210)); have n6_ := Aside0.mk ((by rw [hg]; exact Nat.ne_of_gt (blk_lt (g := gb209) (o := .cells #[.int .i64 a0_0, .int .i64 a0_1, .int .i64 a0_2, .slice A0_3 l0_3.length c0_3, .slice A0_4 l0_4.length c0_4] 43 (0, 0)) (by (with_reducible repeat (first | refine bN ?_ _ | refine bD ?_ | refine bA ?_ _)); exact BK209.out)) : gb210 ≠ gb209)); clear BK209; clear HB; have BK209 := n0_; have HB := n1_; have BK210 := n2_; have GW210 := n3_; have GE210 := n4_; have NB209_210 := n5_; have NB210_209 := n6_; clear n0_ n1_ n2_ n3_ n4_ n5_ n6_; clear hb hbox hg))
   have n0_ := Aside0.mk (bD BK209.out); have n1_ := Aside0.mk (bD BK210.out); have n2_ := Aside0.mk (wD HB.out); clear BK209; clear BK210; clear HB; have BK209 := n0_; have BK210 := n1_; have HB := n2_; clear n0_ n1_ n2_; refine start_ (n := 6) (S := fun w' => w'.cell? ⟨gb209, 0, none⟩ = some (.int .i64 a0_0) ∧ w'.cell? ⟨gb209, 1, none⟩ = some (.int .i64 a0_1) ∧ w'.cell? ⟨gb209, 2, none⟩ = some (.int .i64 a0_2) ∧ w'.cell? ⟨gb209, 3, none⟩ = some (.slice A0_3 l0_3.length c0_3) ∧ w'.cell? ⟨gb209, 4, none⟩ = some (.slice A0_4 l0_4.length c0_4) ∧ w'.cell? ⟨gb210, 0, none⟩ = some (.int .i64 a1_0) ∧ w'.cell? ⟨gb210, 1, none⟩ = some (.int .i64 a1_1) ∧ w'.cell? ⟨gb210, 2, none⟩ = some (.int .i64 a1_2) ∧ w'.cell? ⟨gb210, 3, none⟩ = some (.slice A1_3 l1_3.length c1_3) ∧ w'.cell? ⟨gb210, 4, none⟩ = some (.slice A1_4 l1_4.length c1_4)) (ds := []) B19_0 (by kernel_rfl) rfl rfl ⟨(bC BK209.out 0).trans rfl, (bC BK209.out 1).trans rfl, (bC BK209.out 2).trans rfl, (bC BK209.out 3).trans rfl, (bC BK209.out 4).trans rfl, (bC BK210.out 0).trans rfl, (bC BK210.out 1).trans rfl, (bC BK210.out 2).trans rfl, (bC BK210.out 3).trans rfl, (bC BK210.out 4).trans rfl⟩ (fun hHeld => ?_); generalize w19.drew = w20 at BK209 BK210 HB hHeld ⊢; refine take_ (i := 0) (N := some 12) (v := ?_) (a' := ?_) B19_1 rfl rfl (by kernel_rfl) (fun _ _ _ h => h) (Or.inl ⟨by rfl, ?_⟩) hHeld ?_ ?_; rotate_left
   ·
    rintro w' ⟨s0, s1, s2, s3, s4, s5, s6, s7, s8, s9⟩; go_simp; with_reducible rfl
   rotate_left
   ·
    simp only [Act.put, lT, l0_, lS, i64_w, i32_w]; rfl
   refine take_ (i := 2) (N := some 14) (v := ?_) (a' := ?_) B19_2 rfl rfl (by kernel_rfl) (fun _ _ _ h => h) (Or.inl ⟨by rfl, ?_⟩) hHeld ?_ ?_; rotate_left
   ·
    rintro w' ⟨s0, s1, s2, s3, s4, s5, s6, s7, s8, s9⟩; go_simp; with_reducible rfl
   rotate_left
   ·
    simp only [Act.put, lT, l0_, lS, i64_w, i32_w]; rfl
   refine one_ (i := 1) (N := some 13) B19_3 rfl rfl (by kernel_rfl) (by decide) (fun K hK => ?_); refine goes_ Try.func25 (by kernel_rfl) rfl #[.agg #[.int .i64 a0_0, .int .i64 a0_1, .int .i64 a0_2, .slice A0_3 l0_3.length c0_3, .slice A0_4 l0_4.length c0_4]] (by rfl) rfl rfl (by (try simp only [List.map_toArray, List.map_cons, List.map_nil]); first | done | rfl | (simp only [List.length_drop, List.length_take]; rfl)) ?_
   with_reducible refine (potsherdlaw14_Light.calls k a0_0 a0_1 a0_2 _ _ l0_3 _ _ l0_4 t211 _ ?side1 ?side2 ?side3 ?side4 A5.out).mono ?_
   (case side1 => repeat (first | exact (Kd.C_below HR0_3.out HB.out) | (with_reducible refine Kd.C_alloc ?_ _) | (with_reducible refine Kd.C_drewN ?_ _) | (with_reducible refine Kd.C_drew ?_)))
   (case side2 => exact HC0_3.out)
   (case side3 => repeat (first | exact (Kd.C_below HR0_4.out HB.out) | (with_reducible refine Kd.C_alloc ?_ _) | (with_reducible refine Kd.C_drewN ?_ _) | (with_reducible refine Kd.C_drew ?_)))
   (case side4 => exact HC0_4.out)
   rintro e w21 ⟨rfl, hb⟩; refine ⟨_, rfl, ?_⟩; have n0_ := Aside0.mk (bB (g := gb209) (o := .cells #[.int .i64 a0_0, .int .i64 a0_1, .int .i64 a0_2, .slice A0_3 l0_3.length c0_3, .slice A0_4 l0_4.length c0_4] 43 (0, 0)) (by (with_reducible repeat (first | refine bN ?_ _ | refine bD ?_ | refine bA ?_ _)); exact BK209.out) hb)
   have n1_ := Aside0.mk (bB (g := gb210) (o := .cells #[.int .i64 a1_0, .int .i64 a1_1, .int .i64 a1_2, .slice A1_3 l1_3.length c1_3, .slice A1_4 l1_4.length c1_4] 43 (0, 0)) (by (with_reducible repeat (first | refine bN ?_ _ | refine bD ?_ | refine bA ?_ _)); exact BK210.out) hb)
   have n2_ := Aside0.mk (below_step (by repeat (first | (with_reducible first | exact HB.out | apply wA | apply wN | apply wD | refine wS ?_ GE209.out | refine wS ?_ GE210.out) | exact HB.out)) hb); clear BK209; clear BK210; clear HB; have BK209 := n0_; have BK210 := n1_; have HB := n2_; clear n0_ n1_ n2_
   (try clear hb)
   (try clear hb2)
   (try clear hk)
   (try clear hi)
   refine hK.out _ _ ⟨(bC BK209.out 0).trans rfl, (bC BK209.out 1).trans rfl, (bC BK209.out 2).trans rfl, (bC BK209.out 3).trans rfl, (bC BK209.out 4).trans rfl, (bC BK210.out 0).trans rfl, (bC BK210.out 1).trans rfl, (bC BK210.out 2).trans rfl, (bC BK210.out 3).trans rfl, (bC BK210.out 4).trans rfl⟩ (fun hHeld => ?_); clear hK K; refine norm_ (a' := ?_) ?_ ?_; rotate_left
   ·
    show Act.put _ (some 13) _ = _
    simp only [Act.put, lT, l0_, lS, i64_w, i32_w]; rfl
   refine one_ (i := 3) (N := some 15) B19_4 rfl rfl (by kernel_rfl) (by decide) (fun K hK => ?_); refine goes_ Try.func25 (by kernel_rfl) rfl #[.agg #[.int .i64 a1_0, .int .i64 a1_1, .int .i64 a1_2, .slice A1_3 l1_3.length c1_3, .slice A1_4 l1_4.length c1_4]] (by rfl) rfl rfl (by (try simp only [List.map_toArray, List.map_cons, List.map_nil]); first | done | rfl | (simp only [List.length_drop, List.length_take]; rfl)) ?_
   with_reducible refine (potsherdlaw14_Light.calls k a1_0 a1_1 a1_2 _ _ l1_3 _ _ l1_4 t212 _ ?side1 ?side2 ?side3 ?side4 A6.out).mono ?_
   (case side1 => repeat (first | exact (Kd.C_below HR1_3.out HB.out) | (with_reducible refine Kd.C_alloc ?_ _) | (with_reducible refine Kd.C_drewN ?_ _) | (with_reducible refine Kd.C_drew ?_)))
   (case side2 => exact HC1_3.out)
   (case side3 => repeat (first | exact (Kd.C_below HR1_4.out HB.out) | (with_reducible refine Kd.C_alloc ?_ _) | (with_reducible refine Kd.C_drewN ?_ _) | (with_reducible refine Kd.C_drew ?_)))
   (case side4 => exact HC1_4.out)
   rintro e w22 ⟨rfl, hb⟩; refine ⟨_, rfl, ?_⟩; have n0_ := Aside0.mk (bB (g := gb209) (o := .cells #[.int .i64 a0_0, .int .i64 a0_1, .int .i64 a0_2, .slice A0_3 l0_3.length c0_3, .slice A0_4 l0_4.length c0_4] 43 (0, 0)) (by (with_reducible repeat (first | refine bN ?_ _ | refine bD ?_ | refine bA ?_ _)); exact BK209.out) hb)
   have n1_ := Aside0.mk (bB (g := gb210) (o := .cells #[.int .i64 a1_0, .int .i64 a1_1, .int .i64 a1_2, .slice A1_3 l1_3.length c1_3, .slice A1_4 l1_4.length c1_4] 43 (0, 0)) (by (with_reducible repeat (first | refine bN ?_ _ | refine bD ?_ | refine bA ?_ _)); exact BK210.out) hb)
   have n2_ := Aside0.mk (below_step (by repeat (first | (with_reducible first | exact HB.out | apply wA | apply wN | apply wD | refine wS ?_ GE209.out | refine wS ?_ GE210.out) | exact HB.out)) hb); clear BK209; clear BK210; clear HB; have BK209 := n0_; have BK210 := n1_; have HB := n2_; clear n0_ n1_ n2_
   (try clear hb)
   (try clear hb2)
   (try clear hk)
   (try clear hi)
   refine hK.out _ _ ⟨(bC BK209.out 0).trans rfl, (bC BK209.out 1).trans rfl, (bC BK209.out 2).trans rfl, (bC BK209.out 3).trans rfl, (bC BK209.out 4).trans rfl, (bC BK210.out 0).trans rfl, (bC BK210.out 1).trans rfl, (bC BK210.out 2).trans rfl, (bC BK210.out 3).trans rfl, (bC BK210.out 4).trans rfl⟩ (fun hHeld => ?_); clear hK K; refine norm_ (a' := ?_) ?_ ?_; rotate_left
   ·
    show Act.put _ (some 15) _ = _
    simp only [Act.put, lT, l0_, lS, i64_w, i32_w]; rfl
   refine pure_ (i := 4) (N := some 16) (v := ?_) (a' := ?_) B19_5 rfl rfl (by kernel_rfl) (fun _ _ _ h => h) (Or.inl ⟨by rfl, ?_⟩) ?_ ?_; rotate_left
   ·
    intro w'; go_simp; with_reducible rfl
   rotate_left
   ·
    simp only [Act.put, lT, l0_, lS, i64_w, i32_w]; rfl
   refine pure_ (i := 5) (N := some 17) (v := ?_) (a' := ?_) B19_6 rfl rfl (by kernel_rfl) (fun _ _ _ h => h) (Or.inl ⟨by rfl, ?_⟩) ?_ ?_; rotate_left
   ·
    intro w'; go_simp; with_reducible rfl
   rotate_left
   ·
    simp only [Act.put, lT, l0_, lS, i64_w, i32_w]; rfl
   refine done_ (by kernel_rfl) ?_
   try go_wp2
   have n0_ := Aside0.mk (bD BK209.out); have n1_ := Aside0.mk (bD BK210.out); have n2_ := Aside0.mk (wD HB.out); clear BK209; clear BK210; clear HB; have BK209 := n0_; have BK210 := n1_; have HB := n2_; clear n0_ n1_ n2_; refine start_ (n := 8) (S := fun w' => w'.cell? ⟨gb209, 0, none⟩ = some (.int .i64 a0_0) ∧ w'.cell? ⟨gb209, 1, none⟩ = some (.int .i64 a0_1) ∧ w'.cell? ⟨gb209, 2, none⟩ = some (.int .i64 a0_2) ∧ w'.cell? ⟨gb209, 3, none⟩ = some (.slice A0_3 l0_3.length c0_3) ∧ w'.cell? ⟨gb209, 4, none⟩ = some (.slice A0_4 l0_4.length c0_4)) (ds := []) B19_7 (by kernel_rfl) rfl rfl ⟨(bC BK209.out 0).trans rfl, (bC BK209.out 1).trans rfl, (bC BK209.out 2).trans rfl, (bC BK209.out 3).trans rfl, (bC BK209.out 4).trans rfl⟩ (fun hHeld => ?_); refine with_tabW potsherdlaw14_NodeForms.tab3 potsherdlaw14_NodeForms.bits3 (fun HT_ HW_ => ?_); generalize w22.drew = w23 at BK209 BK210 HB hHeld ⊢; refine pure_ (i := 0) (N := some 19) (v := ?_) (a' := ?_) B19_8 rfl rfl (any_of HT_.out (by kernel_rfl)) (fun _ _ _ h => h) (Or.inl ⟨by rfl, ?_⟩) ?_ ?_; rotate_left
   ·
    intro w'; go_simp; with_reducible rfl
   rotate_left
   ·
    simp only [Act.put, lT, l0_, lS, i64_w, i32_w]; rfl
   refine pure_ (i := 3) (N := some 22) (v := ?_) (a' := ?_) B19_9 rfl rfl (any_of HT_.out (by kernel_rfl)) (fun _ _ _ h => h) (Or.inl ⟨by rfl, ?_⟩) ?_ ?_; rotate_left
   ·
    intro w'; go_simp; with_reducible rfl
   rotate_left
   ·
    simp only [Act.put, lT, l0_, lS, i64_w, i32_w]; rfl
   refine take_ (i := 1) (N := some 20) (v := ?_) (a' := ?_) B19_10 rfl rfl (take_ofW HT_.out HW_.out (by kernel_rfl)) (fun _ _ _ h => h) (Or.inl ⟨by rfl, ?_⟩) hHeld ?_ ?_; rotate_left
   ·
    rintro w' ⟨s0, s1, s2, s3, s4⟩; go_simp; with_reducible rfl
   rotate_left
   ·
    simp only [Act.put, lT, l0_, lS, i64_w, i32_w]; rfl
   refine take_ (i := 4) (N := some 23) (v := ?_) (a' := ?_) B19_11 rfl rfl (take_ofW HT_.out HW_.out (by kernel_rfl)) (fun _ _ _ h => h) (Or.inl ⟨by rfl, ?_⟩) hHeld ?_ ?_; rotate_left
   ·
    rintro w' ⟨s0, s1, s2, s3, s4⟩; go_simp; with_reducible rfl
   rotate_left
   ·
    simp only [Act.put, lT, l0_, lS, i64_w, i32_w]; rfl
   refine one_ (i := 2) (N := some 21) B19_12 rfl rfl (one_of HT_.out (by kernel_rfl)) (by decide) (fun K hK => ?_); refine goes_ Try.func27 (by kernel_rfl) rfl #[.int .i64 a3, .agg #[.int .i64 a0_0, .int .i64 a0_1, .int .i64 a0_2, .slice A0_3 l0_3.length c0_3, .slice A0_4 l0_4.length c0_4]] (by rfl) rfl rfl (by (try simp only [List.map_toArray, List.map_cons, List.map_nil]); first | done | rfl | (simp only [List.length_drop, List.length_take]; rfl)) ?_
   with_reducible refine (node_Refs.calls k a3 a0_0 a0_1 a0_2 _ _ l0_3 _ _ l0_4 t214 _ ?side1 ?side2 ?side3 ?side4 A15.out).mono ?_
   (case side1 => repeat (first | exact (Kd.C_below HR0_3.out HB.out) | (with_reducible refine Kd.C_alloc ?_ _) | (with_reducible refine Kd.C_drewN ?_ _) | (with_reducible refine Kd.C_drew ?_)))
   (case side2 => exact HC0_3.out)
   (case side3 => repeat (first | exact (Kd.C_below HR0_4.out HB.out) | (with_reducible refine Kd.C_alloc ?_ _) | (with_reducible refine Kd.C_drewN ?_ _) | (with_reducible refine Kd.C_drew ?_)))
   (case side4 => exact HC0_4.out)
   rintro e w24 ⟨v215, rfl, ho0, hb⟩; refine ⟨_, rfl, ?_⟩; have n0_ := Aside0.mk (Kd.R_lower ho0 (below_size (by repeat (first | (with_reducible first | exact HB.out | apply wA | apply wN | apply wD | refine wS ?_ GE209.out | refine wS ?_ GE210.out) | exact HB.out)))); have n1_ := Aside0.mk (bB (g := gb209) (o := .cells #[.int .i64 a0_0, .int .i64 a0_1, .int .i64 a0_2, .slice A0_3 l0_3.length c0_3, .slice A0_4 l0_4.length c0_4] 43 (0, 0)) (by (with_reducible repeat (first | refine bN ?_ _ | refine bD ?_ | refine bA ?_ _)); exact BK209.out) hb)
   have n2_ := Aside0.mk (bB (g := gb210) (o := .cells #[.int .i64 a1_0, .int .i64 a1_1, .int .i64 a1_2, .slice A1_3 l1_3.length c1_3, .slice A1_4 l1_4.length c1_4] 43 (0, 0)) (by (with_reducible repeat (first | refine bN ?_ _ | refine bD ?_ | refine bA ?_ _)); exact BK210.out) hb)
   have n3_ := Aside0.mk (below_step (by repeat (first | (with_reducible first | exact HB.out | apply wA | apply wN | apply wD | refine wS ?_ GE209.out | refine wS ?_ GE210.out) | exact HB.out)) hb); clear BK209; clear BK210; clear HB; have HO216 := n0_; have BK209 := n1_; have BK210 := n2_; have HB := n3_; clear n0_ n1_ n2_ n3_
   (try clear hb)
   (try clear hb2)
   (try clear hk)
   (try clear hi)
   (try clear ho0)
   refine hK.out _ _ ⟨(bC BK209.out 0).trans rfl, (bC BK209.out 1).trans rfl, (bC BK209.out 2).trans rfl, (bC BK209.out 3).trans rfl, (bC BK209.out 4).trans rfl⟩ (fun hHeld => ?_); clear hK K; refine norm_ (a' := ?_) ?_ ?_; rotate_left
   ·
    show Act.put _ (some 21) _ = _
    simp only [Act.put, lT, l0_, lS, i64_w, i32_w]; rfl
   refine one_ (i := 5) (N := some 24) B19_13 rfl rfl (one_of HT_.out (by kernel_rfl)) (by decide) (fun K hK => ?_); refine goes_ Try.func28 (by kernel_rfl) rfl #[.int .i64 a3, .agg #[.int .i64 a0_0, .int .i64 a0_1, .int .i64 a0_2, .slice A0_3 l0_3.length c0_3, .slice A0_4 l0_4.length c0_4]] (by rfl) rfl rfl (by (try simp only [List.map_toArray, List.map_cons, List.map_nil]); first | done | rfl | (simp only [List.length_drop, List.length_take]; rfl)) ?_
   with_reducible refine (potsherdref12_NodeRefs.calls k a3 a0_0 a0_1 a0_2 _ _ l0_3 _ _ l0_4 t217 _ ?side1 ?side2 ?side3 ?side4 A16.out).mono ?_
   (case side1 => repeat (first | exact (Kd.C_below HR0_3.out HB.out) | (with_reducible refine Kd.C_alloc ?_ _) | (with_reducible refine Kd.C_drewN ?_ _) | (with_reducible refine Kd.C_drew ?_)))
   (case side2 => exact HC0_3.out)
   (case side3 => repeat (first | exact (Kd.C_below HR0_4.out HB.out) | (with_reducible refine Kd.C_alloc ?_ _) | (with_reducible refine Kd.C_drewN ?_ _) | (with_reducible refine Kd.C_drew ?_)))
   (case side4 => exact HC0_4.out)
   rintro e w25 ⟨v218, rfl, ho0, hb⟩; refine ⟨_, rfl, ?_⟩; have n0_ := Aside0.mk (Kd.R_elder' (by (with_reducible repeat (first | apply Kd.R_alloc | apply Kd.R_drewN | apply Kd.R_drew)); exact HO216.out) (Kd.R_base ho0) hb)
   have n1_ := Aside0.mk (Kd.R_lower (Kd.R_new' ho0 (Kd.R_lt (by (with_reducible repeat (first | apply Kd.R_alloc | apply Kd.R_drewN | apply Kd.R_drew)); exact HO216.out))) (below_size (by repeat (first | (with_reducible first | exact HB.out | apply wA | apply wN | apply wD | refine wS ?_ GE209.out | refine wS ?_ GE210.out) | exact HB.out))))
   have n2_ := Aside0.mk (bB (g := gb209) (o := .cells #[.int .i64 a0_0, .int .i64 a0_1, .int .i64 a0_2, .slice A0_3 l0_3.length c0_3, .slice A0_4 l0_4.length c0_4] 43 (0, 0)) (by (with_reducible repeat (first | refine bN ?_ _ | refine bD ?_ | refine bA ?_ _)); exact BK209.out) hb)
   have n3_ := Aside0.mk (bB (g := gb210) (o := .cells #[.int .i64 a1_0, .int .i64 a1_1, .int .i64 a1_2, .slice A1_3 l1_3.length c1_3, .slice A1_4 l1_4.length c1_4] 43 (0, 0)) (by (with_reducible repeat (first | refine bN ?_ _ | refine bD ?_ | refine bA ?_ _)); exact BK210.out) hb)
   have n4_ := Aside0.mk (below_step (by repeat (first | (with_reducible first | exact HB.out | apply wA | apply wN | apply wD | refine wS ?_ GE209.out | refine wS ?_ GE210.out) | exact HB.out)) hb); clear HO216; clear BK209; clear BK210; clear HB; have HO216 := n0_; have HO219 := n1_; have BK209 := n2_; have BK210 := n3_; have HB := n4_; clear n0_ n1_ n2_ n3_ n4_
   (try clear hb)
   (try clear hb2)
   (try clear hk)
   (try clear hi)
   (try clear ho0)
   refine hK.out _ _ ⟨(bC BK209.out 0).trans rfl, (bC BK209.out 1).trans rfl, (bC BK209.out 2).trans rfl, (bC BK209.out 3).trans rfl, (bC BK209.out 4).trans rfl⟩ (fun hHeld => ?_); clear hK K; refine norm_ (a' := ?_) ?_ ?_; rotate_left
   ·
    show Act.put _ (some 24) _ = _
    simp only [Act.put, lT, l0_, lS, i64_w, i32_w]; rfl
   refine pure_ (i := 6) (N := some 9) (v := ?_) (a' := ?_) B19_14 rfl rfl (any_of HT_.out (by kernel_rfl)) (fun _ _ _ h => h) (Or.inl ⟨by rfl, ?_⟩) ?_ ?_; rotate_left
   ·
    intro w'; go_simp; with_reducible rfl
   rotate_left
   ·
    simp only [Act.put, lT, l0_, lS, i64_w, i32_w]; rfl
   refine pure_ (i := 7) (N := some 10) (v := ?_) (a' := ?_) B19_15 rfl rfl (any_of HT_.out (by kernel_rfl)) (fun _ _ _ h => h) (Or.inl ⟨by rfl, ?_⟩) ?_ ?_; rotate_left
   ·
    intro w'; go_simp; with_reducible rfl
   rotate_left
   ·
    simp only [Act.put, lT, l0_, lS, i64_w, i32_w]; rfl
   refine done_ (done_of HT_.out (by kernel_rfl)) ?_; obtain ⟨Ao26, co26, eo26⟩ := Kd.R_slice HO216.out; subst eo26; obtain ⟨Ao27, co27, eo27⟩ := Kd.R_slice HO219.out; subst eo27
   try go_wp2
   go_loopg [32] k (fun kq v32 w' => ∃ (x32_1 : Int), v32 = .int .i64 x32_1 ∧ Aside0 (potsherdlaw14_NodeForms.l0 kq a2 t214 t217 (t214.length : Int) x32_1 a0_0 a0_1 a0_2 l0_3 l0_4 a1_0 a1_1 a1_2 l1_3 l1_4 = some true) ∧ Aside0 (kq ≤ k) ∧ Aside0 (Kd.R k48 48 w' w.heap.size (fun k_ => some k_ ≠ ((.slice Ao27 t217.length co27) : Value).ownBlock) (.slice Ao26 t214.length co26) t214) ∧ Aside0 (Kd.R k48 48 w' w.heap.size (fun k_ => some k_ ≠ ((.slice Ao26 t214.length co26) : Value).ownBlock) (.slice Ao27 t217.length co27) t217) ∧ Aside0 (w'.heap[gb209]? = some (.cells #[.int .i64 a0_0, .int .i64 a0_1, .int .i64 a0_2, (.slice A0_3 l0_3.length c0_3), (.slice A0_4 l0_4.length c0_4)] 43 (0, 0))) ∧ Aside0 (w'.heap[gb210]? = some (.cells #[.int .i64 a1_0, .int .i64 a1_1, .int .i64 a1_2, (.slice A1_3 l1_3.length c1_3), (.slice A1_4 l1_4.length c1_4)] 43 (0, 0))) ∧ Aside0 (Below w.heap.size w w'))
   case atStart => exact ⟨(0), (by first | rfl | (simp; done) | (simp [*]; done)), H', ⟨Nat.le_refl _⟩, ⟨by (with_reducible repeat (first | apply Kd.R_alloc | apply Kd.R_drewN | apply Kd.R_drew)); exact Kd.R_mono HO216.out (fun _ hk => hk.2)⟩, ⟨by (with_reducible repeat (first | apply Kd.R_alloc | apply Kd.R_drewN | apply Kd.R_drew)); exact Kd.R_mono HO219.out (fun _ hk => hk.2)⟩, ⟨by (with_reducible repeat (first | refine bN ?_ _ | refine bD ?_ | refine bA ?_ _)); exact BK209.out⟩, ⟨by (with_reducible repeat (first | refine bN ?_ _ | refine bD ?_ | refine bA ?_ _)); exact BK210.out⟩, ⟨by repeat (first | (with_reducible first | exact HB.out | apply wA | apply wN | apply wD | refine wS ?_ GE209.out | refine wS ?_ GE210.out) | exact HB.out)⟩⟩
   case round =>
    clear H'
    try clear c1
    try clear c2
    try clear p2
    try clear p6
    try clear c7
    try clear c7b0
    try clear c17
    try clear c17b0
    try clear c17b1
    try clear c17b2
    try clear c25
    try clear c26
    try clear c27
    obtain ⟨x32_1, rfl, HA, HK1, HO_9, HO_10, BK209, BK210, HB⟩ := hrel
    cases gk with
    | zero => exact absurd HA.out (by simp [potsherdlaw14_NodeForms.l0])
    | succ k1 =>
     have H := HA.out; clear HA; simp only [potsherdlaw14_NodeForms.l0] at H
     by_cases c28 : x32_1 < (t214.length : Int)
     ·
      rw [if_pos c28] at H; have c28b0 : decide (x32_1 < (t214.length : Int)) = true := decide_eq_true c28; clear c28
      by_cases c29 : 0 ≤ x32_1
      ·
       rw [if_pos c29] at H; have c29b0 : decide (0 ≤ x32_1) = true := decide_eq_true c29; clear c29
       by_cases c30 : x32_1 < (t214.length : Int)
       ·
        rw [if_pos c30] at H; have c30b0 : decide (x32_1 < (t214.length : Int)) = true := decide_eq_true c30; clear c30
        by_cases c31 : x32_1 < (t217.length : Int)
        ·
         rw [if_pos c31] at H; have c31b0 : decide (x32_1 < (t217.length : Int)) = true := decide_eq_true c31; clear c31
         by_cases c32 : (!(((rd_T48 t214 x32_1).f0) == ((rd_T48 t217 x32_1).f0)) || (!(((rd_T48 t214 x32_1).f1) == ((rd_T48 t217 x32_1).f1)))) = true
         ·
          rw [if_pos c32] at H; have c32b0 : (!(((rd_T48 t214 x32_1).f0) == ((rd_T48 t217 x32_1).f0)) || (!(((rd_T48 t214 x32_1).f1) == ((rd_T48 t217 x32_1).f1)))) = true := c32; clear c32; exact absurd H (by simp)
         ·
          rw [if_neg c32] at H
          have c32b0 : (!(((rd_T48 t214 x32_1).f0) == ((rd_T48 t217 x32_1).f0)) || (!(((rd_T48 t214 x32_1).f1) == ((rd_T48 t217 x32_1).f1)))) = false := by simpa using c32
          clear c32; have H' := Aside0.mk H; clear H
          try go_wp2
          have n0_ := Aside0.mk (Kd.R_drew HO_9.out); have n1_ := Aside0.mk (Kd.R_drew HO_10.out); have n2_ := Aside0.mk (bD BK209.out); have n3_ := Aside0.mk (bD BK210.out); have n4_ := Aside0.mk (wD HB.out); clear HO_9; clear HO_10; clear BK209; clear BK210; clear HB; have HO_9 := n0_; have HO_10 := n1_; have BK209 := n2_; have BK210 := n3_; have HB := n4_; clear n0_ n1_ n2_ n3_ n4_; have p220 : 0 ≤ (x32_1 : Int) := of_decide_eq_true (by first | (with_reducible assumption) | assumption); have q220 : x32_1 < (t214.length : Int) := of_decide_eq_true (by first | (with_reducible assumption) | assumption); obtain ⟨ad220, e220, hx220_0, hx220_1⟩ := at_T48 (Kd.R_reads' HO_9.out).2.2 x32_1 p220 q220
          cases e220
          replace p220 := eq_true p220; replace q220 := eq_true q220; have p221 : 0 ≤ (x32_1 : Int) := of_decide_eq_true (by first | (with_reducible assumption) | assumption); have q221 : x32_1 < (t217.length : Int) := of_decide_eq_true (by first | (with_reducible assumption) | assumption); obtain ⟨ad221, e221, hx221_0, hx221_1⟩ := at_T48 (Kd.R_reads' HO_10.out).2.2 x32_1 p221 q221
          cases e221
          replace p221 := eq_true p221; replace q221 := eq_true q221; refine start_ (n := 9) (S := fun w' => w'.cell? (ad220.add ((x32_1).toNat * 2)) = some (.int .i64 ((rd_T48 t214 x32_1).f0)) ∧ w'.cell? ⟨(ad220.add ((x32_1).toNat * 2)).block, (ad220.add ((x32_1).toNat * 2)).off + 1, none⟩ = some (.int .i64 ((rd_T48 t214 x32_1).f1)) ∧ w'.cell? (ad221.add ((x32_1).toNat * 2)) = some (.int .i64 ((rd_T48 t217 x32_1).f0)) ∧ w'.cell? ⟨(ad221.add ((x32_1).toNat * 2)).block, (ad221.add ((x32_1).toNat * 2)).off + 1, none⟩ = some (.int .i64 ((rd_T48 t217 x32_1).f1))) (ds := []) B19_16 (by kernel_rfl) rfl rfl ⟨hx220_0, hx220_1, hx221_0, hx221_1⟩ (fun hHeld => ?_); refine with_tabW potsherdlaw14_NodeForms.tab9 potsherdlaw14_NodeForms.bits9 (fun HT_ HW_ => ?_); generalize wr.drew = w33 at HO_9 HO_10 BK209 BK210 HB hx220_0 hx220_1 hx221_0 hx221_1 hHeld ⊢; refine pure_ (i := 0) (N := some 35) (v := ?_) (a' := ?_) B19_17 rfl rfl (any_of HT_.out (by kernel_rfl)) (fun _ _ _ h => h) (Or.inl ⟨by rfl, ?_⟩) ?_ ?_; rotate_left
          ·
           intro w'; go_simp; with_reducible rfl
          rotate_left
          ·
           simp only [Act.put, lT, l0_, lS, i64_w, i32_w]; rfl
          refine pure_ (i := 1) (N := some 36) (v := ?_) (a' := ?_) B19_18 rfl rfl (any_of HT_.out (by kernel_rfl)) (fun _ _ _ h => h) (Or.inl ⟨by rfl, ?_⟩) ?_ ?_; rotate_left
          ·
           intro w'; go_simp; with_reducible rfl
          rotate_left
          ·
           simp only [Act.put, lT, l0_, lS, i64_w, i32_w]; rfl
          refine pure_ (i := 2) (N := some 37) (v := ?_) (a' := ?_) B19_19 rfl rfl (any_of HT_.out (by kernel_rfl)) (fun _ _ _ h => h) (Or.inl ⟨by rfl, ?_⟩) ?_ ?_; rotate_left
          ·
           intro w'; go_simp; with_reducible rfl
          rotate_left
          ·
           simp only [Act.put, lT, l0_, lS, i64_w, i32_w]; rfl
          refine pure_ (i := 4) (N := some 39) (v := ?_) (a' := ?_) B19_20 rfl rfl (any_of HT_.out (by kernel_rfl)) (fun _ _ _ h => h) (Or.inl ⟨by rfl, ?_⟩) ?_ ?_; rotate_left
          ·
           intro w'; go_simp; with_reducible rfl
          rotate_left
          ·
           simp only [Act.put, lT, l0_, lS, i64_w, i32_w]; rfl
          refine pure_ (i := 5) (N := some 40) (v := ?_) (a' := ?_) B19_21 rfl rfl (any_of HT_.out (by kernel_rfl)) (fun _ _ _ h => h) (Or.inl ⟨by rfl, ?_⟩) ?_ ?_; rotate_left
          ·
           intro w'; go_simp; with_reducible rfl
          rotate_left
          ·
           simp only [Act.put, lT, l0_, lS, i64_w, i32_w]; rfl
          refine pure_ (i := 6) (N := some 41) (v := ?_) (a' := ?_) B19_22 rfl rfl (any_of HT_.out (by kernel_rfl)) (fun _ _ _ h => h) (Or.inl ⟨by rfl, ?_⟩) ?_ ?_; rotate_left
          ·
           intro w'; go_simp; with_reducible rfl
          rotate_left
          ·
           simp only [Act.put, lT, l0_, lS, i64_w, i32_w]; rfl
          refine take_ (i := 3) (N := some 38) (v := ?_) (a' := ?_) B19_23 rfl rfl (take_ofW HT_.out HW_.out (by kernel_rfl)) (fun _ _ _ h => h) (Or.inl ⟨by rfl, ?_⟩) hHeld ?_ ?_; rotate_left
          ·
           rintro w' ⟨s0, s1, s2, s3⟩; go_simp; with_reducible rfl
          rotate_left
          ·
           simp only [Act.put, lT, l0_, lS, i64_w, i32_w]; rfl
          refine take_ (i := 7) (N := some 42) (v := ?_) (a' := ?_) B19_24 rfl rfl (take_ofW HT_.out HW_.out (by kernel_rfl)) (fun _ _ _ h => h) (Or.inl ⟨by rfl, ?_⟩) hHeld ?_ ?_; rotate_left
          ·
           rintro w' ⟨s0, s1, s2, s3⟩; go_simp; with_reducible rfl
          rotate_left
          ·
           simp only [Act.put, lT, l0_, lS, i64_w, i32_w]; rfl
          refine pure_ (i := 8) (N := some 43) (v := ?_) (a' := ?_) B19_25 rfl rfl (any_of HT_.out (by kernel_rfl)) (fun _ _ _ h => h) (Or.inl ⟨by rfl, ?_⟩) ?_ ?_; rotate_left
          ·
           intro w'; go_simp; with_reducible rfl
          rotate_left
          ·
           simp only [Act.put, lT, l0_, lS, i64_w, i32_w]; rfl
          refine done_ (done_of HT_.out (by kernel_rfl)) ?_
          try go_wp2
          go_roundg k1
          case measure => have := HK1.out; omega
          case rel => exact ⟨(wrap64 (x32_1 + 1)), (by first | rfl | (simp; done) | (simp [*]; done)), H', ⟨by have := HK1.out; omega⟩, ⟨by (with_reducible repeat (first | apply Kd.R_alloc | apply Kd.R_drewN | apply Kd.R_drew)); exact HO_9.out⟩, ⟨by (with_reducible repeat (first | apply Kd.R_alloc | apply Kd.R_drewN | apply Kd.R_drew)); exact HO_10.out⟩, ⟨by (with_reducible repeat (first | refine bN ?_ _ | refine bD ?_ | refine bA ?_ _)); exact BK209.out⟩, ⟨by (with_reducible repeat (first | refine bN ?_ _ | refine bD ?_ | refine bA ?_ _)); exact BK210.out⟩, ⟨by repeat (first | (with_reducible first | exact HB.out | apply wA | apply wN | apply wD | refine wS ?_ GE209.out | refine wS ?_ GE210.out) | exact HB.out)⟩⟩
        ·
         rw [if_neg c31] at H; exact absurd H (by simp)
       ·
        rw [if_neg c30] at H; exact absurd H (by simp)
      ·
       rw [if_neg c29] at H; exact absurd H (by simp)
     ·
      rw [if_neg c28] at H; have c28b0 : decide (x32_1 < (t214.length : Int)) = false := decide_eq_false c28; clear c28; replace H := Option.bind_eq_some_iff.mp H; obtain ⟨t222, A340, H⟩ := H; replace H : ((potsherdref12_MayNode.f k1 a0_0 a0_1 a0_2 l0_3 l0_4).bind fun t223 => (if (t222 == t223) = true then ((node_Same.f k1 a0_0 a0_1 a0_2 l0_3 l0_4 a1_0 a1_1 a1_2 l1_3 l1_4).bind fun t224 => ((potsherdref12_SameNode.f k1 a0_0 a0_1 a0_2 l0_3 l0_4 a1_0 a1_1 a1_2 l1_3 l1_4).bind fun t225 => (if (t224 == t225) = true then ((node_Empty.f a2).bind fun bt226 => ((potsherdref12_EmptyNode.f a2).bind fun bt235 => ((potsherdref12_SameNode.f k1 bt226.1 bt226.2.1 bt226.2.2.1 bt226.2.2.2.1 bt226.2.2.2.2 bt235.1 bt235.2.1 bt235.2.2.1 bt235.2.2.2.1 bt235.2.2.2.2).bind fun t244 => (if t244 = true then ((node_Pages.f k1 a0_0 a0_1 a0_2 l0_3 l0_4).bind fun t245 => ((potsherdref12_Pages.f k1 a0_0 a0_1 a0_2 l0_3 l0_4).bind fun t246 => (if t245 = t246 then ((potsherdlaw14_awake.f k1).bind fun t247 => (some t247)) else (some false)))) else (some false))))) else (some false)))) else (some false))) = some true := H; have A34 := Aside0.mk A340; clear A340; replace H := Option.bind_eq_some_iff.mp H; obtain ⟨t223, A350, H⟩ := H; replace H : (if (t222 == t223) = true then ((node_Same.f k1 a0_0 a0_1 a0_2 l0_3 l0_4 a1_0 a1_1 a1_2 l1_3 l1_4).bind fun t224 => ((potsherdref12_SameNode.f k1 a0_0 a0_1 a0_2 l0_3 l0_4 a1_0 a1_1 a1_2 l1_3 l1_4).bind fun t225 => (if (t224 == t225) = true then ((node_Empty.f a2).bind fun bt226 => ((potsherdref12_EmptyNode.f a2).bind fun bt235 => ((potsherdref12_SameNode.f k1 bt226.1 bt226.2.1 bt226.2.2.1 bt226.2.2.2.1 bt226.2.2.2.2 bt235.1 bt235.2.1 bt235.2.2.1 bt235.2.2.2.1 bt235.2.2.2.2).bind fun t244 => (if t244 = true then ((node_Pages.f k1 a0_0 a0_1 a0_2 l0_3 l0_4).bind fun t245 => ((potsherdref12_Pages.f k1 a0_0 a0_1 a0_2 l0_3 l0_4).bind fun t246 => (if t245 = t246 then ((potsherdlaw14_awake.f k1).bind fun t247 => (some t247)) else (some false)))) else (some false))))) else (some false)))) else (some false)) = some true := H; have A35 := Aside0.mk A350; clear A350
      by_cases c36 : (t222 == t223) = true
      ·
       rw [if_pos c36] at H; have c36b0 : (t222 == t223) = true := c36
       (try (have c36b1 : decide (t222 = t223) = true := by simpa using c36))
       (try (have c36b2 : (t222 == t223) = true := by simpa using c36))
       clear c36; replace H := Option.bind_eq_some_iff.mp H; obtain ⟨t224, A370, H⟩ := H; replace H : ((potsherdref12_SameNode.f k1 a0_0 a0_1 a0_2 l0_3 l0_4 a1_0 a1_1 a1_2 l1_3 l1_4).bind fun t225 => (if (t224 == t225) = true then ((node_Empty.f a2).bind fun bt226 => ((potsherdref12_EmptyNode.f a2).bind fun bt235 => ((potsherdref12_SameNode.f k1 bt226.1 bt226.2.1 bt226.2.2.1 bt226.2.2.2.1 bt226.2.2.2.2 bt235.1 bt235.2.1 bt235.2.2.1 bt235.2.2.2.1 bt235.2.2.2.2).bind fun t244 => (if t244 = true then ((node_Pages.f k1 a0_0 a0_1 a0_2 l0_3 l0_4).bind fun t245 => ((potsherdref12_Pages.f k1 a0_0 a0_1 a0_2 l0_3 l0_4).bind fun t246 => (if t245 = t246 then ((potsherdlaw14_awake.f k1).bind fun t247 => (some t247)) else (some false)))) else (some false))))) else (some false))) = some true := H; have A37 := Aside0.mk A370; clear A370; replace H := Option.bind_eq_some_iff.mp H; obtain ⟨t225, A380, H⟩ := H; replace H : (if (t224 == t225) = true then ((node_Empty.f a2).bind fun bt226 => ((potsherdref12_EmptyNode.f a2).bind fun bt235 => ((potsherdref12_SameNode.f k1 bt226.1 bt226.2.1 bt226.2.2.1 bt226.2.2.2.1 bt226.2.2.2.2 bt235.1 bt235.2.1 bt235.2.2.1 bt235.2.2.2.1 bt235.2.2.2.2).bind fun t244 => (if t244 = true then ((node_Pages.f k1 a0_0 a0_1 a0_2 l0_3 l0_4).bind fun t245 => ((potsherdref12_Pages.f k1 a0_0 a0_1 a0_2 l0_3 l0_4).bind fun t246 => (if t245 = t246 then ((potsherdlaw14_awake.f k1).bind fun t247 => (some t247)) else (some false)))) else (some false))))) else (some false)) = some true := H; have A38 := Aside0.mk A380; clear A380
       by_cases c39 : (t224 == t225) = true
       ·
        rw [if_pos c39] at H; have c39b0 : (t224 == t225) = true := c39
        (try (have c39b1 : decide (t224 = t225) = true := by simpa using c39))
        (try (have c39b2 : (t224 == t225) = true := by simpa using c39))
        clear c39; replace H := Option.bind_eq_some_iff.mp H; obtain ⟨⟨t226, t227, t228, t229, t232⟩, A400, H⟩ := H; replace H : ((potsherdref12_EmptyNode.f a2).bind fun bt235 => ((potsherdref12_SameNode.f k1 t226 t227 t228 t229 t232 bt235.1 bt235.2.1 bt235.2.2.1 bt235.2.2.2.1 bt235.2.2.2.2).bind fun t244 => (if t244 = true then ((node_Pages.f k1 a0_0 a0_1 a0_2 l0_3 l0_4).bind fun t245 => ((potsherdref12_Pages.f k1 a0_0 a0_1 a0_2 l0_3 l0_4).bind fun t246 => (if t245 = t246 then ((potsherdlaw14_awake.f k1).bind fun t247 => (some t247)) else (some false)))) else (some false)))) = some true := H; have A40 := Aside0.mk A400; clear A400; replace H := Option.bind_eq_some_iff.mp H; obtain ⟨⟨t235, t236, t237, t238, t241⟩, A410, H⟩ := H; replace H : ((potsherdref12_SameNode.f k1 t226 t227 t228 t229 t232 t235 t236 t237 t238 t241).bind fun t244 => (if t244 = true then ((node_Pages.f k1 a0_0 a0_1 a0_2 l0_3 l0_4).bind fun t245 => ((potsherdref12_Pages.f k1 a0_0 a0_1 a0_2 l0_3 l0_4).bind fun t246 => (if t245 = t246 then ((potsherdlaw14_awake.f k1).bind fun t247 => (some t247)) else (some false)))) else (some false))) = some true := H; have A41 := Aside0.mk A410; clear A410; replace H := Option.bind_eq_some_iff.mp H; obtain ⟨t244, A420, H⟩ := H; replace H : (if t244 = true then ((node_Pages.f k1 a0_0 a0_1 a0_2 l0_3 l0_4).bind fun t245 => ((potsherdref12_Pages.f k1 a0_0 a0_1 a0_2 l0_3 l0_4).bind fun t246 => (if t245 = t246 then ((potsherdlaw14_awake.f k1).bind fun t247 => (some t247)) else (some false)))) else (some false)) = some true := H; have A42 := Aside0.mk A420; clear A420
        by_cases c43 : t244 = true
        ·
         subst c43
         have H1 : ((node_Pages.f k1 a0_0 a0_1 a0_2 l0_3 l0_4).bind fun t245 => ((potsherdref12_Pages.f k1 a0_0 a0_1 a0_2 l0_3 l0_4).bind fun t246 => (if t245 = t246 then ((potsherdlaw14_awake.f k1).bind fun t247 => (some t247)) else (some false)))) = some true := by rw [if_pos rfl] at H; exact H
         clear H; have H := H1; clear H1; replace H := Option.bind_eq_some_iff.mp H; obtain ⟨t245, A440, H⟩ := H; replace H : ((potsherdref12_Pages.f k1 a0_0 a0_1 a0_2 l0_3 l0_4).bind fun t246 => (if t245 = t246 then ((potsherdlaw14_awake.f k1).bind fun t247 => (some t247)) else (some false))) = some true := H; have A44 := Aside0.mk A440; clear A440; replace H := Option.bind_eq_some_iff.mp H; obtain ⟨t246, A450, H⟩ := H; replace H : (if t245 = t246 then ((potsherdlaw14_awake.f k1).bind fun t247 => (some t247)) else (some false)) = some true := H; have A45 := Aside0.mk A450; clear A450
         by_cases c46 : t245 = t246
         ·
          rw [if_pos c46] at H; have c46b0 : (t245 == t246) = true := beq_iff_eq.mpr c46; have c46b1 : (t245 != t246) = false := bne_eq_false_iff_eq.mpr c46; clear c46; replace H := Option.bind_eq_some_iff.mp H; obtain ⟨t247, A470, H⟩ := H; replace H : (some t247) = some true := H; have A47 := Aside0.mk A470; clear A470; have HRET := Aside0.mk (Option.some.inj H); clear H
          try go_wp2
          have n0_ := Aside0.mk (Kd.R_drew HO_9.out); have n1_ := Aside0.mk (Kd.R_drew HO_10.out); have n2_ := Aside0.mk (bD BK209.out); have n3_ := Aside0.mk (bD BK210.out); have n4_ := Aside0.mk (wD HB.out); clear HO_9; clear HO_10; clear BK209; clear BK210; clear HB; have HO_9 := n0_; have HO_10 := n1_; have BK209 := n2_; have BK210 := n3_; have HB := n4_; clear n0_ n1_ n2_ n3_ n4_; refine start_ (n := 32) (S := fun w' => w'.cell? ⟨gb209, 0, none⟩ = some (.int .i64 a0_0) ∧ w'.cell? ⟨gb209, 1, none⟩ = some (.int .i64 a0_1) ∧ w'.cell? ⟨gb209, 2, none⟩ = some (.int .i64 a0_2) ∧ w'.cell? ⟨gb209, 3, none⟩ = some (.slice A0_3 l0_3.length c0_3) ∧ w'.cell? ⟨gb209, 4, none⟩ = some (.slice A0_4 l0_4.length c0_4) ∧ w'.cell? ⟨gb210, 0, none⟩ = some (.int .i64 a1_0) ∧ w'.cell? ⟨gb210, 1, none⟩ = some (.int .i64 a1_1) ∧ w'.cell? ⟨gb210, 2, none⟩ = some (.int .i64 a1_2) ∧ w'.cell? ⟨gb210, 3, none⟩ = some (.slice A1_3 l1_3.length c1_3) ∧ w'.cell? ⟨gb210, 4, none⟩ = some (.slice A1_4 l1_4.length c1_4)) (ds := []) B19_26 (by kernel_rfl) rfl rfl ⟨(bC BK209.out 0).trans rfl, (bC BK209.out 1).trans rfl, (bC BK209.out 2).trans rfl, (bC BK209.out 3).trans rfl, (bC BK209.out 4).trans rfl, (bC BK210.out 0).trans rfl, (bC BK210.out 1).trans rfl, (bC BK210.out 2).trans rfl, (bC BK210.out 3).trans rfl, (bC BK210.out 4).trans rfl⟩ (fun hHeld => ?_); refine with_tabW potsherdlaw14_NodeForms.tab12 potsherdlaw14_NodeForms.bits12 (fun HT_ HW_ => ?_); generalize wr.drew = w48 at HO_9 HO_10 BK209 BK210 HB hHeld ⊢; refine take_ (i := 0) (N := some 45) (v := ?_) (a' := ?_) B19_27 rfl rfl (take_ofW HT_.out HW_.out (by kernel_rfl)) (fun _ _ _ h => h) (Or.inl ⟨by rfl, ?_⟩) hHeld ?_ ?_; rotate_left
          ·
           rintro w' ⟨s0, s1, s2, s3, s4, s5, s6, s7, s8, s9⟩; go_simp; with_reducible rfl
          rotate_left
          ·
           simp only [Act.put, lT, l0_, lS, i64_w, i32_w]; rfl
          refine take_ (i := 2) (N := some 47) (v := ?_) (a' := ?_) B19_28 rfl rfl (take_ofW HT_.out HW_.out (by kernel_rfl)) (fun _ _ _ h => h) (Or.inl ⟨by rfl, ?_⟩) hHeld ?_ ?_; rotate_left
          ·
           rintro w' ⟨s0, s1, s2, s3, s4, s5, s6, s7, s8, s9⟩; go_simp; with_reducible rfl
          rotate_left
          ·
           simp only [Act.put, lT, l0_, lS, i64_w, i32_w]; rfl
          refine one_ (i := 1) (N := some 46) B19_29 rfl rfl (one_of HT_.out (by kernel_rfl)) (by decide) (fun K hK => ?_); refine goes_ Try.func29 (by kernel_rfl) rfl #[.agg #[.int .i64 a0_0, .int .i64 a0_1, .int .i64 a0_2, .slice A0_3 l0_3.length c0_3, .slice A0_4 l0_4.length c0_4]] (by rfl) rfl rfl (by (try simp only [List.map_toArray, List.map_cons, List.map_nil]); first | done | rfl | (simp only [List.length_drop, List.length_take]; rfl)) ?_
          with_reducible refine (node_May.calls k1 a0_0 a0_1 a0_2 _ _ l0_3 _ _ l0_4 t222 _ ?side1 ?side2 ?side3 ?side4 A34.out).mono ?_
          (case side1 => repeat (first | exact (Kd.C_below HR0_3.out HB.out) | (with_reducible refine Kd.C_alloc ?_ _) | (with_reducible refine Kd.C_drewN ?_ _) | (with_reducible refine Kd.C_drew ?_)))
          (case side2 => exact HC0_3.out)
          (case side3 => repeat (first | exact (Kd.C_below HR0_4.out HB.out) | (with_reducible refine Kd.C_alloc ?_ _) | (with_reducible refine Kd.C_drewN ?_ _) | (with_reducible refine Kd.C_drew ?_)))
          (case side4 => exact HC0_4.out)
          rintro e w49 ⟨rfl, hb⟩; refine ⟨_, rfl, ?_⟩; have n0_ := Aside0.mk (Kd.R_below (by (with_reducible repeat (first | apply Kd.R_alloc | apply Kd.R_drewN | apply Kd.R_drew)); exact HO_9.out) hb)
          have n1_ := Aside0.mk (Kd.R_below (by (with_reducible repeat (first | apply Kd.R_alloc | apply Kd.R_drewN | apply Kd.R_drew)); exact HO_10.out) hb)
          have n2_ := Aside0.mk (bB (g := gb209) (o := .cells #[.int .i64 a0_0, .int .i64 a0_1, .int .i64 a0_2, .slice A0_3 l0_3.length c0_3, .slice A0_4 l0_4.length c0_4] 43 (0, 0)) (by (with_reducible repeat (first | refine bN ?_ _ | refine bD ?_ | refine bA ?_ _)); exact BK209.out) hb)
          have n3_ := Aside0.mk (bB (g := gb210) (o := .cells #[.int .i64 a1_0, .int .i64 a1_1, .int .i64 a1_2, .slice A1_3 l1_3.length c1_3, .slice A1_4 l1_4.length c1_4] 43 (0, 0)) (by (with_reducible repeat (first | refine bN ?_ _ | refine bD ?_ | refine bA ?_ _)); exact BK210.out) hb)
          have n4_ := Aside0.mk (below_step (by repeat (first | (with_reducible first | exact HB.out | apply wA | apply wN | apply wD | refine wS ?_ GE209.out | refine wS ?_ GE210.out) | exact HB.out)) hb); clear HO_9; clear HO_10; clear BK209; clear BK210; clear HB; have HO_9 := n0_; have HO_10 := n1_; have BK209 := n2_; have BK210 := n3_; have HB := n4_; clear n0_ n1_ n2_ n3_ n4_
          (try clear hb)
          (try clear hb2)
          (try clear hk)
          (try clear hi)
          refine hK.out _ _ ⟨(bC BK209.out 0).trans rfl, (bC BK209.out 1).trans rfl, (bC BK209.out 2).trans rfl, (bC BK209.out 3).trans rfl, (bC BK209.out 4).trans rfl, (bC BK210.out 0).trans rfl, (bC BK210.out 1).trans rfl, (bC BK210.out 2).trans rfl, (bC BK210.out 3).trans rfl, (bC BK210.out 4).trans rfl⟩ (fun hHeld => ?_); clear hK K; refine norm_ (a' := ?_) ?_ ?_; rotate_left
          ·
           show Act.put _ (some 46) _ = _
           simp only [Act.put, lT, l0_, lS, i64_w, i32_w]; rfl
          refine one_ (i := 3) (N := some 48) B19_30 rfl rfl (one_of HT_.out (by kernel_rfl)) (by decide) (fun K hK => ?_); refine goes_ Try.func30 (by kernel_rfl) rfl #[.agg #[.int .i64 a0_0, .int .i64 a0_1, .int .i64 a0_2, .slice A0_3 l0_3.length c0_3, .slice A0_4 l0_4.length c0_4]] (by rfl) rfl rfl (by (try simp only [List.map_toArray, List.map_cons, List.map_nil]); first | done | rfl | (simp only [List.length_drop, List.length_take]; rfl)) ?_
          with_reducible refine (potsherdref12_MayNode.calls k1 a0_0 a0_1 a0_2 _ _ l0_3 _ _ l0_4 t223 _ ?side1 ?side2 ?side3 ?side4 A35.out).mono ?_
          (case side1 => repeat (first | exact (Kd.C_below HR0_3.out HB.out) | (with_reducible refine Kd.C_alloc ?_ _) | (with_reducible refine Kd.C_drewN ?_ _) | (with_reducible refine Kd.C_drew ?_)))
          (case side2 => exact HC0_3.out)
          (case side3 => repeat (first | exact (Kd.C_below HR0_4.out HB.out) | (with_reducible refine Kd.C_alloc ?_ _) | (with_reducible refine Kd.C_drewN ?_ _) | (with_reducible refine Kd.C_drew ?_)))
          (case side4 => exact HC0_4.out)
          rintro e w50 ⟨rfl, hb⟩; refine ⟨_, rfl, ?_⟩; have n0_ := Aside0.mk (Kd.R_below (by (with_reducible repeat (first | apply Kd.R_alloc | apply Kd.R_drewN | apply Kd.R_drew)); exact HO_9.out) hb)
          have n1_ := Aside0.mk (Kd.R_below (by (with_reducible repeat (first | apply Kd.R_alloc | apply Kd.R_drewN | apply Kd.R_drew)); exact HO_10.out) hb)
          have n2_ := Aside0.mk (bB (g := gb209) (o := .cells #[.int .i64 a0_0, .int .i64 a0_1, .int .i64 a0_2, .slice A0_3 l0_3.length c0_3, .slice A0_4 l0_4.length c0_4] 43 (0, 0)) (by (with_reducible repeat (first | refine bN ?_ _ | refine bD ?_ | refine bA ?_ _)); exact BK209.out) hb)
          have n3_ := Aside0.mk (bB (g := gb210) (o := .cells #[.int .i64 a1_0, .int .i64 a1_1, .int .i64 a1_2, .slice A1_3 l1_3.length c1_3, .slice A1_4 l1_4.length c1_4] 43 (0, 0)) (by (with_reducible repeat (first | refine bN ?_ _ | refine bD ?_ | refine bA ?_ _)); exact BK210.out) hb)
          have n4_ := Aside0.mk (below_step (by repeat (first | (with_reducible first | exact HB.out | apply wA | apply wN | apply wD | refine wS ?_ GE209.out | refine wS ?_ GE210.out) | exact HB.out)) hb); clear HO_9; clear HO_10; clear BK209; clear BK210; clear HB; have HO_9 := n0_; have HO_10 := n1_; have BK209 := n2_; have BK210 := n3_; have HB := n4_; clear n0_ n1_ n2_ n3_ n4_
          (try clear hb)
          (try clear hb2)
          (try clear hk)
          (try clear hi)
          refine hK.out _ _ ⟨(bC BK209.out 0).trans rfl, (bC BK209.out 1).trans rfl, (bC BK209.out 2).trans rfl, (bC BK209.out 3).trans rfl, (bC BK209.out 4).trans rfl, (bC BK210.out 0).trans rfl, (bC BK210.out 1).trans rfl, (bC BK210.out 2).trans rfl, (bC BK210.out 3).trans rfl, (bC BK210.out 4).trans rfl⟩ (fun hHeld => ?_); clear hK K; refine norm_ (a' := ?_) ?_ ?_; rotate_left
          ·
           show Act.put _ (some 48) _ = _
           simp only [Act.put, lT, l0_, lS, i64_w, i32_w]; rfl
          refine pure_ (i := 4) (N := some 49) (v := ?_) (a' := ?_) B19_31 rfl rfl (any_of HT_.out (by kernel_rfl)) (fun _ _ _ h => h) (Or.inl ⟨by rfl, ?_⟩) ?_ ?_; rotate_left
          ·
           intro w'; go_simp; with_reducible rfl
          rotate_left
          ·
           simp only [Act.put, lT, l0_, lS, i64_w, i32_w]; rfl
          refine pure_ (i := 5) (N := some 50) (v := ?_) (a' := ?_) B19_32 rfl rfl (any_of HT_.out (by kernel_rfl)) (fun _ _ _ h => h) (Or.inl ⟨by rfl, ?_⟩) ?_ ?_; rotate_left
          ·
           intro w'; go_simp; with_reducible rfl
          rotate_left
          ·
           simp only [Act.put, lT, l0_, lS, i64_w, i32_w]; rfl
          refine take_ (i := 6) (N := some 51) (v := ?_) (a' := ?_) B19_33 rfl rfl (take_ofW HT_.out HW_.out (by kernel_rfl)) (fun _ _ _ h => h) (Or.inl ⟨by rfl, ?_⟩) hHeld ?_ ?_; rotate_left
          ·
           rintro w' ⟨s0, s1, s2, s3, s4, s5, s6, s7, s8, s9⟩; go_simp; with_reducible rfl
          rotate_left
          ·
           simp only [Act.put, lT, l0_, lS, i64_w, i32_w]; rfl
          refine take_ (i := 7) (N := some 52) (v := ?_) (a' := ?_) B19_34 rfl rfl (take_ofW HT_.out HW_.out (by kernel_rfl)) (fun _ _ _ h => h) (Or.inl ⟨by rfl, ?_⟩) hHeld ?_ ?_; rotate_left
          ·
           rintro w' ⟨s0, s1, s2, s3, s4, s5, s6, s7, s8, s9⟩; go_simp; with_reducible rfl
          rotate_left
          ·
           simp only [Act.put, lT, l0_, lS, i64_w, i32_w]; rfl
          refine take_ (i := 9) (N := some 54) (v := ?_) (a' := ?_) B19_35 rfl rfl (take_ofW HT_.out HW_.out (by kernel_rfl)) (fun _ _ _ h => h) (Or.inl ⟨by rfl, ?_⟩) hHeld ?_ ?_; rotate_left
          ·
           rintro w' ⟨s0, s1, s2, s3, s4, s5, s6, s7, s8, s9⟩; go_simp; with_reducible rfl
          rotate_left
          ·
           simp only [Act.put, lT, l0_, lS, i64_w, i32_w]; rfl
          refine take_ (i := 10) (N := some 55) (v := ?_) (a' := ?_) B19_36 rfl rfl (take_ofW HT_.out HW_.out (by kernel_rfl)) (fun _ _ _ h => h) (Or.inl ⟨by rfl, ?_⟩) hHeld ?_ ?_; rotate_left
          ·
           rintro w' ⟨s0, s1, s2, s3, s4, s5, s6, s7, s8, s9⟩; go_simp; with_reducible rfl
          rotate_left
          ·
           simp only [Act.put, lT, l0_, lS, i64_w, i32_w]; rfl
          refine one_ (i := 8) (N := some 53) B19_37 rfl rfl (one_of HT_.out (by kernel_rfl)) (by decide) (fun K hK => ?_); refine goes_ Try.func31 (by kernel_rfl) rfl #[.agg #[.int .i64 a0_0, .int .i64 a0_1, .int .i64 a0_2, .slice A0_3 l0_3.length c0_3, .slice A0_4 l0_4.length c0_4], .agg #[.int .i64 a1_0, .int .i64 a1_1, .int .i64 a1_2, .slice A1_3 l1_3.length c1_3, .slice A1_4 l1_4.length c1_4]] (by rfl) rfl rfl (by (try simp only [List.map_toArray, List.map_cons, List.map_nil]); first | done | rfl | (simp only [List.length_drop, List.length_take]; rfl)) ?_
          with_reducible refine (node_Same.calls k1 a0_0 a0_1 a0_2 _ _ l0_3 _ _ l0_4 a1_0 a1_1 a1_2 _ _ l1_3 _ _ l1_4 t224 _ ?side1 ?side2 ?side3 ?side4 ?side5 ?side6 ?side7 ?side8 A37.out).mono ?_
          (case side1 => repeat (first | exact (Kd.C_below HR0_3.out HB.out) | (with_reducible refine Kd.C_alloc ?_ _) | (with_reducible refine Kd.C_drewN ?_ _) | (with_reducible refine Kd.C_drew ?_)))
          (case side2 => exact HC0_3.out)
          (case side3 => repeat (first | exact (Kd.C_below HR0_4.out HB.out) | (with_reducible refine Kd.C_alloc ?_ _) | (with_reducible refine Kd.C_drewN ?_ _) | (with_reducible refine Kd.C_drew ?_)))
          (case side4 => exact HC0_4.out)
          (case side5 => repeat (first | exact (Kd.C_below HR1_3.out HB.out) | (with_reducible refine Kd.C_alloc ?_ _) | (with_reducible refine Kd.C_drewN ?_ _) | (with_reducible refine Kd.C_drew ?_)))
          (case side6 => exact HC1_3.out)
          (case side7 => repeat (first | exact (Kd.C_below HR1_4.out HB.out) | (with_reducible refine Kd.C_alloc ?_ _) | (with_reducible refine Kd.C_drewN ?_ _) | (with_reducible refine Kd.C_drew ?_)))
          (case side8 => exact HC1_4.out)
          rintro e w51 ⟨rfl, hb⟩; refine ⟨_, rfl, ?_⟩; have n0_ := Aside0.mk (Kd.R_below (by (with_reducible repeat (first | apply Kd.R_alloc | apply Kd.R_drewN | apply Kd.R_drew)); exact HO_9.out) hb)
          have n1_ := Aside0.mk (Kd.R_below (by (with_reducible repeat (first | apply Kd.R_alloc | apply Kd.R_drewN | apply Kd.R_drew)); exact HO_10.out) hb)
          have n2_ := Aside0.mk (bB (g := gb209) (o := .cells #[.int .i64 a0_0, .int .i64 a0_1, .int .i64 a0_2, .slice A0_3 l0_3.length c0_3, .slice A0_4 l0_4.length c0_4] 43 (0, 0)) (by (with_reducible repeat (first | refine bN ?_ _ | refine bD ?_ | refine bA ?_ _)); exact BK209.out) hb)
          have n3_ := Aside0.mk (bB (g := gb210) (o := .cells #[.int .i64 a1_0, .int .i64 a1_1, .int .i64 a1_2, .slice A1_3 l1_3.length c1_3, .slice A1_4 l1_4.length c1_4] 43 (0, 0)) (by (with_reducible repeat (first | refine bN ?_ _ | refine bD ?_ | refine bA ?_ _)); exact BK210.out) hb)
          have n4_ := Aside0.mk (below_step (by repeat (first | (with_reducible first | exact HB.out | apply wA | apply wN | apply wD | refine wS ?_ GE209.out | refine wS ?_ GE210.out) | exact HB.out)) hb); clear HO_9; clear HO_10; clear BK209; clear BK210; clear HB; have HO_9 := n0_; have HO_10 := n1_; have BK209 := n2_; have BK210 := n3_; have HB := n4_; clear n0_ n1_ n2_ n3_ n4_
          (try clear hb)
          (try clear hb2)
          (try clear hk)
          (try clear hi)
          refine hK.out _ _ ⟨(bC BK209.out 0).trans rfl, (bC BK209.out 1).trans rfl, (bC BK209.out 2).trans rfl, (bC BK209.out 3).trans rfl, (bC BK209.out 4).trans rfl, (bC BK210.out 0).trans rfl, (bC BK210.out 1).trans rfl, (bC BK210.out 2).trans rfl, (bC BK210.out 3).trans rfl, (bC BK210.out 4).trans rfl⟩ (fun hHeld => ?_); clear hK K; refine norm_ (a' := ?_) ?_ ?_; rotate_left
          ·
           show Act.put _ (some 53) _ = _
           simp only [Act.put, lT, l0_, lS, i64_w, i32_w]; rfl
          refine one_ (i := 11) (N := some 56) B19_38 rfl rfl (one_of HT_.out (by kernel_rfl)) (by decide) (fun K hK => ?_); refine goes_ Try.func32 (by kernel_rfl) rfl #[.agg #[.int .i64 a0_0, .int .i64 a0_1, .int .i64 a0_2, .slice A0_3 l0_3.length c0_3, .slice A0_4 l0_4.length c0_4], .agg #[.int .i64 a1_0, .int .i64 a1_1, .int .i64 a1_2, .slice A1_3 l1_3.length c1_3, .slice A1_4 l1_4.length c1_4]] (by rfl) rfl rfl (by (try simp only [List.map_toArray, List.map_cons, List.map_nil]); first | done | rfl | (simp only [List.length_drop, List.length_take]; rfl)) ?_
          with_reducible refine (potsherdref12_SameNode.calls k1 a0_0 a0_1 a0_2 _ _ l0_3 _ _ l0_4 a1_0 a1_1 a1_2 _ _ l1_3 _ _ l1_4 t225 _ ?side1 ?side2 ?side3 ?side4 ?side5 ?side6 ?side7 ?side8 A38.out).mono ?_
          (case side1 => repeat (first | exact (Kd.C_below HR0_3.out HB.out) | (with_reducible refine Kd.C_alloc ?_ _) | (with_reducible refine Kd.C_drewN ?_ _) | (with_reducible refine Kd.C_drew ?_)))
          (case side2 => exact HC0_3.out)
          (case side3 => repeat (first | exact (Kd.C_below HR0_4.out HB.out) | (with_reducible refine Kd.C_alloc ?_ _) | (with_reducible refine Kd.C_drewN ?_ _) | (with_reducible refine Kd.C_drew ?_)))
          (case side4 => exact HC0_4.out)
          (case side5 => repeat (first | exact (Kd.C_below HR1_3.out HB.out) | (with_reducible refine Kd.C_alloc ?_ _) | (with_reducible refine Kd.C_drewN ?_ _) | (with_reducible refine Kd.C_drew ?_)))
          (case side6 => exact HC1_3.out)
          (case side7 => repeat (first | exact (Kd.C_below HR1_4.out HB.out) | (with_reducible refine Kd.C_alloc ?_ _) | (with_reducible refine Kd.C_drewN ?_ _) | (with_reducible refine Kd.C_drew ?_)))
          (case side8 => exact HC1_4.out)
          rintro e w52 ⟨rfl, hb⟩; refine ⟨_, rfl, ?_⟩; have n0_ := Aside0.mk (Kd.R_below (by (with_reducible repeat (first | apply Kd.R_alloc | apply Kd.R_drewN | apply Kd.R_drew)); exact HO_9.out) hb)
          have n1_ := Aside0.mk (Kd.R_below (by (with_reducible repeat (first | apply Kd.R_alloc | apply Kd.R_drewN | apply Kd.R_drew)); exact HO_10.out) hb)
          have n2_ := Aside0.mk (bB (g := gb209) (o := .cells #[.int .i64 a0_0, .int .i64 a0_1, .int .i64 a0_2, .slice A0_3 l0_3.length c0_3, .slice A0_4 l0_4.length c0_4] 43 (0, 0)) (by (with_reducible repeat (first | refine bN ?_ _ | refine bD ?_ | refine bA ?_ _)); exact BK209.out) hb)
          have n3_ := Aside0.mk (bB (g := gb210) (o := .cells #[.int .i64 a1_0, .int .i64 a1_1, .int .i64 a1_2, .slice A1_3 l1_3.length c1_3, .slice A1_4 l1_4.length c1_4] 43 (0, 0)) (by (with_reducible repeat (first | refine bN ?_ _ | refine bD ?_ | refine bA ?_ _)); exact BK210.out) hb)
          have n4_ := Aside0.mk (below_step (by repeat (first | (with_reducible first | exact HB.out | apply wA | apply wN | apply wD | refine wS ?_ GE209.out | refine wS ?_ GE210.out) | exact HB.out)) hb); clear HO_9; clear HO_10; clear BK209; clear BK210; clear HB; have HO_9 := n0_; have HO_10 := n1_; have BK209 := n2_; have BK210 := n3_; have HB := n4_; clear n0_ n1_ n2_ n3_ n4_
          (try clear hb)
          (try clear hb2)
          (try clear hk)
          (try clear hi)
          refine hK.out _ _ ⟨(bC BK209.out 0).trans rfl, (bC BK209.out 1).trans rfl, (bC BK209.out 2).trans rfl, (bC BK209.out 3).trans rfl, (bC BK209.out 4).trans rfl, (bC BK210.out 0).trans rfl, (bC BK210.out 1).trans rfl, (bC BK210.out 2).trans rfl, (bC BK210.out 3).trans rfl, (bC BK210.out 4).trans rfl⟩ (fun hHeld => ?_); clear hK K; refine norm_ (a' := ?_) ?_ ?_; rotate_left
          ·
           show Act.put _ (some 56) _ = _
           simp only [Act.put, lT, l0_, lS, i64_w, i32_w]; rfl
          refine pure_ (i := 12) (N := some 57) (v := ?_) (a' := ?_) B19_39 rfl rfl (any_of HT_.out (by kernel_rfl)) (fun _ _ _ h => h) (Or.inl ⟨by rfl, ?_⟩) ?_ ?_; rotate_left
          ·
           intro w'; go_simp; with_reducible rfl
          rotate_left
          ·
           simp only [Act.put, lT, l0_, lS, i64_w, i32_w]; rfl
          refine pure_ (i := 13) (N := some 58) (v := ?_) (a' := ?_) B19_40 rfl rfl (any_of HT_.out (by kernel_rfl)) (fun _ _ _ h => h) (Or.inl ⟨by rfl, ?_⟩) ?_ ?_; rotate_left
          ·
           intro w'; go_simp; with_reducible rfl
          rotate_left
          ·
           simp only [Act.put, lT, l0_, lS, i64_w, i32_w]; rfl
          refine pure_ (i := 14) (N := some 59) (v := ?_) (a' := ?_) B19_41 rfl rfl (any_of HT_.out (by kernel_rfl)) (fun _ _ _ h => h) (Or.inl ⟨by rfl, ?_⟩) ?_ ?_; rotate_left
          ·
           intro w'; go_simp; with_reducible rfl
          rotate_left
          ·
           simp only [Act.put, lT, l0_, lS, i64_w, i32_w]; rfl
          refine pure_ (i := 15) (N := some 60) (v := ?_) (a' := ?_) B19_42 rfl rfl (any_of HT_.out (by kernel_rfl)) (fun _ _ _ h => h) (Or.inl ⟨by rfl, ?_⟩) ?_ ?_; rotate_left
          ·
           intro w'; go_simp; with_reducible rfl
          rotate_left
          ·
           simp only [Act.put, lT, l0_, lS, i64_w, i32_w]; rfl
          refine pure_ (i := 17) (N := some 62) (v := ?_) (a' := ?_) B19_43 rfl rfl (any_of HT_.out (by kernel_rfl)) (fun _ _ _ h => h) (Or.inl ⟨by rfl, ?_⟩) ?_ ?_; rotate_left
          ·
           intro w'; go_simp; with_reducible rfl
          rotate_left
          ·
           simp only [Act.put, lT, l0_, lS, i64_w, i32_w]; rfl
          refine one_ (i := 16) (N := some 61) B19_44 rfl rfl (one_of HT_.out (by kernel_rfl)) (by decide) (fun K hK => ?_); refine goes_ Try.func33 (by kernel_rfl) rfl #[.int .i64 a2] (by rfl) rfl rfl (by (try simp only [List.map_toArray, List.map_cons, List.map_nil]); first | done | rfl | (simp only [List.length_drop, List.length_take]; rfl)) ?_
          with_reducible refine (node_Empty.calls a2 t226 t227 t228 t229 t232 _ A40.out).mono ?_
          rintro e w53 ⟨v230, v233, rfl, ho0, ho1, hb⟩; refine ⟨_, rfl, ?_⟩; have n0_ := Aside0.mk (Kd.R_below (by (with_reducible repeat (first | apply Kd.R_alloc | apply Kd.R_drewN | apply Kd.R_drew)); exact HO_9.out) hb)
          have n1_ := Aside0.mk (Kd.R_below (by (with_reducible repeat (first | apply Kd.R_alloc | apply Kd.R_drewN | apply Kd.R_drew)); exact HO_10.out) hb)
          have n2_ := Aside0.mk (Kd.R_lower ho0 (below_size (by repeat (first | (with_reducible first | exact HB.out | apply wA | apply wN | apply wD | refine wS ?_ GE209.out | refine wS ?_ GE210.out) | exact HB.out)))); have n3_ := Aside0.mk (Kd.R_lower ho1 (below_size (by repeat (first | (with_reducible first | exact HB.out | apply wA | apply wN | apply wD | refine wS ?_ GE209.out | refine wS ?_ GE210.out) | exact HB.out)))); have n4_ := Aside0.mk (bB (g := gb209) (o := .cells #[.int .i64 a0_0, .int .i64 a0_1, .int .i64 a0_2, .slice A0_3 l0_3.length c0_3, .slice A0_4 l0_4.length c0_4] 43 (0, 0)) (by (with_reducible repeat (first | refine bN ?_ _ | refine bD ?_ | refine bA ?_ _)); exact BK209.out) hb)
          have n5_ := Aside0.mk (bB (g := gb210) (o := .cells #[.int .i64 a1_0, .int .i64 a1_1, .int .i64 a1_2, .slice A1_3 l1_3.length c1_3, .slice A1_4 l1_4.length c1_4] 43 (0, 0)) (by (with_reducible repeat (first | refine bN ?_ _ | refine bD ?_ | refine bA ?_ _)); exact BK210.out) hb)
          have n6_ := Aside0.mk (below_step (by repeat (first | (with_reducible first | exact HB.out | apply wA | apply wN | apply wD | refine wS ?_ GE209.out | refine wS ?_ GE210.out) | exact HB.out)) hb); clear HO_9; clear HO_10; clear BK209; clear BK210; clear HB; have HO_9 := n0_; have HO_10 := n1_; have HO231 := n2_; have HO234 := n3_; have BK209 := n4_; have BK210 := n5_; have HB := n6_; clear n0_ n1_ n2_ n3_ n4_ n5_ n6_
          (try clear hb)
          (try clear hb2)
          (try clear hk)
          (try clear hi)
          (try clear ho0)
          (try clear ho1)
          refine hK.out _ _ ⟨(bC BK209.out 0).trans rfl, (bC BK209.out 1).trans rfl, (bC BK209.out 2).trans rfl, (bC BK209.out 3).trans rfl, (bC BK209.out 4).trans rfl, (bC BK210.out 0).trans rfl, (bC BK210.out 1).trans rfl, (bC BK210.out 2).trans rfl, (bC BK210.out 3).trans rfl, (bC BK210.out 4).trans rfl⟩ (fun hHeld => ?_); clear hK K; refine norm_ (a' := ?_) ?_ ?_; rotate_left
          ·
           show Act.put _ (some 61) _ = _
           simp only [Act.put, lT, l0_, lS, i64_w, i32_w]; rfl
          refine one_ (i := 18) (N := some 63) B19_45 rfl rfl (one_of HT_.out (by kernel_rfl)) (by decide) (fun K hK => ?_); refine goes_ Try.func34 (by kernel_rfl) rfl #[.int .i64 a2] (by rfl) rfl rfl (by (try simp only [List.map_toArray, List.map_cons, List.map_nil]); first | done | rfl | (simp only [List.length_drop, List.length_take]; rfl)) ?_
          with_reducible refine (potsherdref12_EmptyNode.calls a2 t235 t236 t237 t238 t241 _ A41.out).mono ?_
          rintro e w54 ⟨v239, v242, rfl, ho0, ho1, hb⟩; refine ⟨_, rfl, ?_⟩; have n0_ := Aside0.mk (Kd.R_below (by (with_reducible repeat (first | apply Kd.R_alloc | apply Kd.R_drewN | apply Kd.R_drew)); exact HO_9.out) hb)
          have n1_ := Aside0.mk (Kd.R_below (by (with_reducible repeat (first | apply Kd.R_alloc | apply Kd.R_drewN | apply Kd.R_drew)); exact HO_10.out) hb)
          have n2_ := Aside0.mk (Kd.R_elder' (by (with_reducible repeat (first | apply Kd.R_alloc | apply Kd.R_drewN | apply Kd.R_drew)); exact HO231.out) (Kd.R_base ho0) hb)
          have n3_ := Aside0.mk (Kd.R_elder' (by (with_reducible repeat (first | apply Kd.R_alloc | apply Kd.R_drewN | apply Kd.R_drew)); exact HO234.out) (Kd.R_base ho1) hb)
          have n4_ := Aside0.mk (Kd.R_lower (Kd.R_new' ho0 (Kd.R_lt (by (with_reducible repeat (first | apply Kd.R_alloc | apply Kd.R_drewN | apply Kd.R_drew)); exact HO231.out))) (below_size (by repeat (first | (with_reducible first | exact HB.out | apply wA | apply wN | apply wD | refine wS ?_ GE209.out | refine wS ?_ GE210.out) | exact HB.out))))
          have n5_ := Aside0.mk (Kd.R_lower (Kd.R_new' ho1 (Kd.R_lt (by (with_reducible repeat (first | apply Kd.R_alloc | apply Kd.R_drewN | apply Kd.R_drew)); exact HO234.out))) (below_size (by repeat (first | (with_reducible first | exact HB.out | apply wA | apply wN | apply wD | refine wS ?_ GE209.out | refine wS ?_ GE210.out) | exact HB.out))))
          have n6_ := Aside0.mk (bB (g := gb209) (o := .cells #[.int .i64 a0_0, .int .i64 a0_1, .int .i64 a0_2, .slice A0_3 l0_3.length c0_3, .slice A0_4 l0_4.length c0_4] 43 (0, 0)) (by (with_reducible repeat (first | refine bN ?_ _ | refine bD ?_ | refine bA ?_ _)); exact BK209.out) hb)
          have n7_ := Aside0.mk (bB (g := gb210) (o := .cells #[.int .i64 a1_0, .int .i64 a1_1, .int .i64 a1_2, .slice A1_3 l1_3.length c1_3, .slice A1_4 l1_4.length c1_4] 43 (0, 0)) (by (with_reducible repeat (first | refine bN ?_ _ | refine bD ?_ | refine bA ?_ _)); exact BK210.out) hb)
          have n8_ := Aside0.mk (below_step (by repeat (first | (with_reducible first | exact HB.out | apply wA | apply wN | apply wD | refine wS ?_ GE209.out | refine wS ?_ GE210.out) | exact HB.out)) hb); clear HO_9; clear HO_10; clear HO231; clear HO234; clear BK209; clear BK210; clear HB; have HO_9 := n0_; have HO_10 := n1_; have HO231 := n2_; have HO234 := n3_; have HO240 := n4_; have HO243 := n5_; have BK209 := n6_; have BK210 := n7_; have HB := n8_; clear n0_ n1_ n2_ n3_ n4_ n5_ n6_ n7_ n8_
          (try clear hb)
          (try clear hb2)
          (try clear hk)
          (try clear hi)
          (try clear ho0)
          (try clear ho1)
          obtain ⟨Ao55, co55, eo55⟩ := Kd.R_slice HO231.out
          (first | subst eo55 | (injection eo55 with f1_ f2_ f3_; have f4_ := f1_.symm; have f5_ := f3_.symm; clear f1_ f2_ f3_; subst f4_; subst f5_))
          obtain ⟨Ao56, co56, eo56⟩ := Kd.R_slice HO234.out
          (first | subst eo56 | (injection eo56 with f1_ f2_ f3_; have f4_ := f1_.symm; have f5_ := f3_.symm; clear f1_ f2_ f3_; subst f4_; subst f5_))
          obtain ⟨Ao57, co57, eo57⟩ := Kd.R_slice HO240.out
          (first | subst eo57 | (injection eo57 with f1_ f2_ f3_; have f4_ := f1_.symm; have f5_ := f3_.symm; clear f1_ f2_ f3_; subst f4_; subst f5_))
          obtain ⟨Ao58, co58, eo58⟩ := Kd.R_slice HO243.out
          (first | subst eo58 | (injection eo58 with f1_ f2_ f3_; have f4_ := f1_.symm; have f5_ := f3_.symm; clear f1_ f2_ f3_; subst f4_; subst f5_))
          refine hK.out _ _ ⟨(bC BK209.out 0).trans rfl, (bC BK209.out 1).trans rfl, (bC BK209.out 2).trans rfl, (bC BK209.out 3).trans rfl, (bC BK209.out 4).trans rfl, (bC BK210.out 0).trans rfl, (bC BK210.out 1).trans rfl, (bC BK210.out 2).trans rfl, (bC BK210.out 3).trans rfl, (bC BK210.out 4).trans rfl⟩ (fun hHeld => ?_); clear hK K; refine norm_ (a' := ?_) ?_ ?_; rotate_left
          ·
           show Act.put _ (some 63) _ = _
           simp only [Act.put, lT, l0_, lS, i64_w, i32_w]; rfl
          refine one_ (i := 19) (N := some 64) B19_46 rfl rfl (one_of HT_.out (by kernel_rfl)) (by decide) (fun K hK => ?_); refine goes_ Try.func32 (by kernel_rfl) rfl #[.agg #[.int .i64 t226, .int .i64 t227, .int .i64 t228, .slice Ao55 t229.length co55, .slice Ao56 t232.length co56], .agg #[.int .i64 t235, .int .i64 t236, .int .i64 t237, .slice Ao57 t238.length co57, .slice Ao58 t241.length co58]] (by rfl) rfl rfl (by (try simp only [List.map_toArray, List.map_cons, List.map_nil]); first | done | rfl | (simp only [List.length_drop, List.length_take]; rfl)) ?_
          with_reducible refine (potsherdref12_SameNode.calls k1 t226 t227 t228 _ _ t229 _ _ t232 t235 t236 t237 _ _ t238 _ _ t241 true _ ?side1 ?side2 ?side3 ?side4 ?side5 ?side6 ?side7 ?side8 A42.out).mono ?_
          (case side1 => repeat (first | exact (Kd.R_reads' HO231.out).2.2 | (with_reducible refine Kd.C_alloc ?_ _) | (with_reducible refine Kd.C_drewN ?_ _) | (with_reducible refine Kd.C_drew ?_)))
          (case side2 => exact (Kd.R_reads' HO231.out).2.1)
          (case side3 => repeat (first | exact (Kd.R_reads' HO234.out).2.2 | (with_reducible refine Kd.C_alloc ?_ _) | (with_reducible refine Kd.C_drewN ?_ _) | (with_reducible refine Kd.C_drew ?_)))
          (case side4 => exact (Kd.R_reads' HO234.out).2.1)
          (case side5 => repeat (first | exact (Kd.R_reads' HO240.out).2.2 | (with_reducible refine Kd.C_alloc ?_ _) | (with_reducible refine Kd.C_drewN ?_ _) | (with_reducible refine Kd.C_drew ?_)))
          (case side6 => exact (Kd.R_reads' HO240.out).2.1)
          (case side7 => repeat (first | exact (Kd.R_reads' HO243.out).2.2 | (with_reducible refine Kd.C_alloc ?_ _) | (with_reducible refine Kd.C_drewN ?_ _) | (with_reducible refine Kd.C_drew ?_)))
          (case side8 => exact (Kd.R_reads' HO243.out).2.1)
          rintro e w59 ⟨rfl, hb⟩; refine ⟨_, rfl, ?_⟩; have n0_ := Aside0.mk (Kd.R_below (by (with_reducible repeat (first | apply Kd.R_alloc | apply Kd.R_drewN | apply Kd.R_drew)); exact HO_9.out) hb)
          have n1_ := Aside0.mk (Kd.R_below (by (with_reducible repeat (first | apply Kd.R_alloc | apply Kd.R_drewN | apply Kd.R_drew)); exact HO_10.out) hb)
          have n2_ := Aside0.mk (Kd.R_below (by (with_reducible repeat (first | apply Kd.R_alloc | apply Kd.R_drewN | apply Kd.R_drew)); exact HO231.out) hb)
          have n3_ := Aside0.mk (Kd.R_below (by (with_reducible repeat (first | apply Kd.R_alloc | apply Kd.R_drewN | apply Kd.R_drew)); exact HO234.out) hb)
          have n4_ := Aside0.mk (Kd.R_below (by (with_reducible repeat (first | apply Kd.R_alloc | apply Kd.R_drewN | apply Kd.R_drew)); exact HO240.out) hb)
          have n5_ := Aside0.mk (Kd.R_below (by (with_reducible repeat (first | apply Kd.R_alloc | apply Kd.R_drewN | apply Kd.R_drew)); exact HO243.out) hb)
          have n6_ := Aside0.mk (bB (g := gb209) (o := .cells #[.int .i64 a0_0, .int .i64 a0_1, .int .i64 a0_2, .slice A0_3 l0_3.length c0_3, .slice A0_4 l0_4.length c0_4] 43 (0, 0)) (by (with_reducible repeat (first | refine bN ?_ _ | refine bD ?_ | refine bA ?_ _)); exact BK209.out) hb)
          have n7_ := Aside0.mk (bB (g := gb210) (o := .cells #[.int .i64 a1_0, .int .i64 a1_1, .int .i64 a1_2, .slice A1_3 l1_3.length c1_3, .slice A1_4 l1_4.length c1_4] 43 (0, 0)) (by (with_reducible repeat (first | refine bN ?_ _ | refine bD ?_ | refine bA ?_ _)); exact BK210.out) hb)
          have n8_ := Aside0.mk (below_step (by repeat (first | (with_reducible first | exact HB.out | apply wA | apply wN | apply wD | refine wS ?_ GE209.out | refine wS ?_ GE210.out) | exact HB.out)) hb); clear HO_9; clear HO_10; clear HO231; clear HO234; clear HO240; clear HO243; clear BK209; clear BK210; clear HB; have HO_9 := n0_; have HO_10 := n1_; have HO231 := n2_; have HO234 := n3_; have HO240 := n4_; have HO243 := n5_; have BK209 := n6_; have BK210 := n7_; have HB := n8_; clear n0_ n1_ n2_ n3_ n4_ n5_ n6_ n7_ n8_
          (try clear hb)
          (try clear hb2)
          (try clear hk)
          (try clear hi)
          refine hK.out _ _ ⟨(bC BK209.out 0).trans rfl, (bC BK209.out 1).trans rfl, (bC BK209.out 2).trans rfl, (bC BK209.out 3).trans rfl, (bC BK209.out 4).trans rfl, (bC BK210.out 0).trans rfl, (bC BK210.out 1).trans rfl, (bC BK210.out 2).trans rfl, (bC BK210.out 3).trans rfl, (bC BK210.out 4).trans rfl⟩ (fun hHeld => ?_); clear hK K; refine norm_ (a' := ?_) ?_ ?_; rotate_left
          ·
           show Act.put _ (some 64) _ = _
           simp only [Act.put, lT, l0_, lS, i64_w, i32_w]; rfl
          refine pure_ (i := 20) (N := some 65) (v := ?_) (a' := ?_) B19_47 rfl rfl (any_of HT_.out (by kernel_rfl)) (fun _ _ _ h => h) (Or.inl ⟨by rfl, ?_⟩) ?_ ?_; rotate_left
          ·
           intro w'; go_simp; with_reducible rfl
          rotate_left
          ·
           simp only [Act.put, lT, l0_, lS, i64_w, i32_w]; rfl
          refine pure_ (i := 21) (N := some 66) (v := ?_) (a' := ?_) B19_48 rfl rfl (any_of HT_.out (by kernel_rfl)) (fun _ _ _ h => h) (Or.inl ⟨by rfl, ?_⟩) ?_ ?_; rotate_left
          ·
           intro w'; go_simp; with_reducible rfl
          rotate_left
          ·
           simp only [Act.put, lT, l0_, lS, i64_w, i32_w]; rfl
          refine take_ (i := 22) (N := some 67) (v := ?_) (a' := ?_) B19_49 rfl rfl (take_ofW HT_.out HW_.out (by kernel_rfl)) (fun _ _ _ h => h) (Or.inl ⟨by rfl, ?_⟩) hHeld ?_ ?_; rotate_left
          ·
           rintro w' ⟨s0, s1, s2, s3, s4, s5, s6, s7, s8, s9⟩; go_simp; with_reducible rfl
          rotate_left
          ·
           simp only [Act.put, lT, l0_, lS, i64_w, i32_w]; rfl
          refine take_ (i := 24) (N := some 69) (v := ?_) (a' := ?_) B19_50 rfl rfl (take_ofW HT_.out HW_.out (by kernel_rfl)) (fun _ _ _ h => h) (Or.inl ⟨by rfl, ?_⟩) hHeld ?_ ?_; rotate_left
          ·
           rintro w' ⟨s0, s1, s2, s3, s4, s5, s6, s7, s8, s9⟩; go_simp; with_reducible rfl
          rotate_left
          ·
           simp only [Act.put, lT, l0_, lS, i64_w, i32_w]; rfl
          refine one_ (i := 23) (N := some 68) B19_51 rfl rfl (one_of HT_.out (by kernel_rfl)) (by decide) (fun K hK => ?_); refine goes_ Try.func35 (by kernel_rfl) rfl #[.agg #[.int .i64 a0_0, .int .i64 a0_1, .int .i64 a0_2, .slice A0_3 l0_3.length c0_3, .slice A0_4 l0_4.length c0_4]] (by rfl) rfl rfl (by (try simp only [List.map_toArray, List.map_cons, List.map_nil]); first | done | rfl | (simp only [List.length_drop, List.length_take]; rfl)) ?_
          with_reducible refine (node_Pages.calls k1 a0_0 a0_1 a0_2 _ _ l0_3 _ _ l0_4 t245 _ ?side1 ?side2 ?side3 ?side4 A44.out).mono ?_
          (case side1 => repeat (first | exact (Kd.C_below HR0_3.out HB.out) | (with_reducible refine Kd.C_alloc ?_ _) | (with_reducible refine Kd.C_drewN ?_ _) | (with_reducible refine Kd.C_drew ?_)))
          (case side2 => exact HC0_3.out)
          (case side3 => repeat (first | exact (Kd.C_below HR0_4.out HB.out) | (with_reducible refine Kd.C_alloc ?_ _) | (with_reducible refine Kd.C_drewN ?_ _) | (with_reducible refine Kd.C_drew ?_)))
          (case side4 => exact HC0_4.out)
          rintro e w60 ⟨rfl, hb⟩; refine ⟨_, rfl, ?_⟩; have n0_ := Aside0.mk (Kd.R_below (by (with_reducible repeat (first | apply Kd.R_alloc | apply Kd.R_drewN | apply Kd.R_drew)); exact HO_9.out) hb)
          have n1_ := Aside0.mk (Kd.R_below (by (with_reducible repeat (first | apply Kd.R_alloc | apply Kd.R_drewN | apply Kd.R_drew)); exact HO_10.out) hb)
          have n2_ := Aside0.mk (Kd.R_below (by (with_reducible repeat (first | apply Kd.R_alloc | apply Kd.R_drewN | apply Kd.R_drew)); exact HO231.out) hb)
          have n3_ := Aside0.mk (Kd.R_below (by (with_reducible repeat (first | apply Kd.R_alloc | apply Kd.R_drewN | apply Kd.R_drew)); exact HO234.out) hb)
          have n4_ := Aside0.mk (Kd.R_below (by (with_reducible repeat (first | apply Kd.R_alloc | apply Kd.R_drewN | apply Kd.R_drew)); exact HO240.out) hb)
          have n5_ := Aside0.mk (Kd.R_below (by (with_reducible repeat (first | apply Kd.R_alloc | apply Kd.R_drewN | apply Kd.R_drew)); exact HO243.out) hb)
          have n6_ := Aside0.mk (bB (g := gb209) (o := .cells #[.int .i64 a0_0, .int .i64 a0_1, .int .i64 a0_2, .slice A0_3 l0_3.length c0_3, .slice A0_4 l0_4.length c0_4] 43 (0, 0)) (by (with_reducible repeat (first | refine bN ?_ _ | refine bD ?_ | refine bA ?_ _)); exact BK209.out) hb)
          have n7_ := Aside0.mk (bB (g := gb210) (o := .cells #[.int .i64 a1_0, .int .i64 a1_1, .int .i64 a1_2, .slice A1_3 l1_3.length c1_3, .slice A1_4 l1_4.length c1_4] 43 (0, 0)) (by (with_reducible repeat (first | refine bN ?_ _ | refine bD ?_ | refine bA ?_ _)); exact BK210.out) hb)
          have n8_ := Aside0.mk (below_step (by repeat (first | (with_reducible first | exact HB.out | apply wA | apply wN | apply wD | refine wS ?_ GE209.out | refine wS ?_ GE210.out) | exact HB.out)) hb); clear HO_9; clear HO_10; clear HO231; clear HO234; clear HO240; clear HO243; clear BK209; clear BK210; clear HB; have HO_9 := n0_; have HO_10 := n1_; have HO231 := n2_; have HO234 := n3_; have HO240 := n4_; have HO243 := n5_; have BK209 := n6_; have BK210 := n7_; have HB := n8_; clear n0_ n1_ n2_ n3_ n4_ n5_ n6_ n7_ n8_
          (try clear hb)
          (try clear hb2)
          (try clear hk)
          (try clear hi)
          refine hK.out _ _ ⟨(bC BK209.out 0).trans rfl, (bC BK209.out 1).trans rfl, (bC BK209.out 2).trans rfl, (bC BK209.out 3).trans rfl, (bC BK209.out 4).trans rfl, (bC BK210.out 0).trans rfl, (bC BK210.out 1).trans rfl, (bC BK210.out 2).trans rfl, (bC BK210.out 3).trans rfl, (bC BK210.out 4).trans rfl⟩ (fun hHeld => ?_); clear hK K; refine norm_ (a' := ?_) ?_ ?_; rotate_left
          ·
           show Act.put _ (some 68) _ = _
           simp only [Act.put, lT, l0_, lS, i64_w, i32_w]; rfl
          refine one_ (i := 25) (N := some 70) B19_52 rfl rfl (one_of HT_.out (by kernel_rfl)) (by decide) (fun K hK => ?_); refine goes_ Try.func36 (by kernel_rfl) rfl #[.agg #[.int .i64 a0_0, .int .i64 a0_1, .int .i64 a0_2, .slice A0_3 l0_3.length c0_3, .slice A0_4 l0_4.length c0_4]] (by rfl) rfl rfl (by (try simp only [List.map_toArray, List.map_cons, List.map_nil]); first | done | rfl | (simp only [List.length_drop, List.length_take]; rfl)) ?_
          with_reducible refine (potsherdref12_Pages.calls k1 a0_0 a0_1 a0_2 _ _ l0_3 _ _ l0_4 t246 _ ?side1 ?side2 ?side3 ?side4 A45.out).mono ?_
          (case side1 => repeat (first | exact (Kd.C_below HR0_3.out HB.out) | (with_reducible refine Kd.C_alloc ?_ _) | (with_reducible refine Kd.C_drewN ?_ _) | (with_reducible refine Kd.C_drew ?_)))
          (case side2 => exact HC0_3.out)
          (case side3 => repeat (first | exact (Kd.C_below HR0_4.out HB.out) | (with_reducible refine Kd.C_alloc ?_ _) | (with_reducible refine Kd.C_drewN ?_ _) | (with_reducible refine Kd.C_drew ?_)))
          (case side4 => exact HC0_4.out)
          rintro e w61 ⟨rfl, hb⟩; refine ⟨_, rfl, ?_⟩; have n0_ := Aside0.mk (Kd.R_below (by (with_reducible repeat (first | apply Kd.R_alloc | apply Kd.R_drewN | apply Kd.R_drew)); exact HO_9.out) hb)
          have n1_ := Aside0.mk (Kd.R_below (by (with_reducible repeat (first | apply Kd.R_alloc | apply Kd.R_drewN | apply Kd.R_drew)); exact HO_10.out) hb)
          have n2_ := Aside0.mk (Kd.R_below (by (with_reducible repeat (first | apply Kd.R_alloc | apply Kd.R_drewN | apply Kd.R_drew)); exact HO231.out) hb)
          have n3_ := Aside0.mk (Kd.R_below (by (with_reducible repeat (first | apply Kd.R_alloc | apply Kd.R_drewN | apply Kd.R_drew)); exact HO234.out) hb)
          have n4_ := Aside0.mk (Kd.R_below (by (with_reducible repeat (first | apply Kd.R_alloc | apply Kd.R_drewN | apply Kd.R_drew)); exact HO240.out) hb)
          have n5_ := Aside0.mk (Kd.R_below (by (with_reducible repeat (first | apply Kd.R_alloc | apply Kd.R_drewN | apply Kd.R_drew)); exact HO243.out) hb)
          have n6_ := Aside0.mk (bB (g := gb209) (o := .cells #[.int .i64 a0_0, .int .i64 a0_1, .int .i64 a0_2, .slice A0_3 l0_3.length c0_3, .slice A0_4 l0_4.length c0_4] 43 (0, 0)) (by (with_reducible repeat (first | refine bN ?_ _ | refine bD ?_ | refine bA ?_ _)); exact BK209.out) hb)
          have n7_ := Aside0.mk (bB (g := gb210) (o := .cells #[.int .i64 a1_0, .int .i64 a1_1, .int .i64 a1_2, .slice A1_3 l1_3.length c1_3, .slice A1_4 l1_4.length c1_4] 43 (0, 0)) (by (with_reducible repeat (first | refine bN ?_ _ | refine bD ?_ | refine bA ?_ _)); exact BK210.out) hb)
          have n8_ := Aside0.mk (below_step (by repeat (first | (with_reducible first | exact HB.out | apply wA | apply wN | apply wD | refine wS ?_ GE209.out | refine wS ?_ GE210.out) | exact HB.out)) hb); clear HO_9; clear HO_10; clear HO231; clear HO234; clear HO240; clear HO243; clear BK209; clear BK210; clear HB; have HO_9 := n0_; have HO_10 := n1_; have HO231 := n2_; have HO234 := n3_; have HO240 := n4_; have HO243 := n5_; have BK209 := n6_; have BK210 := n7_; have HB := n8_; clear n0_ n1_ n2_ n3_ n4_ n5_ n6_ n7_ n8_
          (try clear hb)
          (try clear hb2)
          (try clear hk)
          (try clear hi)
          refine hK.out _ _ ⟨(bC BK209.out 0).trans rfl, (bC BK209.out 1).trans rfl, (bC BK209.out 2).trans rfl, (bC BK209.out 3).trans rfl, (bC BK209.out 4).trans rfl, (bC BK210.out 0).trans rfl, (bC BK210.out 1).trans rfl, (bC BK210.out 2).trans rfl, (bC BK210.out 3).trans rfl, (bC BK210.out 4).trans rfl⟩ (fun hHeld => ?_); clear hK K; refine norm_ (a' := ?_) ?_ ?_; rotate_left
          ·
           show Act.put _ (some 70) _ = _
           simp only [Act.put, lT, l0_, lS, i64_w, i32_w]; rfl
          refine pure_ (i := 26) (N := some 71) (v := ?_) (a' := ?_) B19_53 rfl rfl (any_of HT_.out (by kernel_rfl)) (fun _ _ _ h => h) (Or.inl ⟨by rfl, ?_⟩) ?_ ?_; rotate_left
          ·
           intro w'; go_simp; with_reducible rfl
          rotate_left
          ·
           simp only [Act.put, lT, l0_, lS, i64_w, i32_w]; rfl
          refine pure_ (i := 27) (N := some 72) (v := ?_) (a' := ?_) B19_54 rfl rfl (any_of HT_.out (by kernel_rfl)) (fun _ _ _ h => h) (Or.inl ⟨by rfl, ?_⟩) ?_ ?_; rotate_left
          ·
           intro w'; go_simp; with_reducible rfl
          rotate_left
          ·
           simp only [Act.put, lT, l0_, lS, i64_w, i32_w]; rfl
          refine pure_ (i := 28) (N := some 73) (v := ?_) (a' := ?_) B19_55 rfl rfl (any_of HT_.out (by kernel_rfl)) (fun _ _ _ h => h) (Or.inl ⟨by rfl, ?_⟩) ?_ ?_; rotate_left
          ·
           intro w'; go_simp; with_reducible rfl
          rotate_left
          ·
           simp only [Act.put, lT, l0_, lS, i64_w, i32_w]; rfl
          refine one_ (i := 29) (N := some 74) B19_56 rfl rfl (one_of HT_.out (by kernel_rfl)) (by decide) (fun K hK => ?_); refine goes_ Try.func26 (by kernel_rfl) rfl #[] (by rfl) rfl rfl (by (try simp only [List.map_toArray, List.map_cons, List.map_nil]); first | done | rfl | (simp only [List.length_drop, List.length_take]; rfl)) ?_
          with_reducible refine (potsherdlaw14_awake.calls k1  t247 _ A47.out).mono ?_
          rintro e w62 ⟨rfl, hb⟩; refine ⟨_, rfl, ?_⟩; have n0_ := Aside0.mk (Kd.R_below (by (with_reducible repeat (first | apply Kd.R_alloc | apply Kd.R_drewN | apply Kd.R_drew)); exact HO_9.out) hb)
          have n1_ := Aside0.mk (Kd.R_below (by (with_reducible repeat (first | apply Kd.R_alloc | apply Kd.R_drewN | apply Kd.R_drew)); exact HO_10.out) hb)
          have n2_ := Aside0.mk (Kd.R_below (by (with_reducible repeat (first | apply Kd.R_alloc | apply Kd.R_drewN | apply Kd.R_drew)); exact HO231.out) hb)
          have n3_ := Aside0.mk (Kd.R_below (by (with_reducible repeat (first | apply Kd.R_alloc | apply Kd.R_drewN | apply Kd.R_drew)); exact HO234.out) hb)
          have n4_ := Aside0.mk (Kd.R_below (by (with_reducible repeat (first | apply Kd.R_alloc | apply Kd.R_drewN | apply Kd.R_drew)); exact HO240.out) hb)
          have n5_ := Aside0.mk (Kd.R_below (by (with_reducible repeat (first | apply Kd.R_alloc | apply Kd.R_drewN | apply Kd.R_drew)); exact HO243.out) hb)
          have n6_ := Aside0.mk (bB (g := gb209) (o := .cells #[.int .i64 a0_0, .int .i64 a0_1, .int .i64 a0_2, .slice A0_3 l0_3.length c0_3, .slice A0_4 l0_4.length c0_4] 43 (0, 0)) (by (with_reducible repeat (first | refine bN ?_ _ | refine bD ?_ | refine bA ?_ _)); exact BK209.out) hb)
          have n7_ := Aside0.mk (bB (g := gb210) (o := .cells #[.int .i64 a1_0, .int .i64 a1_1, .int .i64 a1_2, .slice A1_3 l1_3.length c1_3, .slice A1_4 l1_4.length c1_4] 43 (0, 0)) (by (with_reducible repeat (first | refine bN ?_ _ | refine bD ?_ | refine bA ?_ _)); exact BK210.out) hb)
          have n8_ := Aside0.mk (below_step (by repeat (first | (with_reducible first | exact HB.out | apply wA | apply wN | apply wD | refine wS ?_ GE209.out | refine wS ?_ GE210.out) | exact HB.out)) hb); clear HO_9; clear HO_10; clear HO231; clear HO234; clear HO240; clear HO243; clear BK209; clear BK210; clear HB; have HO_9 := n0_; have HO_10 := n1_; have HO231 := n2_; have HO234 := n3_; have HO240 := n4_; have HO243 := n5_; have BK209 := n6_; have BK210 := n7_; have HB := n8_; clear n0_ n1_ n2_ n3_ n4_ n5_ n6_ n7_ n8_
          (try clear hb)
          (try clear hb2)
          (try clear hk)
          (try clear hi)
          refine hK.out _ _ ⟨(bC BK209.out 0).trans rfl, (bC BK209.out 1).trans rfl, (bC BK209.out 2).trans rfl, (bC BK209.out 3).trans rfl, (bC BK209.out 4).trans rfl, (bC BK210.out 0).trans rfl, (bC BK210.out 1).trans rfl, (bC BK210.out 2).trans rfl, (bC BK210.out 3).trans rfl, (bC BK210.out 4).trans rfl⟩ (fun hHeld => ?_); clear hK K; refine norm_ (a' := ?_) ?_ ?_; rotate_left
          ·
           show Act.put _ (some 74) _ = _
           simp only [Act.put, lT, l0_, lS, i64_w, i32_w]; rfl
          refine pure_ (i := 30) (N := some 75) (v := ?_) (a' := ?_) B19_57 rfl rfl (any_of HT_.out (by kernel_rfl)) (fun _ _ _ h => h) (Or.inl ⟨by rfl, ?_⟩) ?_ ?_; rotate_left
          ·
           intro w'; go_simp; with_reducible rfl
          rotate_left
          ·
           simp only [Act.put, lT, l0_, lS, i64_w, i32_w]; rfl
          refine pure_ (i := 31) (N := some 8) (v := ?_) (a' := ?_) B19_58 rfl rfl (any_of HT_.out (by kernel_rfl)) (fun _ _ _ h => h) (Or.inl ⟨by rfl, ?_⟩) ?_ ?_; rotate_left
          ·
           intro w'; go_simp; with_reducible rfl
          rotate_left
          ·
           simp only [Act.put, lT, l0_, lS, i64_w, i32_w]; rfl
          refine done_ (done_of HT_.out (by kernel_rfl)) ?_
          try go_wp2
          go_ret
          exact ⟨by first | rfl | exact congrArg (fun b_ => Ending.returned (Value.bool b_)) HRET.out | (rw [HRET.out]) | (simp [errW_none, errW_some] <;> rfl) | (simp [*, errW_none, errW_some] <;> rfl), by repeat (first | (with_reducible first | exact HB.out | apply wA | apply wN | apply wD | refine wS ?_ GE209.out | refine wS ?_ GE210.out) | exact HB.out)⟩
         ·
          rw [if_neg c46] at H; have c46b0 : (t245 == t246) = false := beq_eq_false_iff_ne.mpr c46; have c46b1 : (t245 != t246) = true := bne_iff_ne.mpr c46; exact absurd H (by simp)
        ·
         replace c43 := Bool.eq_false_iff.mpr c43; subst c43
         have H1 : (some false) = some true := by rw [if_neg (show ¬ (false = true) by decide)] at H; exact H
         clear H; have H := H1; clear H1; exact absurd H (by simp)
       ·
        rw [if_neg c39] at H
        have c39b0 : (t224 == t225) = false := by simpa using c39
        (try (have c39b1 : decide (t224 = t225) = false := by simpa using c39))
        (try (have c39b2 : (t224 == t225) = false := by simpa using c39))
        (try (have c39b3 : ¬ (t224 = t225) := by simpa using c39))
        clear c39; exact absurd H (by simp)
      ·
       rw [if_neg c36] at H
       have c36b0 : (t222 == t223) = false := by simpa using c36
       (try (have c36b1 : decide (t222 = t223) = false := by simpa using c36))
       (try (have c36b2 : (t222 == t223) = false := by simpa using c36))
       (try (have c36b3 : ¬ (t222 = t223) := by simpa using c36))
       clear c36; exact absurd H (by simp)
  ·
   rw [if_neg c17] at H; have c17b0 : ((t214.length : Int) == (t217.length : Int)) = false := beq_eq_false_iff_ne.mpr c17; have c17b1 : ((t214.length : Int) != (t217.length : Int)) = true := bne_iff_ne.mpr c17
   have c17b2 : (t214.length == t217.length) = false := by first | simpa using c17 | (simp at c17 ⊢; omega)
   exact absurd H (by simp)

end Go.Proofs.Ytbaiicnibiogpaa.PNode
