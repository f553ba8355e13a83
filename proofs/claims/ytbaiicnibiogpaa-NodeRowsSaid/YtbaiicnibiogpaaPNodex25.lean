/- The Go functions that these laws reach, each as a Lean function with the same answers (a law itself where it answers true), and the proof that the code comes to them; conditions: those of each theorem. Laid by a program of this session over the print. -/
import Derived.Test.YtbaiicnibiogpaaPNodex0
import Derived.Test.YtbaiicnibiogpaaPNodex3
import Derived.Test.YtbaiicnibiogpaaPNodex9
import Derived.Test.YtbaiicnibiogpaaPNodex11
import Derived.Test.YtbaiicnibiogpaaPNodex12
import Derived.Test.YtbaiicnibiogpaaPNodex15
namespace Go.Proofs.Ytbaiicnibiogpaa.PNode
open Go.RowKit Go.Proofs.YtbaiicnibiogpaaW.PrintWords Go.Proofs.YtbaiicnibiogpaaW.PrintLast Go.Proofs.YtbaiicnibiogpaaW.PrintMore
attribute [local go_sem] max2_int min2_int max_two min_two max_three min_three max_four min_four   -- for this text's walks alone
set_option linter.unusedVariables false
set_option linter.unusedSimpArgs false
open Go.Proofs.YtbaiicnibiogpaaW.PrintWords renaming blk_drewN → bN, blk_drew → bD, blk_alloc → bA, below_set → wS, below_alloc → wA, pw_below_drewN → wN, below_drew1 → wD, blk_below → bB, blk_far → bF, blk_cell → bC, blk_frozen → bZ
open List renaming setIfInBounds_toArray → lT, set_cons_zero → l0_, set_cons_succ → lS
abbrev B25_0 : Array Bool := #[false, false, false, false, false, false, false, false, false, false, false, false, false, false, false, false]
abbrev B25_1 : Array Bool := #[true, false, false, false, false, false, false, false, false, false, false, false, false, false, false, false]
abbrev B25_2 : Array Bool := #[true, false, true, false, false, false, false, false, false, false, false, false, false, false, false, false]
abbrev B25_3 : Array Bool := #[true, true, true, false, false, false, false, false, false, false, false, false, false, false, false, false]
abbrev B25_4 : Array Bool := #[true, true, true, true, false, false, false, false, false, false, false, false, false, false, false, false]
abbrev B25_5 : Array Bool := #[true, true, true, true, true, false, false, false, false, false, false, false, false, false, false, false]
abbrev B25_6 : Array Bool := #[true, true, true, true, true, true, false, false, false, false, false, false, false, false, false, false]
abbrev B25_7 : Array Bool := #[true, true, true, true, true, true, true, false, false, false, false, false, false, false, false, false]
abbrev B25_8 : Array Bool := #[true, true, true, true, true, true, true, true, false, false, false, false, false, false, false, false]
abbrev B25_9 : Array Bool := #[true, true, true, true, true, true, true, true, true, false, false, false, false, false, false, false]
abbrev B25_10 : Array Bool := #[true, true, true, true, true, true, true, true, true, true, false, false, false, false, false, false]
abbrev B25_11 : Array Bool := #[true, true, true, true, true, true, true, true, true, true, true, false, false, false, false, false]
abbrev B25_12 : Array Bool := #[true, true, true, true, true, true, true, true, true, true, true, true, false, false, false, false]
abbrev B25_13 : Array Bool := #[true, true, true, true, true, true, true, true, true, true, true, true, true, false, false, false]
abbrev B25_14 : Array Bool := #[true, true, true, true, true, true, true, true, true, true, true, true, true, true, false, false]
abbrev B25_15 : Array Bool := #[true, true, true, true, true, true, true, true, true, true, true, true, true, true, true, false]
abbrev B25_16 : Array Bool := #[true, true, true, true, true, true, true, true, true, true, true, true, true, true, true, true]
abbrev B25_17 : Array Bool := #[false, false, false, false, false, false, false, false]
abbrev B25_18 : Array Bool := #[true, false, false, false, false, false, false, false]
abbrev B25_19 : Array Bool := #[true, false, false, true, false, false, false, false]
abbrev B25_20 : Array Bool := #[true, true, false, true, false, false, false, false]
abbrev B25_21 : Array Bool := #[true, true, false, true, true, false, false, false]
abbrev B25_22 : Array Bool := #[true, true, true, true, true, false, false, false]
abbrev B25_23 : Array Bool := #[true, true, true, true, true, true, false, false]
abbrev B25_24 : Array Bool := #[true, true, true, true, true, true, true, false]
abbrev B25_25 : Array Bool := #[true, true, true, true, true, true, true, true]

/-! ### potsherdlaw14_NodeRows: function 11 -/
mutual
def potsherdlaw14_NodeRows.j0 : Nat → Int → Int → Bool → Int → Int → Int → List Int → List (S38) → Int → Int → Int → List Int → List (S38) → Option (Bool)
 | 0, _, _, _, _, _, _, _, _, _, _, _, _, _ => none
 | k + 1, x2, x3, x30, x355000, x355001, x355002, x355003, x355004, x356000, x356001, x356002, x356003, x356004 => if x30 = true then ((potsherdlaw14_awake.f k).bind fun t360 => (some t360)) else ((node_Refs.f k (wrap64 (Int.tmod (IntKind.u64.wrap (x2)) 12)) x355000 x355001 x355002 x355003 x355004).bind fun t361 => ((node_Refs.f k (wrap64 (Int.tmod (IntKind.u64.wrap (x3)) 12)) x356000 x356001 x356002 x356003 x356004).bind fun t364 => ((node_Pages.f k x355000 x355001 x355002 x355003 x355004).bind fun t367 => (if (t361.length : Int) = t367 then ((node_Pages.f k x356000 x356001 x356002 x356003 x356004).bind fun t368 => (if (t364.length : Int) = t368 then ((node_Refs.f k 12 x355000 x355001 x355002 x355003 x355004).bind fun t369 => (if (t369.length : Int) = 0 then ((node_Refs.f k (-1) x355000 x355001 x355002 x355003 x355004).bind fun t372 => (potsherdlaw14_NodeRows.j1 k (wrap64 (Int.tmod (IntKind.u64.wrap (x2)) 12)) (wrap64 (Int.tmod (IntKind.u64.wrap (x3)) 12)) t361 t364 ((t372.length : Int) != 0))) else (potsherdlaw14_NodeRows.j1 k (wrap64 (Int.tmod (IntKind.u64.wrap (x2)) 12)) (wrap64 (Int.tmod (IntKind.u64.wrap (x3)) 12)) t361 t364 true))) else (potsherdlaw14_NodeRows.j1 k (wrap64 (Int.tmod (IntKind.u64.wrap (x2)) 12)) (wrap64 (Int.tmod (IntKind.u64.wrap (x3)) 12)) t361 t364 true))) else (potsherdlaw14_NodeRows.j1 k (wrap64 (Int.tmod (IntKind.u64.wrap (x2)) 12)) (wrap64 (Int.tmod (IntKind.u64.wrap (x3)) 12)) t361 t364 true)))))
def potsherdlaw14_NodeRows.j1 : Nat → Int → Int → List (S48) → List (S48) → Bool → Option (Bool)
 | 0, _, _, _, _, _ => none
 | k + 1, x2, x3, x9, x10, x69 => if x69 = true then (some false) else (potsherdlaw14_NodeRows.l0 k x2 x3 x10 x9 (x9.length : Int) 0)
def potsherdlaw14_NodeRows.l0 : Nat → Int → Int → List (S48) → List (S48) → Int → Int → Option (Bool)
 | 0, _, _, _, _, _, _ => none
 | k + 1, x2, x3, x10, x70, x71, x72 => if x72 < x71 then (if 0 ≤ x72 then (if x72 < (x70.length : Int) then (potsherdlaw14_NodeRows.l1 k x2 x3 x10 x70 x71 x72 x10 (x10.length : Int) 0 ((rd_T48 x70 x72).f0) ((rd_T48 x70 x72).f1)) else (none)) else (none)) else ((potsherdlaw14_awake.f k).bind fun t375 => (some t375))
def potsherdlaw14_NodeRows.l1 : Nat → Int → Int → List (S48) → List (S48) → Int → Int → List (S48) → Int → Int → Int → Int → Option (Bool)
 | 0, _, _, _, _, _, _, _, _, _, _, _ => none
 | k + 1, x2, x3, x10, x70, x71, x72, x76, x77, x78, x378000, x378001 => if x78 < x77 then (if 0 ≤ x78 then (if x78 < (x76.length : Int) then (if x2 = x3 then (potsherdlaw14_NodeRows.l1 k x2 x3 x10 x70 x71 x72 x76 x77 (wrap64 (x78 + 1)) x378000 x378001) else (if x378000 = ((rd_T48 x76 x78).f0) then (some false) else (potsherdlaw14_NodeRows.l1 k x2 x3 x10 x70 x71 x72 x76 x77 (wrap64 (x78 + 1)) x378000 x378001))) else (none)) else (none)) else (potsherdlaw14_NodeRows.l0 k x2 x3 x10 x70 x71 (wrap64 (x72 + 1)))
end
def potsherdlaw14_NodeRows.f (k : Nat) (a0_0 : Int) (a0_1 : Int) (a0_2 : Int) (l0_3 : List Int) (l0_4 : List (S38)) (a1_0 : Int) (a1_1 : Int) (a1_2 : Int) (l1_3 : List Int) (l1_4 : List (S38)) (a2 : Int) (a3 : Int) : Option (Bool) := (potsherdlaw14_Light.f k a0_0 a0_1 a0_2 l0_3 l0_4).bind fun t356 => ((potsherdlaw14_Light.f k a1_0 a1_1 a1_2 l1_3 l1_4).bind fun t357 => (if (wrap64 (t356 + t357)) > 0 then (potsherdlaw14_NodeRows.j0 k a2 a3 true a0_0 a0_1 a0_2 l0_3 l0_4 a1_0 a1_1 a1_2 l1_3 l1_4) else ((potsherdref12_MayNode.f k a0_0 a0_1 a0_2 l0_3 l0_4).bind fun t358 => (if t358 = true then ((potsherdref12_MayNode.f k a1_0 a1_1 a1_2 l1_3 l1_4).bind fun t359 => (potsherdlaw14_NodeRows.j0 k a2 a3 (!t359) a0_0 a0_1 a0_2 l0_3 l0_4 a1_0 a1_1 a1_2 l1_3 l1_4)) else (potsherdlaw14_NodeRows.j0 k a2 a3 true a0_0 a0_1 a0_2 l0_3 l0_4 a1_0 a1_1 a1_2 l1_3 l1_4)))))
theorem potsherdlaw14_NodeRows.mono_l : ∀ k, (∀ y0 y1 y2 y3 y4 y5 y6 y7 y8 y9 y10 y11 y12, LeO (potsherdlaw14_NodeRows.j0 k y0 y1 y2 y3 y4 y5 y6 y7 y8 y9 y10 y11 y12) (potsherdlaw14_NodeRows.j0 (k + 1) y0 y1 y2 y3 y4 y5 y6 y7 y8 y9 y10 y11 y12)) ∧ (∀ y0 y1 y2 y3 y4, LeO (potsherdlaw14_NodeRows.j1 k y0 y1 y2 y3 y4) (potsherdlaw14_NodeRows.j1 (k + 1) y0 y1 y2 y3 y4)) ∧ (∀ y0 y1 y2 y3 y4 y5, LeO (potsherdlaw14_NodeRows.l0 k y0 y1 y2 y3 y4 y5) (potsherdlaw14_NodeRows.l0 (k + 1) y0 y1 y2 y3 y4 y5)) ∧ (∀ y0 y1 y2 y3 y4 y5 y6 y7 y8 y9 y10, LeO (potsherdlaw14_NodeRows.l1 k y0 y1 y2 y3 y4 y5 y6 y7 y8 y9 y10) (potsherdlaw14_NodeRows.l1 (k + 1) y0 y1 y2 y3 y4 y5 y6 y7 y8 y9 y10))
 | 0 => ⟨fun _ _ _ _ _ _ _ _ _ _ _ _ _ r h => by simp [potsherdlaw14_NodeRows.j0] at h, fun _ _ _ _ _ r h => by simp [potsherdlaw14_NodeRows.j1] at h, fun _ _ _ _ _ _ r h => by simp [potsherdlaw14_NodeRows.l0] at h, fun _ _ _ _ _ _ _ _ _ _ _ r h => by simp [potsherdlaw14_NodeRows.l1] at h⟩
 | k + 1 => by
  obtain ⟨ih0, ih1, ih2, ih3⟩ := potsherdlaw14_NodeRows.mono_l k; refine ⟨?_, ?_, ?_, ?_⟩
  ·
   intro y0 y1 y2 y3 y4 y5 y6 y7 y8 y9 y10 y11 y12
   unfold potsherdlaw14_NodeRows.j0
   repeat' first
   | (with_reducible exact ih0 _ _ _ _ _ _ _ _ _ _ _ _ _)
   | (with_reducible exact ih1 _ _ _ _ _)
   | (with_reducible exact ih2 _ _ _ _ _ _)
   | (with_reducible exact ih3 _ _ _ _ _ _ _ _ _ _ _)
   | (with_reducible exact node_Pages.mono _ _ _ _ _ _)
   | (with_reducible exact node_Refs.mono _ _ _ _ _ _ _)
   | (with_reducible exact potsherdlaw14_Light.mono _ _ _ _ _ _)
   | (with_reducible exact potsherdlaw14_awake.mono _)
   | (with_reducible exact potsherdref12_MayNode.mono _ _ _ _ _ _)
   | (with_reducible exact LeO.refl _)
   | (with_reducible exact LeO.none _)
   | (with_reducible refine LeO.ite ?_ ?_)
   | (with_reducible refine LeO.bind ?_ (fun _ => ?_))
   | exact ih0 _ _ _ _ _ _ _ _ _ _ _ _ _
   | exact ih1 _ _ _ _ _
   | exact ih2 _ _ _ _ _ _
   | exact ih3 _ _ _ _ _ _ _ _ _ _ _
   | exact node_Pages.mono _ _ _ _ _ _
   | exact node_Refs.mono _ _ _ _ _ _ _
   | exact potsherdlaw14_Light.mono _ _ _ _ _ _
   | exact potsherdlaw14_awake.mono _
   | exact potsherdref12_MayNode.mono _ _ _ _ _ _
   | exact LeO.none _
   | refine LeO.ite ?_ ?_
   | refine LeO.bind ?_ (fun _ => ?_)
  ·
   intro y0 y1 y2 y3 y4
   unfold potsherdlaw14_NodeRows.j1
   repeat' first
   | (with_reducible exact ih0 _ _ _ _ _ _ _ _ _ _ _ _ _)
   | (with_reducible exact ih1 _ _ _ _ _)
   | (with_reducible exact ih2 _ _ _ _ _ _)
   | (with_reducible exact ih3 _ _ _ _ _ _ _ _ _ _ _)
   | (with_reducible exact node_Pages.mono _ _ _ _ _ _)
   | (with_reducible exact node_Refs.mono _ _ _ _ _ _ _)
   | (with_reducible exact potsherdlaw14_Light.mono _ _ _ _ _ _)
   | (with_reducible exact potsherdlaw14_awake.mono _)
   | (with_reducible exact potsherdref12_MayNode.mono _ _ _ _ _ _)
   | (with_reducible exact LeO.refl _)
   | (with_reducible exact LeO.none _)
   | (with_reducible refine LeO.ite ?_ ?_)
   | (with_reducible refine LeO.bind ?_ (fun _ => ?_))
   | exact ih0 _ _ _ _ _ _ _ _ _ _ _ _ _
   | exact ih1 _ _ _ _ _
   | exact ih2 _ _ _ _ _ _
   | exact ih3 _ _ _ _ _ _ _ _ _ _ _
   | exact node_Pages.mono _ _ _ _ _ _
   | exact node_Refs.mono _ _ _ _ _ _ _
   | exact potsherdlaw14_Light.mono _ _ _ _ _ _
   | exact potsherdlaw14_awake.mono _
   | exact potsherdref12_MayNode.mono _ _ _ _ _ _
   | exact LeO.none _
   | refine LeO.ite ?_ ?_
   | refine LeO.bind ?_ (fun _ => ?_)
  ·
   intro y0 y1 y2 y3 y4 y5
   unfold potsherdlaw14_NodeRows.l0
   repeat' first
   | (with_reducible exact ih0 _ _ _ _ _ _ _ _ _ _ _ _ _)
   | (with_reducible exact ih1 _ _ _ _ _)
   | (with_reducible exact ih2 _ _ _ _ _ _)
   | (with_reducible exact ih3 _ _ _ _ _ _ _ _ _ _ _)
   | (with_reducible exact node_Pages.mono _ _ _ _ _ _)
   | (with_reducible exact node_Refs.mono _ _ _ _ _ _ _)
   | (with_reducible exact potsherdlaw14_Light.mono _ _ _ _ _ _)
   | (with_reducible exact potsherdlaw14_awake.mono _)
   | (with_reducible exact potsherdref12_MayNode.mono _ _ _ _ _ _)
   | (with_reducible exact LeO.refl _)
   | (with_reducible exact LeO.none _)
   | (with_reducible refine LeO.ite ?_ ?_)
   | (with_reducible refine LeO.bind ?_ (fun _ => ?_))
   | exact ih0 _ _ _ _ _ _ _ _ _ _ _ _ _
   | exact ih1 _ _ _ _ _
   | exact ih2 _ _ _ _ _ _
   | exact ih3 _ _ _ _ _ _ _ _ _ _ _
   | exact node_Pages.mono _ _ _ _ _ _
   | exact node_Refs.mono _ _ _ _ _ _ _
   | exact potsherdlaw14_Light.mono _ _ _ _ _ _
   | exact potsherdlaw14_awake.mono _
   | exact potsherdref12_MayNode.mono _ _ _ _ _ _
   | exact LeO.none _
   | refine LeO.ite ?_ ?_
   | refine LeO.bind ?_ (fun _ => ?_)
  ·
   intro y0 y1 y2 y3 y4 y5 y6 y7 y8 y9 y10
   unfold potsherdlaw14_NodeRows.l1
   repeat' first
   | (with_reducible exact ih0 _ _ _ _ _ _ _ _ _ _ _ _ _)
   | (with_reducible exact ih1 _ _ _ _ _)
   | (with_reducible exact ih2 _ _ _ _ _ _)
   | (with_reducible exact ih3 _ _ _ _ _ _ _ _ _ _ _)
   | (with_reducible exact node_Pages.mono _ _ _ _ _ _)
   | (with_reducible exact node_Refs.mono _ _ _ _ _ _ _)
   | (with_reducible exact potsherdlaw14_Light.mono _ _ _ _ _ _)
   | (with_reducible exact potsherdlaw14_awake.mono _)
   | (with_reducible exact potsherdref12_MayNode.mono _ _ _ _ _ _)
   | (with_reducible exact LeO.refl _)
   | (with_reducible exact LeO.none _)
   | (with_reducible refine LeO.ite ?_ ?_)
   | (with_reducible refine LeO.bind ?_ (fun _ => ?_))
   | exact ih0 _ _ _ _ _ _ _ _ _ _ _ _ _
   | exact ih1 _ _ _ _ _
   | exact ih2 _ _ _ _ _ _
   | exact ih3 _ _ _ _ _ _ _ _ _ _ _
   | exact node_Pages.mono _ _ _ _ _ _
   | exact node_Refs.mono _ _ _ _ _ _ _
   | exact potsherdlaw14_Light.mono _ _ _ _ _ _
   | exact potsherdlaw14_awake.mono _
   | exact potsherdref12_MayNode.mono _ _ _ _ _ _
   | exact LeO.none _
   | refine LeO.ite ?_ ?_
   | refine LeO.bind ?_ (fun _ => ?_)
theorem potsherdlaw14_NodeRows.mono : ∀ a0 a1 a2 a3 a4 a5 a6 a7 a8 a9 a10 a11 k, LeO (potsherdlaw14_NodeRows.f k a0 a1 a2 a3 a4 a5 a6 a7 a8 a9 a10 a11) (potsherdlaw14_NodeRows.f (k + 1) a0 a1 a2 a3 a4 a5 a6 a7 a8 a9 a10 a11) := by
 intro a0 a1 a2 a3 a4 a5 a6 a7 a8 a9 a10 a11 k; obtain ⟨ih0, ih1, ih2, ih3⟩ := potsherdlaw14_NodeRows.mono_l k
 unfold potsherdlaw14_NodeRows.f
 repeat' first
  | (with_reducible exact ih0 _ _ _ _ _ _ _ _ _ _ _ _ _)
  | (with_reducible exact ih1 _ _ _ _ _)
  | (with_reducible exact ih2 _ _ _ _ _ _)
  | (with_reducible exact ih3 _ _ _ _ _ _ _ _ _ _ _)
  | (with_reducible exact node_Pages.mono _ _ _ _ _ _)
  | (with_reducible exact node_Refs.mono _ _ _ _ _ _ _)
  | (with_reducible exact potsherdlaw14_Light.mono _ _ _ _ _ _)
  | (with_reducible exact potsherdlaw14_awake.mono _)
  | (with_reducible exact potsherdref12_MayNode.mono _ _ _ _ _ _)
  | (with_reducible exact LeO.refl _)
  | (with_reducible exact LeO.none _)
  | (with_reducible refine LeO.ite ?_ ?_)
  | (with_reducible refine LeO.bind ?_ (fun _ => ?_))
  | exact ih0 _ _ _ _ _ _ _ _ _ _ _ _ _
  | exact ih1 _ _ _ _ _
  | exact ih2 _ _ _ _ _ _
  | exact ih3 _ _ _ _ _ _ _ _ _ _ _
  | exact node_Pages.mono _ _ _ _ _ _
  | exact node_Refs.mono _ _ _ _ _ _ _
  | exact potsherdlaw14_Light.mono _ _ _ _ _ _
  | exact potsherdlaw14_awake.mono _
  | exact potsherdref12_MayNode.mono _ _ _ _ _ _
  | exact LeO.none _
  | refine LeO.ite ?_ ?_
  | refine LeO.bind ?_ (fun _ => ?_)
def potsherdlaw14_NodeRows.T1 : Bool × List (List Nat × List Nat) := (true, [([], []), ([0], [0]), ([], []), ([2, 1], [2]), ([1, 3], [1, 3]), ([4], [4]), ([5, 3], [5]), ([6], [6]), ([7, 6, 6], [6, 7]), ([8, 6], [6, 8]), ([6, 9], [6, 9]), ([10, 8], [10]), ([11], [11]), ([12, 11, 11], [11, 12]), ([13, 11], [11, 13]), ([11, 14], [11, 14])])
def potsherdlaw14_NodeRows.B1 : List Nat := [0, 1, 0, 7, 15, 31, 63, 127, 255, 511, 1023, 2047, 4095, 8191, 16383, 32767]
theorem potsherdlaw14_NodeRows.tab1 : rtab .any (opsOf Try.f11 1) = potsherdlaw14_NodeRows.T1 := by kernel_rfl
theorem potsherdlaw14_NodeRows.bits1 : waitsOk potsherdlaw14_NodeRows.T1.2 potsherdlaw14_NodeRows.B1 = true := by kernel_rfl
def potsherdlaw14_NodeRows.T4 : Bool × List (List Nat × List Nat) := (true, [([], []), ([], []), ([0, 1], [0, 1]), ([], []), ([], []), ([3, 4, 2], [3, 4]), ([2, 5, 0, 1, 2], [2]), ([5, 6, 0, 1, 2, 3, 4, 5, 6], [5])])
def potsherdlaw14_NodeRows.B4 : List Nat := [0, 0, 3, 0, 0, 31, 63, 127]
theorem potsherdlaw14_NodeRows.tab4 : rtab .any (opsOf Try.f11 4) = potsherdlaw14_NodeRows.T4 := by kernel_rfl
theorem potsherdlaw14_NodeRows.bits4 : waitsOk potsherdlaw14_NodeRows.T4.2 potsherdlaw14_NodeRows.B4 = true := by kernel_rfl
set_option maxHeartbeats 8000000 in
set_option maxRecDepth 100000 in
theorem potsherdlaw14_NodeRows.calls (k : Nat) (a0_0 : Int) (a0_1 : Int) (a0_2 : Int) (A0_3 : Option Addr) (c0_3 : Nat) (l0_3 : List Int) (A0_4 : Option Addr) (c0_4 : Nat) (l0_4 : List (S38)) (a1_0 : Int) (a1_1 : Int) (a1_2 : Int) (A1_3 : Option Addr) (c1_3 : Nat) (l1_3 : List Int) (A1_4 : Option Addr) (c1_4 : Nat) (l1_4 : List (S38)) (a2 : Int) (a3 : Int) (w : World) (hr0_3 : Kd.C (Kd.int .i64) w A0_3 l0_3.length l0_3) (hc0_3 : l0_3.length ≤ c0_3) (hr0_4 : Kd.C k38 w A0_4 l0_4.length l0_4) (hc0_4 : l0_4.length ≤ c0_4) (hr1_3 : Kd.C (Kd.int .i64) w A1_3 l1_3.length l1_3) (hc1_3 : l1_3.length ≤ c1_3) (hr1_4 : Kd.C k38 w A1_4 l1_4.length l1_4) (hc1_4 : l1_4.length ≤ c1_4) (h : potsherdlaw14_NodeRows.f k a0_0 a0_1 a0_2 l0_3 l0_4 a1_0 a1_1 a1_2 l1_3 l1_4 a2 a3 = some true) :
 Calls Try.prog 11 #[.agg #[.int .i64 a0_0, .int .i64 a0_1, .int .i64 a0_2, .slice A0_3 l0_3.length c0_3, .slice A0_4 l0_4.length c0_4], .agg #[.int .i64 a1_0, .int .i64 a1_1, .int .i64 a1_2, .slice A1_3 l1_3.length c1_3, .slice A1_4 l1_4.length c1_4], .int .i64 a2, .int .i64 a3] w fun e w' => e = .returned (.bool true) ∧ Below w.heap.size w w' := by
 have hu43 := Try.underlying43; have hu48 := Try.underlying48; have HR0_3 := Aside0.mk hr0_3; have HC0_3 := Aside0.mk hc0_3; clear hr0_3 hc0_3; have HR0_4 := Aside0.mk hr0_4; have HC0_4 := Aside0.mk hc0_4; clear hr0_4 hc0_4; have HR1_3 := Aside0.mk hr1_3; have HC1_3 := Aside0.mk hc1_3; clear hr1_3 hc1_3; have HR1_4 := Aside0.mk hr1_4; have HC1_4 := Aside0.mk hc1_4; clear hr1_4 hc1_4; have HB := Aside0.mk (Below.refl w.heap.size w); have H : ((potsherdlaw14_Light.f k a0_0 a0_1 a0_2 l0_3 l0_4).bind fun t356 => ((potsherdlaw14_Light.f k a1_0 a1_1 a1_2 l1_3 l1_4).bind fun t357 => (if (wrap64 (t356 + t357)) > 0 then (potsherdlaw14_NodeRows.j0 k a2 a3 true a0_0 a0_1 a0_2 l0_3 l0_4 a1_0 a1_1 a1_2 l1_3 l1_4) else ((potsherdref12_MayNode.f k a0_0 a0_1 a0_2 l0_3 l0_4).bind fun t358 => (if t358 = true then ((potsherdref12_MayNode.f k a1_0 a1_1 a1_2 l1_3 l1_4).bind fun t359 => (potsherdlaw14_NodeRows.j0 k a2 a3 (!t359) a0_0 a0_1 a0_2 l0_3 l0_4 a1_0 a1_1 a1_2 l1_3 l1_4)) else (potsherdlaw14_NodeRows.j0 k a2 a3 true a0_0 a0_1 a0_2 l0_3 l0_4 a1_0 a1_1 a1_2 l1_3 l1_4)))))) = some true := h; clear h; have HC5 := Aside0.mk H; clear H
 go_enter Try.func11, Try.ntmps11
 go_upto_region 1 with (first | ((with_reducible refine gate_dst (N := 4) rfl ?_); (try (refine gate_guard (by rfl) ?_; dsimp only)); refine box_event ?hg (N := 4) ?hd (cs := #[.int .i64 a0_0, .int .i64 a0_1, .int .i64 a0_2, .slice A0_3 l0_3.length c0_3, .slice A0_4 l0_4.length c0_4]) (t := 43) ?hr ?_; (case hd => rfl); (case hg => rfl); (case hr => first | (go_simp; done) | (go_simp; rfl)); intro gb354 hg w6 hbox hb; have n0_ := Aside0.mk (below_step (by repeat (first | (with_reducible first | exact HB.out | apply wA | apply wN | apply wD) | exact HB.out)) hb); have n1_ := Aside0.mk (hbox); have n2_ := Aside0.mk ((by rw [hg]; exact (below_size (by repeat (first | (with_reducible first | exact HB.out | apply wA | apply wN | apply wD) | exact HB.out))) : w.heap.size ≤ gb354)); have n3_ := Aside0.mk ((by rw [hg]; exact (below_size (by repeat (first | (with_reducible first | exact HB.out | apply wA | apply wN | apply wD) | exact HB.out))) : w.heap.size ≤ gb354)); clear HB; have HB := n0_; have BK354 := n1_; have GW354 := n2_; have GE354 := n3_; clear n0_ n1_ n2_ n3_; clear hb hbox hg) | ((with_reducible refine gate_dst (N := 5) rfl ?_); (try (refine gate_guard (by rfl) ?_; dsimp only)); refine box_event ?hg (N := 5) ?hd (cs := #[.int .i64 a1_0, .int .i64 a1_1, .int .i64 a1_2, .slice A1_3 l1_3.length c1_3, .slice A1_4 l1_4.length c1_4]) (t := 43) ?hr ?_; (case hd => rfl); (case hg => rfl); (case hr => first | (go_simp; done) | (go_simp; rfl)); intro gb355 hg w7 hbox hb; have n0_ := Aside0.mk (bB (g := gb354) (o := .cells #[.int .i64 a0_0, .int .i64 a0_1, .int .i64 a0_2, .slice A0_3 l0_3.length c0_3, .slice A0_4 l0_4.length c0_4] 43 (0, 0)) (by (with_reducible repeat (first | refine bN ?_ _ | refine bD ?_ | refine bA ?_ _)); exact BK354.out) hb); have n1_ := Aside0.mk (below_step (by repeat (first | (with_reducible first | exact HB.out | apply wA | apply wN | apply wD | refine wS ?_ GE354.out) | exact HB.out)) hb); have n2_ := Aside0.mk (hbox); have n3_ := Aside0.mk ((by rw [hg]; exact (below_size (by repeat (first | (with_reducible first | exact HB.out | apply wA | apply wN | apply wD | refine wS ?_ GE354.out) | exact HB.out))) : w.heap.size ≤ gb355)); have n4_ := Aside0.mk ((by rw [hg]; exact (below_size (by repeat (first | (with_reducible first | exact HB.out | apply wA | apply wN | apply wD | refine wS ?_ GE354.out) | exact HB.out))) : w.heap.size ≤ gb355)); have n5_ := Aside0.mk ((by rw [hg]; exact Nat.ne_of_lt (blk_lt (g := gb354) (o := .cells #[.int .i64 a0_0, .int .i64 a0_1, .int .i64 a0_2, .slice A0_3 l0_3.length c0_3, .slice A0_4 l0_4.length c0_4] 43 (0, 0)) (by (with_reducible repeat (first | refine bN ?_ _ | refine bD ?_ | refine bA ?_ _)); exact BK354.out)) : gb354 ≠ gb355)); have n6_ := Aside0.mk ((by rw [hg]; exact Nat.ne_of_gt (blk_lt (g := gb354) (o := .cells #[.int .i64 a0_0, .int .i64 a0_1, .int .i64 a0_2, .slice A0_3 l0_3.length c0_3, .slice A0_4 l0_4.length c0_4] 43 (0, 0)) (by (with_reducible repeat (first | refine bN ?_ _ | refine bD ?_ | refine bA ?_ _)); exact BK354.out)) : gb355 ≠ gb354)); clear BK354; clear HB; have BK354 := n0_; have HB := n1_; have BK355 := n2_; have GW355 := n3_; have GE355 := n4_; have NB354_355 := n5_; have NB355_354 := n6_; clear n0_ n1_ n2_ n3_ n4_ n5_ n6_; clear hb hbox hg))
 (try simp only [Act.put, lT, l0_, lS])
 go_cut [30] (fun v30 wc => ∃ (kq : Nat) (x30_4 : Bool), v30 = .bool x30_4 ∧ Aside0 (potsherdlaw14_NodeRows.j0 kq a2 a3 x30_4 a0_0 a0_1 a0_2 l0_3 l0_4 a1_0 a1_1 a1_2 l1_3 l1_4 = some true) ∧ Aside0 (kq ≤ k) ∧ Aside0 (wc.heap[gb354]? = some (.cells #[.int .i64 a0_0, .int .i64 a0_1, .int .i64 a0_2, (.slice A0_3 l0_3.length c0_3), (.slice A0_4 l0_4.length c0_4)] 43 (0, 0))) ∧ Aside0 (wc.heap[gb355]? = some (.cells #[.int .i64 a1_0, .int .i64 a1_1, .int .i64 a1_2, (.slice A1_3 l1_3.length c1_3), (.slice A1_4 l1_4.length c1_4)] 43 (0, 0))) ∧ Aside0 (Below w.heap.size w wc))
 case first =>
  have H := HC5.out; clear HC5; replace H := Option.bind_eq_some_iff.mp H; obtain ⟨t356, A80, H⟩ := H; replace H : ((potsherdlaw14_Light.f k a1_0 a1_1 a1_2 l1_3 l1_4).bind fun t357 => (if (wrap64 (t356 + t357)) > 0 then (potsherdlaw14_NodeRows.j0 k a2 a3 true a0_0 a0_1 a0_2 l0_3 l0_4 a1_0 a1_1 a1_2 l1_3 l1_4) else ((potsherdref12_MayNode.f k a0_0 a0_1 a0_2 l0_3 l0_4).bind fun t358 => (if t358 = true then ((potsherdref12_MayNode.f k a1_0 a1_1 a1_2 l1_3 l1_4).bind fun t359 => (potsherdlaw14_NodeRows.j0 k a2 a3 (!t359) a0_0 a0_1 a0_2 l0_3 l0_4 a1_0 a1_1 a1_2 l1_3 l1_4)) else (potsherdlaw14_NodeRows.j0 k a2 a3 true a0_0 a0_1 a0_2 l0_3 l0_4 a1_0 a1_1 a1_2 l1_3 l1_4))))) = some true := H; have A8 := Aside0.mk A80; clear A80; replace H := Option.bind_eq_some_iff.mp H; obtain ⟨t357, A90, H⟩ := H; replace H : (if (wrap64 (t356 + t357)) > 0 then (potsherdlaw14_NodeRows.j0 k a2 a3 true a0_0 a0_1 a0_2 l0_3 l0_4 a1_0 a1_1 a1_2 l1_3 l1_4) else ((potsherdref12_MayNode.f k a0_0 a0_1 a0_2 l0_3 l0_4).bind fun t358 => (if t358 = true then ((potsherdref12_MayNode.f k a1_0 a1_1 a1_2 l1_3 l1_4).bind fun t359 => (potsherdlaw14_NodeRows.j0 k a2 a3 (!t359) a0_0 a0_1 a0_2 l0_3 l0_4 a1_0 a1_1 a1_2 l1_3 l1_4)) else (potsherdlaw14_NodeRows.j0 k a2 a3 true a0_0 a0_1 a0_2 l0_3 l0_4 a1_0 a1_1 a1_2 l1_3 l1_4)))) = some true := H; have A9 := Aside0.mk A90; clear A90
  by_cases c10 : (wrap64 (t356 + t357)) > 0
  ·
   rw [if_pos c10] at H; have c10b0 : decide (0 < (wrap64 (t356 + t357))) = true := decide_eq_true c10; clear c10
   (first | rw [c10b0] | (simp only [i64_w, i32_w]; rw [c10b0]) | skip)
   have H' := Aside0.mk H; clear H
   try go_wp2
   have n0_ := Aside0.mk (bD BK354.out); have n1_ := Aside0.mk (bD BK355.out); have n2_ := Aside0.mk (wD HB.out); clear BK354; clear BK355; clear HB; have BK354 := n0_; have BK355 := n1_; have HB := n2_; clear n0_ n1_ n2_; refine start_ (n := 16) (S := fun w' => w'.cell? ⟨gb354, 0, none⟩ = some (.int .i64 a0_0) ∧ w'.cell? ⟨gb354, 1, none⟩ = some (.int .i64 a0_1) ∧ w'.cell? ⟨gb354, 2, none⟩ = some (.int .i64 a0_2) ∧ w'.cell? ⟨gb354, 3, none⟩ = some (.slice A0_3 l0_3.length c0_3) ∧ w'.cell? ⟨gb354, 4, none⟩ = some (.slice A0_4 l0_4.length c0_4) ∧ w'.cell? ⟨gb355, 0, none⟩ = some (.int .i64 a1_0) ∧ w'.cell? ⟨gb355, 1, none⟩ = some (.int .i64 a1_1) ∧ w'.cell? ⟨gb355, 2, none⟩ = some (.int .i64 a1_2) ∧ w'.cell? ⟨gb355, 3, none⟩ = some (.slice A1_3 l1_3.length c1_3) ∧ w'.cell? ⟨gb355, 4, none⟩ = some (.slice A1_4 l1_4.length c1_4)) (ds := []) B25_0 (by kernel_rfl) rfl rfl ⟨(bC BK354.out 0).trans rfl, (bC BK354.out 1).trans rfl, (bC BK354.out 2).trans rfl, (bC BK354.out 3).trans rfl, (bC BK354.out 4).trans rfl, (bC BK355.out 0).trans rfl, (bC BK355.out 1).trans rfl, (bC BK355.out 2).trans rfl, (bC BK355.out 3).trans rfl, (bC BK355.out 4).trans rfl⟩ (fun hHeld => ?_); refine with_tabW potsherdlaw14_NodeRows.tab1 potsherdlaw14_NodeRows.bits1 (fun HT_ HW_ => ?_); generalize w7.drew = w11 at BK354 BK355 HB hHeld ⊢; refine take_ (i := 0) (N := some 15) (v := ?_) (a' := ?_) B25_1 rfl rfl (take_ofW HT_.out HW_.out (by kernel_rfl)) (fun _ _ _ h => h) (Or.inl ⟨by rfl, ?_⟩) hHeld ?_ ?_; rotate_left
   ·
    rintro w' ⟨s0, s1, s2, s3, s4, s5, s6, s7, s8, s9⟩; go_simp; with_reducible rfl
   rotate_left
   ·
    simp only [Act.put, lT, l0_, lS, i64_w, i32_w]; rfl
   refine take_ (i := 2) (N := some 17) (v := ?_) (a' := ?_) B25_2 rfl rfl (take_ofW HT_.out HW_.out (by kernel_rfl)) (fun _ _ _ h => h) (Or.inl ⟨by rfl, ?_⟩) hHeld ?_ ?_; rotate_left
   ·
    rintro w' ⟨s0, s1, s2, s3, s4, s5, s6, s7, s8, s9⟩; go_simp; with_reducible rfl
   rotate_left
   ·
    simp only [Act.put, lT, l0_, lS, i64_w, i32_w]; rfl
   refine one_ (i := 1) (N := some 16) B25_3 rfl rfl (one_of HT_.out (by kernel_rfl)) (by decide) (fun K hK => ?_); refine goes_ Try.func25 (by kernel_rfl) rfl #[.agg #[.int .i64 a0_0, .int .i64 a0_1, .int .i64 a0_2, .slice A0_3 l0_3.length c0_3, .slice A0_4 l0_4.length c0_4]] (by rfl) rfl rfl (by (try simp only [List.map_toArray, List.map_cons, List.map_nil]); first | done | rfl | (simp only [List.length_drop, List.length_take]; rfl)) ?_
   with_reducible refine (potsherdlaw14_Light.calls k a0_0 a0_1 a0_2 _ _ l0_3 _ _ l0_4 t356 _ ?side1 ?side2 ?side3 ?side4 A8.out).mono ?_
   (case side1 => repeat (first | exact (Kd.C_below HR0_3.out HB.out) | (with_reducible refine Kd.C_alloc ?_ _) | (with_reducible refine Kd.C_drewN ?_ _) | (with_reducible refine Kd.C_drew ?_)))
   (case side2 => exact HC0_3.out)
   (case side3 => repeat (first | exact (Kd.C_below HR0_4.out HB.out) | (with_reducible refine Kd.C_alloc ?_ _) | (with_reducible refine Kd.C_drewN ?_ _) | (with_reducible refine Kd.C_drew ?_)))
   (case side4 => exact HC0_4.out)
   rintro e w12 ⟨rfl, hb⟩; refine ⟨_, rfl, ?_⟩; have n0_ := Aside0.mk (bB (g := gb354) (o := .cells #[.int .i64 a0_0, .int .i64 a0_1, .int .i64 a0_2, .slice A0_3 l0_3.length c0_3, .slice A0_4 l0_4.length c0_4] 43 (0, 0)) (by (with_reducible repeat (first | refine bN ?_ _ | refine bD ?_ | refine bA ?_ _)); exact BK354.out) hb)
   have n1_ := Aside0.mk (bB (g := gb355) (o := .cells #[.int .i64 a1_0, .int .i64 a1_1, .int .i64 a1_2, .slice A1_3 l1_3.length c1_3, .slice A1_4 l1_4.length c1_4] 43 (0, 0)) (by (with_reducible repeat (first | refine bN ?_ _ | refine bD ?_ | refine bA ?_ _)); exact BK355.out) hb)
   have n2_ := Aside0.mk (below_step (by repeat (first | (with_reducible first | exact HB.out | apply wA | apply wN | apply wD | refine wS ?_ GE354.out | refine wS ?_ GE355.out) | exact HB.out)) hb); clear BK354; clear BK355; clear HB; have BK354 := n0_; have BK355 := n1_; have HB := n2_; clear n0_ n1_ n2_
   (try clear hb)
   (try clear hb2)
   (try clear hk)
   (try clear hi)
   refine hK.out _ _ ⟨(bC BK354.out 0).trans rfl, (bC BK354.out 1).trans rfl, (bC BK354.out 2).trans rfl, (bC BK354.out 3).trans rfl, (bC BK354.out 4).trans rfl, (bC BK355.out 0).trans rfl, (bC BK355.out 1).trans rfl, (bC BK355.out 2).trans rfl, (bC BK355.out 3).trans rfl, (bC BK355.out 4).trans rfl⟩ (fun hHeld => ?_); clear hK K; refine norm_ (a' := ?_) ?_ ?_; rotate_left
   ·
    show Act.put _ (some 16) _ = _
    simp only [Act.put, lT, l0_, lS, i64_w, i32_w]; rfl
   refine one_ (i := 3) (N := some 18) B25_4 rfl rfl (one_of HT_.out (by kernel_rfl)) (by decide) (fun K hK => ?_); refine goes_ Try.func25 (by kernel_rfl) rfl #[.agg #[.int .i64 a1_0, .int .i64 a1_1, .int .i64 a1_2, .slice A1_3 l1_3.length c1_3, .slice A1_4 l1_4.length c1_4]] (by rfl) rfl rfl (by (try simp only [List.map_toArray, List.map_cons, List.map_nil]); first | done | rfl | (simp only [List.length_drop, List.length_take]; rfl)) ?_
   with_reducible refine (potsherdlaw14_Light.calls k a1_0 a1_1 a1_2 _ _ l1_3 _ _ l1_4 t357 _ ?side1 ?side2 ?side3 ?side4 A9.out).mono ?_
   (case side1 => repeat (first | exact (Kd.C_below HR1_3.out HB.out) | (with_reducible refine Kd.C_alloc ?_ _) | (with_reducible refine Kd.C_drewN ?_ _) | (with_reducible refine Kd.C_drew ?_)))
   (case side2 => exact HC1_3.out)
   (case side3 => repeat (first | exact (Kd.C_below HR1_4.out HB.out) | (with_reducible refine Kd.C_alloc ?_ _) | (with_reducible refine Kd.C_drewN ?_ _) | (with_reducible refine Kd.C_drew ?_)))
   (case side4 => exact HC1_4.out)
   rintro e w13 ⟨rfl, hb⟩; refine ⟨_, rfl, ?_⟩; have n0_ := Aside0.mk (bB (g := gb354) (o := .cells #[.int .i64 a0_0, .int .i64 a0_1, .int .i64 a0_2, .slice A0_3 l0_3.length c0_3, .slice A0_4 l0_4.length c0_4] 43 (0, 0)) (by (with_reducible repeat (first | refine bN ?_ _ | refine bD ?_ | refine bA ?_ _)); exact BK354.out) hb)
   have n1_ := Aside0.mk (bB (g := gb355) (o := .cells #[.int .i64 a1_0, .int .i64 a1_1, .int .i64 a1_2, .slice A1_3 l1_3.length c1_3, .slice A1_4 l1_4.length c1_4] 43 (0, 0)) (by (with_reducible repeat (first | refine bN ?_ _ | refine bD ?_ | refine bA ?_ _)); exact BK355.out) hb)
   have n2_ := Aside0.mk (below_step (by repeat (first | (with_reducible first | exact HB.out | apply wA | apply wN | apply wD | refine wS ?_ GE354.out | refine wS ?_ GE355.out) | exact HB.out)) hb); clear BK354; clear BK355; clear HB; have BK354 := n0_; have BK355 := n1_; have HB := n2_; clear n0_ n1_ n2_
   (try clear hb)
   (try clear hb2)
   (try clear hk)
   (try clear hi)
   refine hK.out _ _ ⟨(bC BK354.out 0).trans rfl, (bC BK354.out 1).trans rfl, (bC BK354.out 2).trans rfl, (bC BK354.out 3).trans rfl, (bC BK354.out 4).trans rfl, (bC BK355.out 0).trans rfl, (bC BK355.out 1).trans rfl, (bC BK355.out 2).trans rfl, (bC BK355.out 3).trans rfl, (bC BK355.out 4).trans rfl⟩ (fun hHeld => ?_); clear hK K; refine norm_ (a' := ?_) ?_ ?_; rotate_left
   ·
    show Act.put _ (some 18) _ = _
    simp only [Act.put, lT, l0_, lS, i64_w, i32_w]; rfl
   refine pure_ (i := 4) (N := some 19) (v := ?_) (a' := ?_) B25_5 rfl rfl (any_of HT_.out (by kernel_rfl)) (fun _ _ _ h => h) (Or.inl ⟨by rfl, ?_⟩) ?_ ?_; rotate_left
   ·
    intro w'; go_simp; with_reducible rfl
   rotate_left
   ·
    simp only [Act.put, lT, l0_, lS, i64_w, i32_w]; rfl
   refine pure_ (i := 5) (N := some 20) (v := ?_) (a' := ?_) B25_6 rfl rfl (any_of HT_.out (by kernel_rfl)) (fun _ _ _ h => h) (Or.inl ⟨by rfl, ?_⟩) ?_ ?_; rotate_left
   ·
    intro w'; go_simp; with_reducible rfl
   rotate_left
   ·
    simp only [Act.put, lT, l0_, lS, i64_w, i32_w]; rfl
   refine pure_ (i := 6) (N := some 21) (v := ?_) (a' := ?_) B25_7 rfl rfl (any_of HT_.out (by kernel_rfl)) (fun _ _ _ h => h) (Or.inl ⟨by rfl, ?_⟩) ?_ ?_; rotate_left
   ·
    intro w'; go_simp; with_reducible rfl
   rotate_left
   ·
    simp only [Act.put, lT, l0_, lS, i64_w, i32_w]; rfl
   refine pure_ (i := 7) (N := some 22) (v := undef) (a' := ?_) B25_8 rfl rfl (any_of HT_.out (by kernel_rfl)) (fun _ _ _ h => h) (Or.inr ⟨by rfl, rfl⟩) ?_ ?_; rotate_left
   ·
    simp only [Act.put, lT, l0_, lS, i64_w, i32_w]; rfl
   refine pure_ (i := 8) (N := some 23) (v := undef) (a' := ?_) B25_9 rfl rfl (any_of HT_.out (by kernel_rfl)) (fun _ _ _ h => h) (Or.inr ⟨by rfl, rfl⟩) ?_ ?_; rotate_left
   ·
    simp only [Act.put, lT, l0_, lS, i64_w, i32_w]; rfl
   refine pure_ (i := 9) (N := some 24) (v := undef) (a' := ?_) B25_10 rfl rfl (any_of HT_.out (by kernel_rfl)) (fun _ _ _ h => h) (Or.inr ⟨by rfl, rfl⟩) ?_ ?_; rotate_left
   ·
    simp only [Act.put, lT, l0_, lS, i64_w, i32_w]; rfl
   refine pure_ (i := 10) (N := some 25) (v := ?_) (a' := ?_) B25_11 rfl rfl (any_of HT_.out (by kernel_rfl)) (fun _ _ _ h => h) (Or.inl ⟨by rfl, ?_⟩) ?_ ?_; rotate_left
   ·
    intro w'; go_simp; with_reducible rfl
   rotate_left
   ·
    simp only [Act.put, lT, l0_, lS, i64_w, i32_w]; rfl
   refine pure_ (i := 11) (N := some 26) (v := ?_) (a' := ?_) B25_12 rfl rfl (any_of HT_.out (by kernel_rfl)) (fun _ _ _ h => h) (Or.inl ⟨by rfl, ?_⟩) ?_ ?_; rotate_left
   ·
    intro w'; go_simp; with_reducible rfl
   rotate_left
   ·
    simp only [Act.put, lT, l0_, lS, i64_w, i32_w]; rfl
   refine pure_ (i := 12) (N := some 27) (v := undef) (a' := ?_) B25_13 rfl rfl (any_of HT_.out (by kernel_rfl)) (fun _ _ _ h => h) (Or.inr ⟨by rfl, rfl⟩) ?_ ?_; rotate_left
   ·
    simp only [Act.put, lT, l0_, lS, i64_w, i32_w]; rfl
   refine pure_ (i := 13) (N := some 28) (v := undef) (a' := ?_) B25_14 rfl rfl (any_of HT_.out (by kernel_rfl)) (fun _ _ _ h => h) (Or.inr ⟨by rfl, rfl⟩) ?_ ?_; rotate_left
   ·
    simp only [Act.put, lT, l0_, lS, i64_w, i32_w]; rfl
   refine pure_ (i := 14) (N := some 29) (v := undef) (a' := ?_) B25_15 rfl rfl (any_of HT_.out (by kernel_rfl)) (fun _ _ _ h => h) (Or.inr ⟨by rfl, rfl⟩) ?_ ?_; rotate_left
   ·
    simp only [Act.put, lT, l0_, lS, i64_w, i32_w]; rfl
   refine pure_ (i := 15) (N := some 30) (v := ?_) (a' := ?_) B25_16 rfl rfl (any_of HT_.out (by kernel_rfl)) (fun _ _ _ h => h) (Or.inl ⟨by rfl, ?_⟩) ?_ ?_; rotate_left
   ·
    intro w'; go_simp; with_reducible rfl
   rotate_left
   ·
    simp only [Act.put, lT, l0_, lS, i64_w, i32_w]; rfl
   refine done_ (done_of HT_.out (by kernel_rfl)) ?_
   try go_wp2
   go_meet
   case rel => exact ⟨_, (true), (by first | rfl | (simp; done) | (simp [*]; done)), H', ⟨by first | omega | exact Nat.le_refl _⟩, ⟨by (with_reducible repeat (first | refine bN ?_ _ | refine bD ?_ | refine bA ?_ _)); exact BK354.out⟩, ⟨by (with_reducible repeat (first | refine bN ?_ _ | refine bD ?_ | refine bA ?_ _)); exact BK355.out⟩, ⟨by repeat (first | (with_reducible first | exact HB.out | apply wA | apply wN | apply wD | refine wS ?_ GE354.out | refine wS ?_ GE355.out) | exact HB.out)⟩⟩
  ·
   rw [if_neg c10] at H; have c10b0 : decide (0 < (wrap64 (t356 + t357))) = false := decide_eq_false c10; clear c10
   (first | rw [c10b0] | (simp only [i64_w, i32_w]; rw [c10b0]) | skip)
   replace H := Option.bind_eq_some_iff.mp H; obtain ⟨t358, A140, H⟩ := H; replace H : (if t358 = true then ((potsherdref12_MayNode.f k a1_0 a1_1 a1_2 l1_3 l1_4).bind fun t359 => (potsherdlaw14_NodeRows.j0 k a2 a3 (!t359) a0_0 a0_1 a0_2 l0_3 l0_4 a1_0 a1_1 a1_2 l1_3 l1_4)) else (potsherdlaw14_NodeRows.j0 k a2 a3 true a0_0 a0_1 a0_2 l0_3 l0_4 a1_0 a1_1 a1_2 l1_3 l1_4)) = some true := H; have A14 := Aside0.mk A140; clear A140
   by_cases c15 : t358 = true
   ·
    subst c15
    have H1 : ((potsherdref12_MayNode.f k a1_0 a1_1 a1_2 l1_3 l1_4).bind fun t359 => (potsherdlaw14_NodeRows.j0 k a2 a3 (!t359) a0_0 a0_1 a0_2 l0_3 l0_4 a1_0 a1_1 a1_2 l1_3 l1_4)) = some true := by rw [if_pos rfl] at H; exact H
    clear H; have H := H1; clear H1; replace H := Option.bind_eq_some_iff.mp H; obtain ⟨t359, A160, H⟩ := H; replace H : (potsherdlaw14_NodeRows.j0 k a2 a3 (!t359) a0_0 a0_1 a0_2 l0_3 l0_4 a1_0 a1_1 a1_2 l1_3 l1_4) = some true := H; have A16 := Aside0.mk A160; clear A160; have H' := Aside0.mk H; clear H
    try go_wp2
    have n0_ := Aside0.mk (bD BK354.out); have n1_ := Aside0.mk (bD BK355.out); have n2_ := Aside0.mk (wD HB.out); clear BK354; clear BK355; clear HB; have BK354 := n0_; have BK355 := n1_; have HB := n2_; clear n0_ n1_ n2_; refine start_ (n := 16) (S := fun w' => w'.cell? ⟨gb354, 0, none⟩ = some (.int .i64 a0_0) ∧ w'.cell? ⟨gb354, 1, none⟩ = some (.int .i64 a0_1) ∧ w'.cell? ⟨gb354, 2, none⟩ = some (.int .i64 a0_2) ∧ w'.cell? ⟨gb354, 3, none⟩ = some (.slice A0_3 l0_3.length c0_3) ∧ w'.cell? ⟨gb354, 4, none⟩ = some (.slice A0_4 l0_4.length c0_4) ∧ w'.cell? ⟨gb355, 0, none⟩ = some (.int .i64 a1_0) ∧ w'.cell? ⟨gb355, 1, none⟩ = some (.int .i64 a1_1) ∧ w'.cell? ⟨gb355, 2, none⟩ = some (.int .i64 a1_2) ∧ w'.cell? ⟨gb355, 3, none⟩ = some (.slice A1_3 l1_3.length c1_3) ∧ w'.cell? ⟨gb355, 4, none⟩ = some (.slice A1_4 l1_4.length c1_4)) (ds := []) B25_0 (by kernel_rfl) rfl rfl ⟨(bC BK354.out 0).trans rfl, (bC BK354.out 1).trans rfl, (bC BK354.out 2).trans rfl, (bC BK354.out 3).trans rfl, (bC BK354.out 4).trans rfl, (bC BK355.out 0).trans rfl, (bC BK355.out 1).trans rfl, (bC BK355.out 2).trans rfl, (bC BK355.out 3).trans rfl, (bC BK355.out 4).trans rfl⟩ (fun hHeld => ?_); refine with_tabW potsherdlaw14_NodeRows.tab1 potsherdlaw14_NodeRows.bits1 (fun HT_ HW_ => ?_); generalize w7.drew = w17 at BK354 BK355 HB hHeld ⊢; refine take_ (i := 0) (N := some 15) (v := ?_) (a' := ?_) B25_1 rfl rfl (take_ofW HT_.out HW_.out (by kernel_rfl)) (fun _ _ _ h => h) (Or.inl ⟨by rfl, ?_⟩) hHeld ?_ ?_; rotate_left
    ·
     rintro w' ⟨s0, s1, s2, s3, s4, s5, s6, s7, s8, s9⟩; go_simp; with_reducible rfl
    rotate_left
    ·
     simp only [Act.put, lT, l0_, lS, i64_w, i32_w]; rfl
    refine take_ (i := 2) (N := some 17) (v := ?_) (a' := ?_) B25_2 rfl rfl (take_ofW HT_.out HW_.out (by kernel_rfl)) (fun _ _ _ h => h) (Or.inl ⟨by rfl, ?_⟩) hHeld ?_ ?_; rotate_left
    ·
     rintro w' ⟨s0, s1, s2, s3, s4, s5, s6, s7, s8, s9⟩; go_simp; with_reducible rfl
    rotate_left
    ·
     simp only [Act.put, lT, l0_, lS, i64_w, i32_w]; rfl
    refine one_ (i := 1) (N := some 16) B25_3 rfl rfl (one_of HT_.out (by kernel_rfl)) (by decide) (fun K hK => ?_); refine goes_ Try.func25 (by kernel_rfl) rfl #[.agg #[.int .i64 a0_0, .int .i64 a0_1, .int .i64 a0_2, .slice A0_3 l0_3.length c0_3, .slice A0_4 l0_4.length c0_4]] (by rfl) rfl rfl (by (try simp only [List.map_toArray, List.map_cons, List.map_nil]); first | done | rfl | (simp only [List.length_drop, List.length_take]; rfl)) ?_
    with_reducible refine (potsherdlaw14_Light.calls k a0_0 a0_1 a0_2 _ _ l0_3 _ _ l0_4 t356 _ ?side1 ?side2 ?side3 ?side4 A8.out).mono ?_
    (case side1 => repeat (first | exact (Kd.C_below HR0_3.out HB.out) | (with_reducible refine Kd.C_alloc ?_ _) | (with_reducible refine Kd.C_drewN ?_ _) | (with_reducible refine Kd.C_drew ?_)))
    (case side2 => exact HC0_3.out)
    (case side3 => repeat (first | exact (Kd.C_below HR0_4.out HB.out) | (with_reducible refine Kd.C_alloc ?_ _) | (with_reducible refine Kd.C_drewN ?_ _) | (with_reducible refine Kd.C_drew ?_)))
    (case side4 => exact HC0_4.out)
    rintro e w18 ⟨rfl, hb⟩; refine ⟨_, rfl, ?_⟩; have n0_ := Aside0.mk (bB (g := gb354) (o := .cells #[.int .i64 a0_0, .int .i64 a0_1, .int .i64 a0_2, .slice A0_3 l0_3.length c0_3, .slice A0_4 l0_4.length c0_4] 43 (0, 0)) (by (with_reducible repeat (first | refine bN ?_ _ | refine bD ?_ | refine bA ?_ _)); exact BK354.out) hb)
    have n1_ := Aside0.mk (bB (g := gb355) (o := .cells #[.int .i64 a1_0, .int .i64 a1_1, .int .i64 a1_2, .slice A1_3 l1_3.length c1_3, .slice A1_4 l1_4.length c1_4] 43 (0, 0)) (by (with_reducible repeat (first | refine bN ?_ _ | refine bD ?_ | refine bA ?_ _)); exact BK355.out) hb)
    have n2_ := Aside0.mk (below_step (by repeat (first | (with_reducible first | exact HB.out | apply wA | apply wN | apply wD | refine wS ?_ GE354.out | refine wS ?_ GE355.out) | exact HB.out)) hb); clear BK354; clear BK355; clear HB; have BK354 := n0_; have BK355 := n1_; have HB := n2_; clear n0_ n1_ n2_
    (try clear hb)
    (try clear hb2)
    (try clear hk)
    (try clear hi)
    refine hK.out _ _ ⟨(bC BK354.out 0).trans rfl, (bC BK354.out 1).trans rfl, (bC BK354.out 2).trans rfl, (bC BK354.out 3).trans rfl, (bC BK354.out 4).trans rfl, (bC BK355.out 0).trans rfl, (bC BK355.out 1).trans rfl, (bC BK355.out 2).trans rfl, (bC BK355.out 3).trans rfl, (bC BK355.out 4).trans rfl⟩ (fun hHeld => ?_); clear hK K; refine norm_ (a' := ?_) ?_ ?_; rotate_left
    ·
     show Act.put _ (some 16) _ = _
     simp only [Act.put, lT, l0_, lS, i64_w, i32_w]; rfl
    refine one_ (i := 3) (N := some 18) B25_4 rfl rfl (one_of HT_.out (by kernel_rfl)) (by decide) (fun K hK => ?_); refine goes_ Try.func25 (by kernel_rfl) rfl #[.agg #[.int .i64 a1_0, .int .i64 a1_1, .int .i64 a1_2, .slice A1_3 l1_3.length c1_3, .slice A1_4 l1_4.length c1_4]] (by rfl) rfl rfl (by (try simp only [List.map_toArray, List.map_cons, List.map_nil]); first | done | rfl | (simp only [List.length_drop, List.length_take]; rfl)) ?_
    with_reducible refine (potsherdlaw14_Light.calls k a1_0 a1_1 a1_2 _ _ l1_3 _ _ l1_4 t357 _ ?side1 ?side2 ?side3 ?side4 A9.out).mono ?_
    (case side1 => repeat (first | exact (Kd.C_below HR1_3.out HB.out) | (with_reducible refine Kd.C_alloc ?_ _) | (with_reducible refine Kd.C_drewN ?_ _) | (with_reducible refine Kd.C_drew ?_)))
    (case side2 => exact HC1_3.out)
    (case side3 => repeat (first | exact (Kd.C_below HR1_4.out HB.out) | (with_reducible refine Kd.C_alloc ?_ _) | (with_reducible refine Kd.C_drewN ?_ _) | (with_reducible refine Kd.C_drew ?_)))
    (case side4 => exact HC1_4.out)
    rintro e w19 ⟨rfl, hb⟩; refine ⟨_, rfl, ?_⟩; have n0_ := Aside0.mk (bB (g := gb354) (o := .cells #[.int .i64 a0_0, .int .i64 a0_1, .int .i64 a0_2, .slice A0_3 l0_3.length c0_3, .slice A0_4 l0_4.length c0_4] 43 (0, 0)) (by (with_reducible repeat (first | refine bN ?_ _ | refine bD ?_ | refine bA ?_ _)); exact BK354.out) hb)
    have n1_ := Aside0.mk (bB (g := gb355) (o := .cells #[.int .i64 a1_0, .int .i64 a1_1, .int .i64 a1_2, .slice A1_3 l1_3.length c1_3, .slice A1_4 l1_4.length c1_4] 43 (0, 0)) (by (with_reducible repeat (first | refine bN ?_ _ | refine bD ?_ | refine bA ?_ _)); exact BK355.out) hb)
    have n2_ := Aside0.mk (below_step (by repeat (first | (with_reducible first | exact HB.out | apply wA | apply wN | apply wD | refine wS ?_ GE354.out | refine wS ?_ GE355.out) | exact HB.out)) hb); clear BK354; clear BK355; clear HB; have BK354 := n0_; have BK355 := n1_; have HB := n2_; clear n0_ n1_ n2_
    (try clear hb)
    (try clear hb2)
    (try clear hk)
    (try clear hi)
    refine hK.out _ _ ⟨(bC BK354.out 0).trans rfl, (bC BK354.out 1).trans rfl, (bC BK354.out 2).trans rfl, (bC BK354.out 3).trans rfl, (bC BK354.out 4).trans rfl, (bC BK355.out 0).trans rfl, (bC BK355.out 1).trans rfl, (bC BK355.out 2).trans rfl, (bC BK355.out 3).trans rfl, (bC BK355.out 4).trans rfl⟩ (fun hHeld => ?_); clear hK K; refine norm_ (a' := ?_) ?_ ?_; rotate_left
    ·
     show Act.put _ (some 18) _ = _
     simp only [Act.put, lT, l0_, lS, i64_w, i32_w]; rfl
    refine pure_ (i := 4) (N := some 19) (v := ?_) (a' := ?_) B25_5 rfl rfl (any_of HT_.out (by kernel_rfl)) (fun _ _ _ h => h) (Or.inl ⟨by rfl, ?_⟩) ?_ ?_; rotate_left
    ·
     intro w'; go_simp; with_reducible rfl
    rotate_left
    ·
     simp only [Act.put, lT, l0_, lS, i64_w, i32_w]; rfl
    refine pure_ (i := 5) (N := some 20) (v := ?_) (a' := ?_) B25_6 rfl rfl (any_of HT_.out (by kernel_rfl)) (fun _ _ _ h => h) (Or.inl ⟨by rfl, ?_⟩) ?_ ?_; rotate_left
    ·
     intro w'; go_simp; with_reducible rfl
    rotate_left
    ·
     simp only [Act.put, lT, l0_, lS, i64_w, i32_w]; rfl
    refine pure_ (i := 6) (N := some 21) (v := ?_) (a' := ?_) B25_7 rfl rfl (any_of HT_.out (by kernel_rfl)) (fun _ _ _ h => h) (Or.inl ⟨by rfl, ?_⟩) ?_ ?_; rotate_left
    ·
     intro w'; go_simp; with_reducible rfl
    rotate_left
    ·
     simp only [Act.put, lT, l0_, lS, i64_w, i32_w]; rfl
    refine take_ (i := 7) (N := some 22) (v := ?_) (a' := ?_) B25_8 rfl rfl (take_ofW HT_.out HW_.out (by kernel_rfl)) (fun _ _ _ h => h) (Or.inl ⟨by rfl, ?_⟩) hHeld ?_ ?_; rotate_left
    ·
     rintro w' ⟨s0, s1, s2, s3, s4, s5, s6, s7, s8, s9⟩; go_simp; with_reducible rfl
    rotate_left
    ·
     simp only [Act.put, lT, l0_, lS, i64_w, i32_w]; rfl
    refine one_ (i := 8) (N := some 23) B25_9 rfl rfl (one_of HT_.out (by kernel_rfl)) (by decide) (fun K hK => ?_); refine goes_ Try.func30 (by kernel_rfl) rfl #[.agg #[.int .i64 a0_0, .int .i64 a0_1, .int .i64 a0_2, .slice A0_3 l0_3.length c0_3, .slice A0_4 l0_4.length c0_4]] (by rfl) rfl rfl (by (try simp only [List.map_toArray, List.map_cons, List.map_nil]); first | done | rfl | (simp only [List.length_drop, List.length_take]; rfl)) ?_
    with_reducible refine (potsherdref12_MayNode.calls k a0_0 a0_1 a0_2 _ _ l0_3 _ _ l0_4 true _ ?side1 ?side2 ?side3 ?side4 A14.out).mono ?_
    (case side1 => repeat (first | exact (Kd.C_below HR0_3.out HB.out) | (with_reducible refine Kd.C_alloc ?_ _) | (with_reducible refine Kd.C_drewN ?_ _) | (with_reducible refine Kd.C_drew ?_)))
    (case side2 => exact HC0_3.out)
    (case side3 => repeat (first | exact (Kd.C_below HR0_4.out HB.out) | (with_reducible refine Kd.C_alloc ?_ _) | (with_reducible refine Kd.C_drewN ?_ _) | (with_reducible refine Kd.C_drew ?_)))
    (case side4 => exact HC0_4.out)
    rintro e w20 ⟨rfl, hb⟩; refine ⟨_, rfl, ?_⟩; have n0_ := Aside0.mk (bB (g := gb354) (o := .cells #[.int .i64 a0_0, .int .i64 a0_1, .int .i64 a0_2, .slice A0_3 l0_3.length c0_3, .slice A0_4 l0_4.length c0_4] 43 (0, 0)) (by (with_reducible repeat (first | refine bN ?_ _ | refine bD ?_ | refine bA ?_ _)); exact BK354.out) hb)
    have n1_ := Aside0.mk (bB (g := gb355) (o := .cells #[.int .i64 a1_0, .int .i64 a1_1, .int .i64 a1_2, .slice A1_3 l1_3.length c1_3, .slice A1_4 l1_4.length c1_4] 43 (0, 0)) (by (with_reducible repeat (first | refine bN ?_ _ | refine bD ?_ | refine bA ?_ _)); exact BK355.out) hb)
    have n2_ := Aside0.mk (below_step (by repeat (first | (with_reducible first | exact HB.out | apply wA | apply wN | apply wD | refine wS ?_ GE354.out | refine wS ?_ GE355.out) | exact HB.out)) hb); clear BK354; clear BK355; clear HB; have BK354 := n0_; have BK355 := n1_; have HB := n2_; clear n0_ n1_ n2_
    (try clear hb)
    (try clear hb2)
    (try clear hk)
    (try clear hi)
    refine hK.out _ _ ⟨(bC BK354.out 0).trans rfl, (bC BK354.out 1).trans rfl, (bC BK354.out 2).trans rfl, (bC BK354.out 3).trans rfl, (bC BK354.out 4).trans rfl, (bC BK355.out 0).trans rfl, (bC BK355.out 1).trans rfl, (bC BK355.out 2).trans rfl, (bC BK355.out 3).trans rfl, (bC BK355.out 4).trans rfl⟩ (fun hHeld => ?_); clear hK K; refine norm_ (a' := ?_) ?_ ?_; rotate_left
    ·
     show Act.put _ (some 23) _ = _
     simp only [Act.put, lT, l0_, lS, i64_w, i32_w]; rfl
    refine pure_ (i := 9) (N := some 24) (v := ?_) (a' := ?_) B25_10 rfl rfl (any_of HT_.out (by kernel_rfl)) (fun _ _ _ h => h) (Or.inl ⟨by rfl, ?_⟩) ?_ ?_; rotate_left
    ·
     intro w'; go_simp; with_reducible rfl
    rotate_left
    ·
     simp only [Act.put, lT, l0_, lS, i64_w, i32_w]; rfl
    refine pure_ (i := 10) (N := some 25) (v := ?_) (a' := ?_) B25_11 rfl rfl (any_of HT_.out (by kernel_rfl)) (fun _ _ _ h => h) (Or.inl ⟨by rfl, ?_⟩) ?_ ?_; rotate_left
    ·
     intro w'; go_simp; with_reducible rfl
    rotate_left
    ·
     simp only [Act.put, lT, l0_, lS, i64_w, i32_w]; rfl
    refine pure_ (i := 11) (N := some 26) (v := ?_) (a' := ?_) B25_12 rfl rfl (any_of HT_.out (by kernel_rfl)) (fun _ _ _ h => h) (Or.inl ⟨by rfl, ?_⟩) ?_ ?_; rotate_left
    ·
     intro w'; go_simp; with_reducible rfl
    rotate_left
    ·
     simp only [Act.put, lT, l0_, lS, i64_w, i32_w]; rfl
    refine take_ (i := 12) (N := some 27) (v := ?_) (a' := ?_) B25_13 rfl rfl (take_ofW HT_.out HW_.out (by kernel_rfl)) (fun _ _ _ h => h) (Or.inl ⟨by rfl, ?_⟩) hHeld ?_ ?_; rotate_left
    ·
     rintro w' ⟨s0, s1, s2, s3, s4, s5, s6, s7, s8, s9⟩; go_simp; with_reducible rfl
    rotate_left
    ·
     simp only [Act.put, lT, l0_, lS, i64_w, i32_w]; rfl
    refine one_ (i := 13) (N := some 28) B25_14 rfl rfl (one_of HT_.out (by kernel_rfl)) (by decide) (fun K hK => ?_); refine goes_ Try.func30 (by kernel_rfl) rfl #[.agg #[.int .i64 a1_0, .int .i64 a1_1, .int .i64 a1_2, .slice A1_3 l1_3.length c1_3, .slice A1_4 l1_4.length c1_4]] (by rfl) rfl rfl (by (try simp only [List.map_toArray, List.map_cons, List.map_nil]); first | done | rfl | (simp only [List.length_drop, List.length_take]; rfl)) ?_
    with_reducible refine (potsherdref12_MayNode.calls k a1_0 a1_1 a1_2 _ _ l1_3 _ _ l1_4 t359 _ ?side1 ?side2 ?side3 ?side4 A16.out).mono ?_
    (case side1 => repeat (first | exact (Kd.C_below HR1_3.out HB.out) | (with_reducible refine Kd.C_alloc ?_ _) | (with_reducible refine Kd.C_drewN ?_ _) | (with_reducible refine Kd.C_drew ?_)))
    (case side2 => exact HC1_3.out)
    (case side3 => repeat (first | exact (Kd.C_below HR1_4.out HB.out) | (with_reducible refine Kd.C_alloc ?_ _) | (with_reducible refine Kd.C_drewN ?_ _) | (with_reducible refine Kd.C_drew ?_)))
    (case side4 => exact HC1_4.out)
    rintro e w21 ⟨rfl, hb⟩; refine ⟨_, rfl, ?_⟩; have n0_ := Aside0.mk (bB (g := gb354) (o := .cells #[.int .i64 a0_0, .int .i64 a0_1, .int .i64 a0_2, .slice A0_3 l0_3.length c0_3, .slice A0_4 l0_4.length c0_4] 43 (0, 0)) (by (with_reducible repeat (first | refine bN ?_ _ | refine bD ?_ | refine bA ?_ _)); exact BK354.out) hb)
    have n1_ := Aside0.mk (bB (g := gb355) (o := .cells #[.int .i64 a1_0, .int .i64 a1_1, .int .i64 a1_2, .slice A1_3 l1_3.length c1_3, .slice A1_4 l1_4.length c1_4] 43 (0, 0)) (by (with_reducible repeat (first | refine bN ?_ _ | refine bD ?_ | refine bA ?_ _)); exact BK355.out) hb)
    have n2_ := Aside0.mk (below_step (by repeat (first | (with_reducible first | exact HB.out | apply wA | apply wN | apply wD | refine wS ?_ GE354.out | refine wS ?_ GE355.out) | exact HB.out)) hb); clear BK354; clear BK355; clear HB; have BK354 := n0_; have BK355 := n1_; have HB := n2_; clear n0_ n1_ n2_
    (try clear hb)
    (try clear hb2)
    (try clear hk)
    (try clear hi)
    refine hK.out _ _ ⟨(bC BK354.out 0).trans rfl, (bC BK354.out 1).trans rfl, (bC BK354.out 2).trans rfl, (bC BK354.out 3).trans rfl, (bC BK354.out 4).trans rfl, (bC BK355.out 0).trans rfl, (bC BK355.out 1).trans rfl, (bC BK355.out 2).trans rfl, (bC BK355.out 3).trans rfl, (bC BK355.out 4).trans rfl⟩ (fun hHeld => ?_); clear hK K; refine norm_ (a' := ?_) ?_ ?_; rotate_left
    ·
     show Act.put _ (some 28) _ = _
     simp only [Act.put, lT, l0_, lS, i64_w, i32_w]; rfl
    refine pure_ (i := 14) (N := some 29) (v := ?_) (a' := ?_) B25_15 rfl rfl (any_of HT_.out (by kernel_rfl)) (fun _ _ _ h => h) (Or.inl ⟨by rfl, ?_⟩) ?_ ?_; rotate_left
    ·
     intro w'; go_simp; with_reducible rfl
    rotate_left
    ·
     simp only [Act.put, lT, l0_, lS, i64_w, i32_w]; rfl
    refine pure_ (i := 15) (N := some 30) (v := ?_) (a' := ?_) B25_16 rfl rfl (any_of HT_.out (by kernel_rfl)) (fun _ _ _ h => h) (Or.inl ⟨by rfl, ?_⟩) ?_ ?_; rotate_left
    ·
     intro w'; go_simp; with_reducible rfl
    rotate_left
    ·
     simp only [Act.put, lT, l0_, lS, i64_w, i32_w]; rfl
    refine done_ (done_of HT_.out (by kernel_rfl)) ?_
    try go_wp2
    go_meet
    case rel => exact ⟨_, (!t359), (by first | rfl | (simp; done) | (simp [*]; done)), H', ⟨by first | omega | exact Nat.le_refl _⟩, ⟨by (with_reducible repeat (first | refine bN ?_ _ | refine bD ?_ | refine bA ?_ _)); exact BK354.out⟩, ⟨by (with_reducible repeat (first | refine bN ?_ _ | refine bD ?_ | refine bA ?_ _)); exact BK355.out⟩, ⟨by repeat (first | (with_reducible first | exact HB.out | apply wA | apply wN | apply wD | refine wS ?_ GE354.out | refine wS ?_ GE355.out) | exact HB.out)⟩⟩
   ·
    replace c15 := Bool.eq_false_iff.mpr c15; subst c15
    have H1 : (potsherdlaw14_NodeRows.j0 k a2 a3 true a0_0 a0_1 a0_2 l0_3 l0_4 a1_0 a1_1 a1_2 l1_3 l1_4) = some true := by rw [if_neg (show ¬ (false = true) by decide)] at H; exact H
    clear H; have H := H1; clear H1; have H' := Aside0.mk H; clear H
    try go_wp2
    have n0_ := Aside0.mk (bD BK354.out); have n1_ := Aside0.mk (bD BK355.out); have n2_ := Aside0.mk (wD HB.out); clear BK354; clear BK355; clear HB; have BK354 := n0_; have BK355 := n1_; have HB := n2_; clear n0_ n1_ n2_; refine start_ (n := 16) (S := fun w' => w'.cell? ⟨gb354, 0, none⟩ = some (.int .i64 a0_0) ∧ w'.cell? ⟨gb354, 1, none⟩ = some (.int .i64 a0_1) ∧ w'.cell? ⟨gb354, 2, none⟩ = some (.int .i64 a0_2) ∧ w'.cell? ⟨gb354, 3, none⟩ = some (.slice A0_3 l0_3.length c0_3) ∧ w'.cell? ⟨gb354, 4, none⟩ = some (.slice A0_4 l0_4.length c0_4) ∧ w'.cell? ⟨gb355, 0, none⟩ = some (.int .i64 a1_0) ∧ w'.cell? ⟨gb355, 1, none⟩ = some (.int .i64 a1_1) ∧ w'.cell? ⟨gb355, 2, none⟩ = some (.int .i64 a1_2) ∧ w'.cell? ⟨gb355, 3, none⟩ = some (.slice A1_3 l1_3.length c1_3) ∧ w'.cell? ⟨gb355, 4, none⟩ = some (.slice A1_4 l1_4.length c1_4)) (ds := []) B25_0 (by kernel_rfl) rfl rfl ⟨(bC BK354.out 0).trans rfl, (bC BK354.out 1).trans rfl, (bC BK354.out 2).trans rfl, (bC BK354.out 3).trans rfl, (bC BK354.out 4).trans rfl, (bC BK355.out 0).trans rfl, (bC BK355.out 1).trans rfl, (bC BK355.out 2).trans rfl, (bC BK355.out 3).trans rfl, (bC BK355.out 4).trans rfl⟩ (fun hHeld => ?_); refine with_tabW potsherdlaw14_NodeRows.tab1 potsherdlaw14_NodeRows.bits1 (fun HT_ HW_ => ?_); generalize w7.drew = w22 at BK354 BK355 HB hHeld ⊢; refine take_ (i := 0) (N := some 15) (v := ?_) (a' := ?_) B25_1 rfl rfl (take_ofW HT_.out HW_.out (by kernel_rfl)) (fun _ _ _ h => h) (Or.inl ⟨by rfl, ?_⟩) hHeld ?_ ?_; rotate_left
    ·
     rintro w' ⟨s0, s1, s2, s3, s4, s5, s6, s7, s8, s9⟩; go_simp; with_reducible rfl
    rotate_left
    ·
     simp only [Act.put, lT, l0_, lS, i64_w, i32_w]; rfl
    refine take_ (i := 2) (N := some 17) (v := ?_) (a' := ?_) B25_2 rfl rfl (take_ofW HT_.out HW_.out (by kernel_rfl)) (fun _ _ _ h => h) (Or.inl ⟨by rfl, ?_⟩) hHeld ?_ ?_; rotate_left
    ·
     rintro w' ⟨s0, s1, s2, s3, s4, s5, s6, s7, s8, s9⟩; go_simp; with_reducible rfl
    rotate_left
    ·
     simp only [Act.put, lT, l0_, lS, i64_w, i32_w]; rfl
    refine one_ (i := 1) (N := some 16) B25_3 rfl rfl (one_of HT_.out (by kernel_rfl)) (by decide) (fun K hK => ?_); refine goes_ Try.func25 (by kernel_rfl) rfl #[.agg #[.int .i64 a0_0, .int .i64 a0_1, .int .i64 a0_2, .slice A0_3 l0_3.length c0_3, .slice A0_4 l0_4.length c0_4]] (by rfl) rfl rfl (by (try simp only [List.map_toArray, List.map_cons, List.map_nil]); first | done | rfl | (simp only [List.length_drop, List.length_take]; rfl)) ?_
    with_reducible refine (potsherdlaw14_Light.calls k a0_0 a0_1 a0_2 _ _ l0_3 _ _ l0_4 t356 _ ?side1 ?side2 ?side3 ?side4 A8.out).mono ?_
    (case side1 => repeat (first | exact (Kd.C_below HR0_3.out HB.out) | (with_reducible refine Kd.C_alloc ?_ _) | (with_reducible refine Kd.C_drewN ?_ _) | (with_reducible refine Kd.C_drew ?_)))
    (case side2 => exact HC0_3.out)
    (case side3 => repeat (first | exact (Kd.C_below HR0_4.out HB.out) | (with_reducible refine Kd.C_alloc ?_ _) | (with_reducible refine Kd.C_drewN ?_ _) | (with_reducible refine Kd.C_drew ?_)))
    (case side4 => exact HC0_4.out)
    rintro e w23 ⟨rfl, hb⟩; refine ⟨_, rfl, ?_⟩; have n0_ := Aside0.mk (bB (g := gb354) (o := .cells #[.int .i64 a0_0, .int .i64 a0_1, .int .i64 a0_2, .slice A0_3 l0_3.length c0_3, .slice A0_4 l0_4.length c0_4] 43 (0, 0)) (by (with_reducible repeat (first | refine bN ?_ _ | refine bD ?_ | refine bA ?_ _)); exact BK354.out) hb)
    have n1_ := Aside0.mk (bB (g := gb355) (o := .cells #[.int .i64 a1_0, .int .i64 a1_1, .int .i64 a1_2, .slice A1_3 l1_3.length c1_3, .slice A1_4 l1_4.length c1_4] 43 (0, 0)) (by (with_reducible repeat (first | refine bN ?_ _ | refine bD ?_ | refine bA ?_ _)); exact BK355.out) hb)
    have n2_ := Aside0.mk (below_step (by repeat (first | (with_reducible first | exact HB.out | apply wA | apply wN | apply wD | refine wS ?_ GE354.out | refine wS ?_ GE355.out) | exact HB.out)) hb); clear BK354; clear BK355; clear HB; have BK354 := n0_; have BK355 := n1_; have HB := n2_; clear n0_ n1_ n2_
    (try clear hb)
    (try clear hb2)
    (try clear hk)
    (try clear hi)
    refine hK.out _ _ ⟨(bC BK354.out 0).trans rfl, (bC BK354.out 1).trans rfl, (bC BK354.out 2).trans rfl, (bC BK354.out 3).trans rfl, (bC BK354.out 4).trans rfl, (bC BK355.out 0).trans rfl, (bC BK355.out 1).trans rfl, (bC BK355.out 2).trans rfl, (bC BK355.out 3).trans rfl, (bC BK355.out 4).trans rfl⟩ (fun hHeld => ?_); clear hK K; refine norm_ (a' := ?_) ?_ ?_; rotate_left
    ·
     show Act.put _ (some 16) _ = _
     simp only [Act.put, lT, l0_, lS, i64_w, i32_w]; rfl
    refine one_ (i := 3) (N := some 18) B25_4 rfl rfl (one_of HT_.out (by kernel_rfl)) (by decide) (fun K hK => ?_); refine goes_ Try.func25 (by kernel_rfl) rfl #[.agg #[.int .i64 a1_0, .int .i64 a1_1, .int .i64 a1_2, .slice A1_3 l1_3.length c1_3, .slice A1_4 l1_4.length c1_4]] (by rfl) rfl rfl (by (try simp only [List.map_toArray, List.map_cons, List.map_nil]); first | done | rfl | (simp only [List.length_drop, List.length_take]; rfl)) ?_
    with_reducible refine (potsherdlaw14_Light.calls k a1_0 a1_1 a1_2 _ _ l1_3 _ _ l1_4 t357 _ ?side1 ?side2 ?side3 ?side4 A9.out).mono ?_
    (case side1 => repeat (first | exact (Kd.C_below HR1_3.out HB.out) | (with_reducible refine Kd.C_alloc ?_ _) | (with_reducible refine Kd.C_drewN ?_ _) | (with_reducible refine Kd.C_drew ?_)))
    (case side2 => exact HC1_3.out)
    (case side3 => repeat (first | exact (Kd.C_below HR1_4.out HB.out) | (with_reducible refine Kd.C_alloc ?_ _) | (with_reducible refine Kd.C_drewN ?_ _) | (with_reducible refine Kd.C_drew ?_)))
    (case side4 => exact HC1_4.out)
    rintro e w24 ⟨rfl, hb⟩; refine ⟨_, rfl, ?_⟩; have n0_ := Aside0.mk (bB (g := gb354) (o := .cells #[.int .i64 a0_0, .int .i64 a0_1, .int .i64 a0_2, .slice A0_3 l0_3.length c0_3, .slice A0_4 l0_4.length c0_4] 43 (0, 0)) (by (with_reducible repeat (first | refine bN ?_ _ | refine bD ?_ | refine bA ?_ _)); exact BK354.out) hb)
    have n1_ := Aside0.mk (bB (g := gb355) (o := .cells #[.int .i64 a1_0, .int .i64 a1_1, .int .i64 a1_2, .slice A1_3 l1_3.length c1_3, .slice A1_4 l1_4.length c1_4] 43 (0, 0)) (by (with_reducible repeat (first | refine bN ?_ _ | refine bD ?_ | refine bA ?_ _)); exact BK355.out) hb)
    have n2_ := Aside0.mk (below_step (by repeat (first | (with_reducible first | exact HB.out | apply wA | apply wN | apply wD | refine wS ?_ GE354.out | refine wS ?_ GE355.out) | exact HB.out)) hb); clear BK354; clear BK355; clear HB; have BK354 := n0_; have BK355 := n1_; have HB := n2_; clear n0_ n1_ n2_
    (try clear hb)
    (try clear hb2)
    (try clear hk)
    (try clear hi)
    refine hK.out _ _ ⟨(bC BK354.out 0).trans rfl, (bC BK354.out 1).trans rfl, (bC BK354.out 2).trans rfl, (bC BK354.out 3).trans rfl, (bC BK354.out 4).trans rfl, (bC BK355.out 0).trans rfl, (bC BK355.out 1).trans rfl, (bC BK355.out 2).trans rfl, (bC BK355.out 3).trans rfl, (bC BK355.out 4).trans rfl⟩ (fun hHeld => ?_); clear hK K; refine norm_ (a' := ?_) ?_ ?_; rotate_left
    ·
     show Act.put _ (some 18) _ = _
     simp only [Act.put, lT, l0_, lS, i64_w, i32_w]; rfl
    refine pure_ (i := 4) (N := some 19) (v := ?_) (a' := ?_) B25_5 rfl rfl (any_of HT_.out (by kernel_rfl)) (fun _ _ _ h => h) (Or.inl ⟨by rfl, ?_⟩) ?_ ?_; rotate_left
    ·
     intro w'; go_simp; with_reducible rfl
    rotate_left
    ·
     simp only [Act.put, lT, l0_, lS, i64_w, i32_w]; rfl
    refine pure_ (i := 5) (N := some 20) (v := ?_) (a' := ?_) B25_6 rfl rfl (any_of HT_.out (by kernel_rfl)) (fun _ _ _ h => h) (Or.inl ⟨by rfl, ?_⟩) ?_ ?_; rotate_left
    ·
     intro w'; go_simp; with_reducible rfl
    rotate_left
    ·
     simp only [Act.put, lT, l0_, lS, i64_w, i32_w]; rfl
    refine pure_ (i := 6) (N := some 21) (v := ?_) (a' := ?_) B25_7 rfl rfl (any_of HT_.out (by kernel_rfl)) (fun _ _ _ h => h) (Or.inl ⟨by rfl, ?_⟩) ?_ ?_; rotate_left
    ·
     intro w'; go_simp; with_reducible rfl
    rotate_left
    ·
     simp only [Act.put, lT, l0_, lS, i64_w, i32_w]; rfl
    refine take_ (i := 7) (N := some 22) (v := ?_) (a' := ?_) B25_8 rfl rfl (take_ofW HT_.out HW_.out (by kernel_rfl)) (fun _ _ _ h => h) (Or.inl ⟨by rfl, ?_⟩) hHeld ?_ ?_; rotate_left
    ·
     rintro w' ⟨s0, s1, s2, s3, s4, s5, s6, s7, s8, s9⟩; go_simp; with_reducible rfl
    rotate_left
    ·
     simp only [Act.put, lT, l0_, lS, i64_w, i32_w]; rfl
    refine one_ (i := 8) (N := some 23) B25_9 rfl rfl (one_of HT_.out (by kernel_rfl)) (by decide) (fun K hK => ?_); refine goes_ Try.func30 (by kernel_rfl) rfl #[.agg #[.int .i64 a0_0, .int .i64 a0_1, .int .i64 a0_2, .slice A0_3 l0_3.length c0_3, .slice A0_4 l0_4.length c0_4]] (by rfl) rfl rfl (by (try simp only [List.map_toArray, List.map_cons, List.map_nil]); first | done | rfl | (simp only [List.length_drop, List.length_take]; rfl)) ?_
    with_reducible refine (potsherdref12_MayNode.calls k a0_0 a0_1 a0_2 _ _ l0_3 _ _ l0_4 false _ ?side1 ?side2 ?side3 ?side4 A14.out).mono ?_
    (case side1 => repeat (first | exact (Kd.C_below HR0_3.out HB.out) | (with_reducible refine Kd.C_alloc ?_ _) | (with_reducible refine Kd.C_drewN ?_ _) | (with_reducible refine Kd.C_drew ?_)))
    (case side2 => exact HC0_3.out)
    (case side3 => repeat (first | exact (Kd.C_below HR0_4.out HB.out) | (with_reducible refine Kd.C_alloc ?_ _) | (with_reducible refine Kd.C_drewN ?_ _) | (with_reducible refine Kd.C_drew ?_)))
    (case side4 => exact HC0_4.out)
    rintro e w25 ⟨rfl, hb⟩; refine ⟨_, rfl, ?_⟩; have n0_ := Aside0.mk (bB (g := gb354) (o := .cells #[.int .i64 a0_0, .int .i64 a0_1, .int .i64 a0_2, .slice A0_3 l0_3.length c0_3, .slice A0_4 l0_4.length c0_4] 43 (0, 0)) (by (with_reducible repeat (first | refine bN ?_ _ | refine bD ?_ | refine bA ?_ _)); exact BK354.out) hb)
    have n1_ := Aside0.mk (bB (g := gb355) (o := .cells #[.int .i64 a1_0, .int .i64 a1_1, .int .i64 a1_2, .slice A1_3 l1_3.length c1_3, .slice A1_4 l1_4.length c1_4] 43 (0, 0)) (by (with_reducible repeat (first | refine bN ?_ _ | refine bD ?_ | refine bA ?_ _)); exact BK355.out) hb)
    have n2_ := Aside0.mk (below_step (by repeat (first | (with_reducible first | exact HB.out | apply wA | apply wN | apply wD | refine wS ?_ GE354.out | refine wS ?_ GE355.out) | exact HB.out)) hb); clear BK354; clear BK355; clear HB; have BK354 := n0_; have BK355 := n1_; have HB := n2_; clear n0_ n1_ n2_
    (try clear hb)
    (try clear hb2)
    (try clear hk)
    (try clear hi)
    refine hK.out _ _ ⟨(bC BK354.out 0).trans rfl, (bC BK354.out 1).trans rfl, (bC BK354.out 2).trans rfl, (bC BK354.out 3).trans rfl, (bC BK354.out 4).trans rfl, (bC BK355.out 0).trans rfl, (bC BK355.out 1).trans rfl, (bC BK355.out 2).trans rfl, (bC BK355.out 3).trans rfl, (bC BK355.out 4).trans rfl⟩ (fun hHeld => ?_); clear hK K; refine norm_ (a' := ?_) ?_ ?_; rotate_left
    ·
     show Act.put _ (some 23) _ = _
     simp only [Act.put, lT, l0_, lS, i64_w, i32_w]; rfl
    refine pure_ (i := 9) (N := some 24) (v := ?_) (a' := ?_) B25_10 rfl rfl (any_of HT_.out (by kernel_rfl)) (fun _ _ _ h => h) (Or.inl ⟨by rfl, ?_⟩) ?_ ?_; rotate_left
    ·
     intro w'; go_simp; with_reducible rfl
    rotate_left
    ·
     simp only [Act.put, lT, l0_, lS, i64_w, i32_w]; rfl
    refine pure_ (i := 10) (N := some 25) (v := ?_) (a' := ?_) B25_11 rfl rfl (any_of HT_.out (by kernel_rfl)) (fun _ _ _ h => h) (Or.inl ⟨by rfl, ?_⟩) ?_ ?_; rotate_left
    ·
     intro w'; go_simp; with_reducible rfl
    rotate_left
    ·
     simp only [Act.put, lT, l0_, lS, i64_w, i32_w]; rfl
    refine pure_ (i := 11) (N := some 26) (v := ?_) (a' := ?_) B25_12 rfl rfl (any_of HT_.out (by kernel_rfl)) (fun _ _ _ h => h) (Or.inl ⟨by rfl, ?_⟩) ?_ ?_; rotate_left
    ·
     intro w'; go_simp; with_reducible rfl
    rotate_left
    ·
     simp only [Act.put, lT, l0_, lS, i64_w, i32_w]; rfl
    refine pure_ (i := 12) (N := some 27) (v := undef) (a' := ?_) B25_13 rfl rfl (any_of HT_.out (by kernel_rfl)) (fun _ _ _ h => h) (Or.inr ⟨by rfl, rfl⟩) ?_ ?_; rotate_left
    ·
     simp only [Act.put, lT, l0_, lS, i64_w, i32_w]; rfl
    refine pure_ (i := 13) (N := some 28) (v := undef) (a' := ?_) B25_14 rfl rfl (any_of HT_.out (by kernel_rfl)) (fun _ _ _ h => h) (Or.inr ⟨by rfl, rfl⟩) ?_ ?_; rotate_left
    ·
     simp only [Act.put, lT, l0_, lS, i64_w, i32_w]; rfl
    refine pure_ (i := 14) (N := some 29) (v := undef) (a' := ?_) B25_15 rfl rfl (any_of HT_.out (by kernel_rfl)) (fun _ _ _ h => h) (Or.inr ⟨by rfl, rfl⟩) ?_ ?_; rotate_left
    ·
     simp only [Act.put, lT, l0_, lS, i64_w, i32_w]; rfl
    refine pure_ (i := 15) (N := some 30) (v := ?_) (a' := ?_) B25_16 rfl rfl (any_of HT_.out (by kernel_rfl)) (fun _ _ _ h => h) (Or.inl ⟨by rfl, ?_⟩) ?_ ?_; rotate_left
    ·
     intro w'; go_simp; with_reducible rfl
    rotate_left
    ·
     simp only [Act.put, lT, l0_, lS, i64_w, i32_w]; rfl
    refine done_ (done_of HT_.out (by kernel_rfl)) ?_
    try go_wp2
    go_meet
    case rel => exact ⟨_, (true), (by first | rfl | (simp; done) | (simp [*]; done)), H', ⟨by first | omega | exact Nat.le_refl _⟩, ⟨by (with_reducible repeat (first | refine bN ?_ _ | refine bD ?_ | refine bA ?_ _)); exact BK354.out⟩, ⟨by (with_reducible repeat (first | refine bN ?_ _ | refine bD ?_ | refine bA ?_ _)); exact BK355.out⟩, ⟨by repeat (first | (with_reducible first | exact HB.out | apply wA | apply wN | apply wD | refine wS ?_ GE354.out | refine wS ?_ GE355.out) | exact HB.out)⟩⟩
 case rest =>
  clear HC5
  try clear c1
  try clear c2
  try clear p2
  try clear c3
  try clear p6
  try clear c10
  try clear c10b0
  try clear c15
  try clear c25
  obtain ⟨kq, x30_4, rfl, HA, HJ4, BK354, BK355, HB⟩ := hcut
  cases kq with
  | zero => exact absurd HA.out (by simp [potsherdlaw14_NodeRows.j0])
  | succ kj4 =>
   have H := HA.out; clear HA; simp only [potsherdlaw14_NodeRows.j0] at H
   by_cases c26 : x30_4 = true
   ·
    subst c26
    have H1 : ((potsherdlaw14_awake.f kj4).bind fun t360 => (some t360)) = some true := by rw [if_pos rfl] at H; exact H
    clear H; have H := H1; clear H1; replace H := Option.bind_eq_some_iff.mp H; obtain ⟨t360, A270, H⟩ := H; replace H : (some t360) = some true := H; have A27 := Aside0.mk A270; clear A270; have HRET := Aside0.mk (Option.some.inj H); clear H
    go_wp2_with (first | ((with_reducible refine gate_callee (f := 26) rfl ?_); refine goesL_ (some 31) rfl rfl Try.func26 (by kernel_rfl) rfl #[] rfl (by (try simp only [List.map_toArray, List.map_cons, List.map_nil]); first | done | rfl | (simp only [List.length_drop, List.length_take]; rfl)) ?_; (with_reducible refine (potsherdlaw14_awake.calls kj4  t360 _ A27.out).mono ?_); rintro e w28 ⟨rfl, hb⟩; refine ⟨_, rfl, ?_⟩; have n0_ := Aside0.mk (bB (g := gb354) (o := .cells #[.int .i64 a0_0, .int .i64 a0_1, .int .i64 a0_2, .slice A0_3 l0_3.length c0_3, .slice A0_4 l0_4.length c0_4] 43 (0, 0)) (by (with_reducible repeat (first | refine bN ?_ _ | refine bD ?_ | refine bA ?_ _)); exact BK354.out) hb); have n1_ := Aside0.mk (bB (g := gb355) (o := .cells #[.int .i64 a1_0, .int .i64 a1_1, .int .i64 a1_2, .slice A1_3 l1_3.length c1_3, .slice A1_4 l1_4.length c1_4] 43 (0, 0)) (by (with_reducible repeat (first | refine bN ?_ _ | refine bD ?_ | refine bA ?_ _)); exact BK355.out) hb); have n2_ := Aside0.mk (below_step (by repeat (first | (with_reducible first | exact HB.out | apply wA | apply wN | apply wD | refine wS ?_ GE354.out | refine wS ?_ GE355.out) | exact HB.out)) hb); clear BK354; clear BK355; clear HB; have BK354 := n0_; have BK355 := n1_; have HB := n2_; clear n0_ n1_ n2_; (try clear hb); (try clear hb2); (try clear hk); (try clear hi)))
    go_ret
    exact ⟨by first | rfl | exact congrArg (fun b_ => Ending.returned (Value.bool b_)) HRET.out | (rw [HRET.out]) | (simp [errW_none, errW_some] <;> rfl) | (simp [*, errW_none, errW_some] <;> rfl), by repeat (first | (with_reducible first | exact HB.out | apply wA | apply wN | apply wD | refine wS ?_ GE354.out | refine wS ?_ GE355.out) | exact HB.out)⟩
   ·
    replace c26 := Bool.eq_false_iff.mpr c26; subst c26
    have H1 : ((node_Refs.f kj4 (wrap64 (Int.tmod (IntKind.u64.wrap (a2)) 12)) a0_0 a0_1 a0_2 l0_3 l0_4).bind fun t361 => ((node_Refs.f kj4 (wrap64 (Int.tmod (IntKind.u64.wrap (a3)) 12)) a1_0 a1_1 a1_2 l1_3 l1_4).bind fun t364 => ((node_Pages.f kj4 a0_0 a0_1 a0_2 l0_3 l0_4).bind fun t367 => (if (t361.length : Int) = t367 then ((node_Pages.f kj4 a1_0 a1_1 a1_2 l1_3 l1_4).bind fun t368 => (if (t364.length : Int) = t368 then ((node_Refs.f kj4 12 a0_0 a0_1 a0_2 l0_3 l0_4).bind fun t369 => (if (t369.length : Int) = 0 then ((node_Refs.f kj4 (-1) a0_0 a0_1 a0_2 l0_3 l0_4).bind fun t372 => (potsherdlaw14_NodeRows.j1 kj4 (wrap64 (Int.tmod (IntKind.u64.wrap (a2)) 12)) (wrap64 (Int.tmod (IntKind.u64.wrap (a3)) 12)) t361 t364 ((t372.length : Int) != 0))) else (potsherdlaw14_NodeRows.j1 kj4 (wrap64 (Int.tmod (IntKind.u64.wrap (a2)) 12)) (wrap64 (Int.tmod (IntKind.u64.wrap (a3)) 12)) t361 t364 true))) else (potsherdlaw14_NodeRows.j1 kj4 (wrap64 (Int.tmod (IntKind.u64.wrap (a2)) 12)) (wrap64 (Int.tmod (IntKind.u64.wrap (a3)) 12)) t361 t364 true))) else (potsherdlaw14_NodeRows.j1 kj4 (wrap64 (Int.tmod (IntKind.u64.wrap (a2)) 12)) (wrap64 (Int.tmod (IntKind.u64.wrap (a3)) 12)) t361 t364 true))))) = some true := by rw [if_neg (show ¬ (false = true) by decide)] at H; exact H
    clear H; have H := H1; clear H1; replace H := Option.bind_eq_some_iff.mp H; obtain ⟨t361, A290, H⟩ := H; replace H : ((node_Refs.f kj4 (wrap64 (Int.tmod (IntKind.u64.wrap (a3)) 12)) a1_0 a1_1 a1_2 l1_3 l1_4).bind fun t364 => ((node_Pages.f kj4 a0_0 a0_1 a0_2 l0_3 l0_4).bind fun t367 => (if (t361.length : Int) = t367 then ((node_Pages.f kj4 a1_0 a1_1 a1_2 l1_3 l1_4).bind fun t368 => (if (t364.length : Int) = t368 then ((node_Refs.f kj4 12 a0_0 a0_1 a0_2 l0_3 l0_4).bind fun t369 => (if (t369.length : Int) = 0 then ((node_Refs.f kj4 (-1) a0_0 a0_1 a0_2 l0_3 l0_4).bind fun t372 => (potsherdlaw14_NodeRows.j1 kj4 (wrap64 (Int.tmod (IntKind.u64.wrap (a2)) 12)) (wrap64 (Int.tmod (IntKind.u64.wrap (a3)) 12)) t361 t364 ((t372.length : Int) != 0))) else (potsherdlaw14_NodeRows.j1 kj4 (wrap64 (Int.tmod (IntKind.u64.wrap (a2)) 12)) (wrap64 (Int.tmod (IntKind.u64.wrap (a3)) 12)) t361 t364 true))) else (potsherdlaw14_NodeRows.j1 kj4 (wrap64 (Int.tmod (IntKind.u64.wrap (a2)) 12)) (wrap64 (Int.tmod (IntKind.u64.wrap (a3)) 12)) t361 t364 true))) else (potsherdlaw14_NodeRows.j1 kj4 (wrap64 (Int.tmod (IntKind.u64.wrap (a2)) 12)) (wrap64 (Int.tmod (IntKind.u64.wrap (a3)) 12)) t361 t364 true)))) = some true := H; have A29 := Aside0.mk A290; clear A290; replace H := Option.bind_eq_some_iff.mp H; obtain ⟨t364, A300, H⟩ := H; replace H : ((node_Pages.f kj4 a0_0 a0_1 a0_2 l0_3 l0_4).bind fun t367 => (if (t361.length : Int) = t367 then ((node_Pages.f kj4 a1_0 a1_1 a1_2 l1_3 l1_4).bind fun t368 => (if (t364.length : Int) = t368 then ((node_Refs.f kj4 12 a0_0 a0_1 a0_2 l0_3 l0_4).bind fun t369 => (if (t369.length : Int) = 0 then ((node_Refs.f kj4 (-1) a0_0 a0_1 a0_2 l0_3 l0_4).bind fun t372 => (potsherdlaw14_NodeRows.j1 kj4 (wrap64 (Int.tmod (IntKind.u64.wrap (a2)) 12)) (wrap64 (Int.tmod (IntKind.u64.wrap (a3)) 12)) t361 t364 ((t372.length : Int) != 0))) else (potsherdlaw14_NodeRows.j1 kj4 (wrap64 (Int.tmod (IntKind.u64.wrap (a2)) 12)) (wrap64 (Int.tmod (IntKind.u64.wrap (a3)) 12)) t361 t364 true))) else (potsherdlaw14_NodeRows.j1 kj4 (wrap64 (Int.tmod (IntKind.u64.wrap (a2)) 12)) (wrap64 (Int.tmod (IntKind.u64.wrap (a3)) 12)) t361 t364 true))) else (potsherdlaw14_NodeRows.j1 kj4 (wrap64 (Int.tmod (IntKind.u64.wrap (a2)) 12)) (wrap64 (Int.tmod (IntKind.u64.wrap (a3)) 12)) t361 t364 true))) = some true := H; have A30 := Aside0.mk A300; clear A300; have HC31 := Aside0.mk H; clear H
    try go_wp2
    have n0_ := Aside0.mk (bD BK354.out); have n1_ := Aside0.mk (bD BK355.out); have n2_ := Aside0.mk (wD HB.out); clear BK354; clear BK355; clear HB; have BK354 := n0_; have BK355 := n1_; have HB := n2_; clear n0_ n1_ n2_; refine start_ (n := 8) (S := fun w' => w'.cell? ⟨gb354, 0, none⟩ = some (.int .i64 a0_0) ∧ w'.cell? ⟨gb354, 1, none⟩ = some (.int .i64 a0_1) ∧ w'.cell? ⟨gb354, 2, none⟩ = some (.int .i64 a0_2) ∧ w'.cell? ⟨gb354, 3, none⟩ = some (.slice A0_3 l0_3.length c0_3) ∧ w'.cell? ⟨gb354, 4, none⟩ = some (.slice A0_4 l0_4.length c0_4) ∧ w'.cell? ⟨gb355, 0, none⟩ = some (.int .i64 a1_0) ∧ w'.cell? ⟨gb355, 1, none⟩ = some (.int .i64 a1_1) ∧ w'.cell? ⟨gb355, 2, none⟩ = some (.int .i64 a1_2) ∧ w'.cell? ⟨gb355, 3, none⟩ = some (.slice A1_3 l1_3.length c1_3) ∧ w'.cell? ⟨gb355, 4, none⟩ = some (.slice A1_4 l1_4.length c1_4)) (ds := []) B25_17 (by kernel_rfl) rfl rfl ⟨(bC BK354.out 0).trans rfl, (bC BK354.out 1).trans rfl, (bC BK354.out 2).trans rfl, (bC BK354.out 3).trans rfl, (bC BK354.out 4).trans rfl, (bC BK355.out 0).trans rfl, (bC BK355.out 1).trans rfl, (bC BK355.out 2).trans rfl, (bC BK355.out 3).trans rfl, (bC BK355.out 4).trans rfl⟩ (fun hHeld => ?_); refine with_tabW potsherdlaw14_NodeRows.tab4 potsherdlaw14_NodeRows.bits4 (fun HT_ HW_ => ?_); generalize wc.drew = w32 at BK354 BK355 HB hHeld ⊢; refine pure_ (i := 0) (N := some 40) (v := ?_) (a' := ?_) B25_18 rfl rfl (any_of HT_.out (by kernel_rfl)) (fun _ _ _ h => h) (Or.inl ⟨by rfl, ?_⟩) ?_ ?_; rotate_left
    ·
     intro w'; go_simp; with_reducible rfl
    rotate_left
    ·
     simp only [Act.put, lT, l0_, lS, i64_w, i32_w]; rfl
    refine pure_ (i := 3) (N := some 43) (v := ?_) (a' := ?_) B25_19 rfl rfl (any_of HT_.out (by kernel_rfl)) (fun _ _ _ h => h) (Or.inl ⟨by rfl, ?_⟩) ?_ ?_; rotate_left
    ·
     intro w'; go_simp; with_reducible rfl
    rotate_left
    ·
     simp only [Act.put, lT, l0_, lS, i64_w, i32_w]; rfl
    refine take_ (i := 1) (N := some 41) (v := ?_) (a' := ?_) B25_20 rfl rfl (take_ofW HT_.out HW_.out (by kernel_rfl)) (fun _ _ _ h => h) (Or.inl ⟨by rfl, ?_⟩) hHeld ?_ ?_; rotate_left
    ·
     rintro w' ⟨s0, s1, s2, s3, s4, s5, s6, s7, s8, s9⟩; go_simp; with_reducible rfl
    rotate_left
    ·
     simp only [Act.put, lT, l0_, lS, i64_w, i32_w]; rfl
    refine take_ (i := 4) (N := some 44) (v := ?_) (a' := ?_) B25_21 rfl rfl (take_ofW HT_.out HW_.out (by kernel_rfl)) (fun _ _ _ h => h) (Or.inl ⟨by rfl, ?_⟩) hHeld ?_ ?_; rotate_left
    ·
     rintro w' ⟨s0, s1, s2, s3, s4, s5, s6, s7, s8, s9⟩; go_simp; with_reducible rfl
    rotate_left
    ·
     simp only [Act.put, lT, l0_, lS, i64_w, i32_w]; rfl
    refine one_ (i := 2) (N := some 42) B25_22 rfl rfl (one_of HT_.out (by kernel_rfl)) (by decide) (fun K hK => ?_); refine goes_ Try.func27 (by kernel_rfl) rfl #[.int .i64 (wrap64 (Int.tmod (IntKind.u64.wrap (a2)) 12)), .agg #[.int .i64 a0_0, .int .i64 a0_1, .int .i64 a0_2, .slice A0_3 l0_3.length c0_3, .slice A0_4 l0_4.length c0_4]] (by rfl) rfl rfl (by (try simp only [List.map_toArray, List.map_cons, List.map_nil]); first | done | rfl | (simp only [List.length_drop, List.length_take]; rfl)) ?_
    with_reducible refine (node_Refs.calls kj4 (wrap64 (Int.tmod (IntKind.u64.wrap (a2)) 12)) a0_0 a0_1 a0_2 _ _ l0_3 _ _ l0_4 t361 _ ?side1 ?side2 ?side3 ?side4 A29.out).mono ?_
    (case side1 => repeat (first | exact (Kd.C_below HR0_3.out HB.out) | (with_reducible refine Kd.C_alloc ?_ _) | (with_reducible refine Kd.C_drewN ?_ _) | (with_reducible refine Kd.C_drew ?_)))
    (case side2 => exact HC0_3.out)
    (case side3 => repeat (first | exact (Kd.C_below HR0_4.out HB.out) | (with_reducible refine Kd.C_alloc ?_ _) | (with_reducible refine Kd.C_drewN ?_ _) | (with_reducible refine Kd.C_drew ?_)))
    (case side4 => exact HC0_4.out)
    rintro e w33 ⟨v362, rfl, ho0, hb⟩; refine ⟨_, rfl, ?_⟩; have n0_ := Aside0.mk (Kd.R_lower ho0 (below_size (by repeat (first | (with_reducible first | exact HB.out | apply wA | apply wN | apply wD | refine wS ?_ GE354.out | refine wS ?_ GE355.out) | exact HB.out)))); have n1_ := Aside0.mk (bB (g := gb354) (o := .cells #[.int .i64 a0_0, .int .i64 a0_1, .int .i64 a0_2, .slice A0_3 l0_3.length c0_3, .slice A0_4 l0_4.length c0_4] 43 (0, 0)) (by (with_reducible repeat (first | refine bN ?_ _ | refine bD ?_ | refine bA ?_ _)); exact BK354.out) hb)
    have n2_ := Aside0.mk (bB (g := gb355) (o := .cells #[.int .i64 a1_0, .int .i64 a1_1, .int .i64 a1_2, .slice A1_3 l1_3.length c1_3, .slice A1_4 l1_4.length c1_4] 43 (0, 0)) (by (with_reducible repeat (first | refine bN ?_ _ | refine bD ?_ | refine bA ?_ _)); exact BK355.out) hb)
    have n3_ := Aside0.mk (below_step (by repeat (first | (with_reducible first | exact HB.out | apply wA | apply wN | apply wD | refine wS ?_ GE354.out | refine wS ?_ GE355.out) | exact HB.out)) hb); clear BK354; clear BK355; clear HB; have HO363 := n0_; have BK354 := n1_; have BK355 := n2_; have HB := n3_; clear n0_ n1_ n2_ n3_
    (try clear hb)
    (try clear hb2)
    (try clear hk)
    (try clear hi)
    (try clear ho0)
    refine hK.out _ _ ⟨(bC BK354.out 0).trans rfl, (bC BK354.out 1).trans rfl, (bC BK354.out 2).trans rfl, (bC BK354.out 3).trans rfl, (bC BK354.out 4).trans rfl, (bC BK355.out 0).trans rfl, (bC BK355.out 1).trans rfl, (bC BK355.out 2).trans rfl, (bC BK355.out 3).trans rfl, (bC BK355.out 4).trans rfl⟩ (fun hHeld => ?_); clear hK K; refine norm_ (a' := ?_) ?_ ?_; rotate_left
    ·
     show Act.put _ (some 42) _ = _
     simp only [Act.put, lT, l0_, lS, i64_w, i32_w]; rfl
    refine one_ (i := 5) (N := some 45) B25_23 rfl rfl (one_of HT_.out (by kernel_rfl)) (by decide) (fun K hK => ?_); refine goes_ Try.func27 (by kernel_rfl) rfl #[.int .i64 (wrap64 (Int.tmod (IntKind.u64.wrap (a3)) 12)), .agg #[.int .i64 a1_0, .int .i64 a1_1, .int .i64 a1_2, .slice A1_3 l1_3.length c1_3, .slice A1_4 l1_4.length c1_4]] (by rfl) rfl rfl (by (try simp only [List.map_toArray, List.map_cons, List.map_nil]); first | done | rfl | (simp only [List.length_drop, List.length_take]; rfl)) ?_
    with_reducible refine (node_Refs.calls kj4 (wrap64 (Int.tmod (IntKind.u64.wrap (a3)) 12)) a1_0 a1_1 a1_2 _ _ l1_3 _ _ l1_4 t364 _ ?side1 ?side2 ?side3 ?side4 A30.out).mono ?_
    (case side1 => repeat (first | exact (Kd.C_below HR1_3.out HB.out) | (with_reducible refine Kd.C_alloc ?_ _) | (with_reducible refine Kd.C_drewN ?_ _) | (with_reducible refine Kd.C_drew ?_)))
    (case side2 => exact HC1_3.out)
    (case side3 => repeat (first | exact (Kd.C_below HR1_4.out HB.out) | (with_reducible refine Kd.C_alloc ?_ _) | (with_reducible refine Kd.C_drewN ?_ _) | (with_reducible refine Kd.C_drew ?_)))
    (case side4 => exact HC1_4.out)
    rintro e w34 ⟨v365, rfl, ho0, hb⟩; refine ⟨_, rfl, ?_⟩; have n0_ := Aside0.mk (Kd.R_elder' (by (with_reducible repeat (first | apply Kd.R_alloc | apply Kd.R_drewN | apply Kd.R_drew)); exact HO363.out) (Kd.R_base ho0) hb)
    have n1_ := Aside0.mk (Kd.R_lower (Kd.R_new' ho0 (Kd.R_lt (by (with_reducible repeat (first | apply Kd.R_alloc | apply Kd.R_drewN | apply Kd.R_drew)); exact HO363.out))) (below_size (by repeat (first | (with_reducible first | exact HB.out | apply wA | apply wN | apply wD | refine wS ?_ GE354.out | refine wS ?_ GE355.out) | exact HB.out))))
    have n2_ := Aside0.mk (bB (g := gb354) (o := .cells #[.int .i64 a0_0, .int .i64 a0_1, .int .i64 a0_2, .slice A0_3 l0_3.length c0_3, .slice A0_4 l0_4.length c0_4] 43 (0, 0)) (by (with_reducible repeat (first | refine bN ?_ _ | refine bD ?_ | refine bA ?_ _)); exact BK354.out) hb)
    have n3_ := Aside0.mk (bB (g := gb355) (o := .cells #[.int .i64 a1_0, .int .i64 a1_1, .int .i64 a1_2, .slice A1_3 l1_3.length c1_3, .slice A1_4 l1_4.length c1_4] 43 (0, 0)) (by (with_reducible repeat (first | refine bN ?_ _ | refine bD ?_ | refine bA ?_ _)); exact BK355.out) hb)
    have n4_ := Aside0.mk (below_step (by repeat (first | (with_reducible first | exact HB.out | apply wA | apply wN | apply wD | refine wS ?_ GE354.out | refine wS ?_ GE355.out) | exact HB.out)) hb); clear HO363; clear BK354; clear BK355; clear HB; have HO363 := n0_; have HO366 := n1_; have BK354 := n2_; have BK355 := n3_; have HB := n4_; clear n0_ n1_ n2_ n3_ n4_
    (try clear hb)
    (try clear hb2)
    (try clear hk)
    (try clear hi)
    (try clear ho0)
    refine hK.out _ _ ⟨(bC BK354.out 0).trans rfl, (bC BK354.out 1).trans rfl, (bC BK354.out 2).trans rfl, (bC BK354.out 3).trans rfl, (bC BK354.out 4).trans rfl, (bC BK355.out 0).trans rfl, (bC BK355.out 1).trans rfl, (bC BK355.out 2).trans rfl, (bC BK355.out 3).trans rfl, (bC BK355.out 4).trans rfl⟩ (fun hHeld => ?_); clear hK K; refine norm_ (a' := ?_) ?_ ?_; rotate_left
    ·
     show Act.put _ (some 45) _ = _
     simp only [Act.put, lT, l0_, lS, i64_w, i32_w]; rfl
    refine pure_ (i := 6) (N := some 9) (v := ?_) (a' := ?_) B25_24 rfl rfl (any_of HT_.out (by kernel_rfl)) (fun _ _ _ h => h) (Or.inl ⟨by rfl, ?_⟩) ?_ ?_; rotate_left
    ·
     intro w'; go_simp; with_reducible rfl
    rotate_left
    ·
     simp only [Act.put, lT, l0_, lS, i64_w, i32_w]; rfl
    refine pure_ (i := 7) (N := some 10) (v := ?_) (a' := ?_) B25_25 rfl rfl (any_of HT_.out (by kernel_rfl)) (fun _ _ _ h => h) (Or.inl ⟨by rfl, ?_⟩) ?_ ?_; rotate_left
    ·
     intro w'; go_simp; with_reducible rfl
    rotate_left
    ·
     simp only [Act.put, lT, l0_, lS, i64_w, i32_w]; rfl
    refine done_ (done_of HT_.out (by kernel_rfl)) ?_
    go_upto_region 5 with (fail)
    go_cut [69] (fun v69 wc => ∃ (kq : Nat) (x69_30 : Bool), v69 = .bool x69_30 ∧ Aside0 (potsherdlaw14_NodeRows.j1 kq (wrap64 (Int.tmod (IntKind.u64.wrap (a2)) 12)) (wrap64 (Int.tmod (IntKind.u64.wrap (a3)) 12)) t361 t364 x69_30 = some true) ∧ Aside0 (kq ≤ kj4) ∧ Aside0 (Kd.R k48 48 wc w.heap.size (fun k_ => some k_ ≠ (v365 : Value).ownBlock) v362 t361) ∧ Aside0 (Kd.R k48 48 wc w.heap.size (fun k_ => some k_ ≠ (v362 : Value).ownBlock) v365 t364) ∧ Aside0 (wc.heap[gb354]? = some (.cells #[.int .i64 a0_0, .int .i64 a0_1, .int .i64 a0_2, (.slice A0_3 l0_3.length c0_3), (.slice A0_4 l0_4.length c0_4)] 43 (0, 0))) ∧ Aside0 (wc.heap[gb355]? = some (.cells #[.int .i64 a1_0, .int .i64 a1_1, .int .i64 a1_2, (.slice A1_3 l1_3.length c1_3), (.slice A1_4 l1_4.length c1_4)] 43 (0, 0))) ∧ Aside0 (Below w.heap.size w wc))
    case first =>
     have H := HC31.out; clear HC31; replace H := Option.bind_eq_some_iff.mp H; obtain ⟨t367, A350, H⟩ := H; replace H : (if (t361.length : Int) = t367 then ((node_Pages.f kj4 a1_0 a1_1 a1_2 l1_3 l1_4).bind fun t368 => (if (t364.length : Int) = t368 then ((node_Refs.f kj4 12 a0_0 a0_1 a0_2 l0_3 l0_4).bind fun t369 => (if (t369.length : Int) = 0 then ((node_Refs.f kj4 (-1) a0_0 a0_1 a0_2 l0_3 l0_4).bind fun t372 => (potsherdlaw14_NodeRows.j1 kj4 (wrap64 (Int.tmod (IntKind.u64.wrap (a2)) 12)) (wrap64 (Int.tmod (IntKind.u64.wrap (a3)) 12)) t361 t364 ((t372.length : Int) != 0))) else (potsherdlaw14_NodeRows.j1 kj4 (wrap64 (Int.tmod (IntKind.u64.wrap (a2)) 12)) (wrap64 (Int.tmod (IntKind.u64.wrap (a3)) 12)) t361 t364 true))) else (potsherdlaw14_NodeRows.j1 kj4 (wrap64 (Int.tmod (IntKind.u64.wrap (a2)) 12)) (wrap64 (Int.tmod (IntKind.u64.wrap (a3)) 12)) t361 t364 true))) else (potsherdlaw14_NodeRows.j1 kj4 (wrap64 (Int.tmod (IntKind.u64.wrap (a2)) 12)) (wrap64 (Int.tmod (IntKind.u64.wrap (a3)) 12)) t361 t364 true)) = some true := H; have A35 := Aside0.mk A350; clear A350
     by_cases c36 : (t361.length : Int) = t367
     ·
      rw [if_pos c36] at H; have c36b0 : ((t361.length : Int) == t367) = true := beq_iff_eq.mpr c36; have c36b1 : ((t361.length : Int) != t367) = false := bne_eq_false_iff_eq.mpr c36; clear c36
      (first | rw [c36b0] | (simp only [i64_w, i32_w]; rw [c36b0]) | skip)
      replace H := Option.bind_eq_some_iff.mp H; obtain ⟨t368, A370, H⟩ := H; replace H : (if (t364.length : Int) = t368 then ((node_Refs.f kj4 12 a0_0 a0_1 a0_2 l0_3 l0_4).bind fun t369 => (if (t369.length : Int) = 0 then ((node_Refs.f kj4 (-1) a0_0 a0_1 a0_2 l0_3 l0_4).bind fun t372 => (potsherdlaw14_NodeRows.j1 kj4 (wrap64 (Int.tmod (IntKind.u64.wrap (a2)) 12)) (wrap64 (Int.tmod (IntKind.u64.wrap (a3)) 12)) t361 t364 ((t372.length : Int) != 0))) else (potsherdlaw14_NodeRows.j1 kj4 (wrap64 (Int.tmod (IntKind.u64.wrap (a2)) 12)) (wrap64 (Int.tmod (IntKind.u64.wrap (a3)) 12)) t361 t364 true))) else (potsherdlaw14_NodeRows.j1 kj4 (wrap64 (Int.tmod (IntKind.u64.wrap (a2)) 12)) (wrap64 (Int.tmod (IntKind.u64.wrap (a3)) 12)) t361 t364 true)) = some true := H; have A37 := Aside0.mk A370; clear A370
      by_cases c38 : (t364.length : Int) = t368
      ·
       rw [if_pos c38] at H; have c38b0 : ((t364.length : Int) == t368) = true := beq_iff_eq.mpr c38; have c38b1 : ((t364.length : Int) != t368) = false := bne_eq_false_iff_eq.mpr c38; clear c38; replace H := Option.bind_eq_some_iff.mp H; obtain ⟨t369, A390, H⟩ := H; replace H : (if (t369.length : Int) = 0 then ((node_Refs.f kj4 (-1) a0_0 a0_1 a0_2 l0_3 l0_4).bind fun t372 => (potsherdlaw14_NodeRows.j1 kj4 (wrap64 (Int.tmod (IntKind.u64.wrap (a2)) 12)) (wrap64 (Int.tmod (IntKind.u64.wrap (a3)) 12)) t361 t364 ((t372.length : Int) != 0))) else (potsherdlaw14_NodeRows.j1 kj4 (wrap64 (Int.tmod (IntKind.u64.wrap (a2)) 12)) (wrap64 (Int.tmod (IntKind.u64.wrap (a3)) 12)) t361 t364 true)) = some true := H; have A39 := Aside0.mk A390; clear A390
       by_cases c40 : (t369.length : Int) = 0
       ·
        rw [if_pos c40] at H; have c40b0 : ((t369.length : Int) == 0) = true := beq_iff_eq.mpr c40; have c40b1 : ((t369.length : Int) != 0) = false := bne_eq_false_iff_eq.mpr c40; clear c40; replace H := Option.bind_eq_some_iff.mp H; obtain ⟨t372, A410, H⟩ := H; replace H : (potsherdlaw14_NodeRows.j1 kj4 (wrap64 (Int.tmod (IntKind.u64.wrap (a2)) 12)) (wrap64 (Int.tmod (IntKind.u64.wrap (a3)) 12)) t361 t364 ((t372.length : Int) != 0)) = some true := H; have A41 := Aside0.mk A410; clear A410; have H' := Aside0.mk H; clear H; obtain ⟨Ao42, co42, eo42⟩ := Kd.R_slice HO363.out; subst eo42; have hnb43 := NB354_355.out; have hnc43 := NB355_354.out; have hcz44_0 : w34.cell? ⟨gb354, 0, none⟩ = some (.int .i64 a0_0) := (bC BK354.out 0).trans rfl; have hcz44_1 : w34.cell? ⟨gb354, 1, none⟩ = some (.int .i64 a0_1) := (bC BK354.out 1).trans rfl; have hcz44_2 : w34.cell? ⟨gb354, 2, none⟩ = some (.int .i64 a0_2) := (bC BK354.out 2).trans rfl; have hcz44_3 : w34.cell? ⟨gb354, 3, none⟩ = some (.slice A0_3 l0_3.length c0_3) := (bC BK354.out 3).trans rfl; have hcz44_4 : w34.cell? ⟨gb354, 4, none⟩ = some (.slice A0_4 l0_4.length c0_4) := (bC BK354.out 4).trans rfl; have hfz44_0 := bZ BK354.out 0; have hfz44_1 := bZ BK354.out 1; have hfz44_2 := bZ BK354.out 2; have hfz44_3 := bZ BK354.out 3; have hfz44_4 := bZ BK354.out 4
        go_wp2_with (first | ((with_reducible refine gate_callee (f := 35) rfl ?_); refine goesL_ (some 49) rfl rfl Try.func35 (by kernel_rfl) rfl #[.agg #[.int .i64 a0_0, .int .i64 a0_1, .int .i64 a0_2, .slice A0_3 l0_3.length c0_3, .slice A0_4 l0_4.length c0_4]] rfl (by (try simp only [List.map_toArray, List.map_cons, List.map_nil]); first | done | rfl | (simp only [List.length_drop, List.length_take]; rfl)) ?_; (with_reducible refine (node_Pages.calls kj4 a0_0 a0_1 a0_2 _ _ l0_3 _ _ l0_4 t367 _ ?side1 ?side2 ?side3 ?side4 A35.out).mono ?_); (case side1 => repeat (first | exact (Kd.C_below HR0_3.out HB.out) | (with_reducible refine Kd.C_alloc ?_ _) | (with_reducible refine Kd.C_drewN ?_ _) | (with_reducible refine Kd.C_drew ?_))); (case side2 => exact HC0_3.out); (case side3 => repeat (first | exact (Kd.C_below HR0_4.out HB.out) | (with_reducible refine Kd.C_alloc ?_ _) | (with_reducible refine Kd.C_drewN ?_ _) | (with_reducible refine Kd.C_drew ?_))); (case side4 => exact HC0_4.out); rintro e w45 ⟨rfl, hb⟩; refine ⟨_, rfl, ?_⟩; have n0_ := Aside0.mk (Kd.R_below (by (with_reducible repeat (first | apply Kd.R_alloc | apply Kd.R_drewN | apply Kd.R_drew)); exact HO363.out) hb); have n1_ := Aside0.mk (Kd.R_below (by (with_reducible repeat (first | apply Kd.R_alloc | apply Kd.R_drewN | apply Kd.R_drew)); exact HO366.out) hb); have n2_ := Aside0.mk (bB (g := gb354) (o := .cells #[.int .i64 a0_0, .int .i64 a0_1, .int .i64 a0_2, .slice A0_3 l0_3.length c0_3, .slice A0_4 l0_4.length c0_4] 43 (0, 0)) (by (with_reducible repeat (first | refine bN ?_ _ | refine bD ?_ | refine bA ?_ _)); exact BK354.out) hb); have n3_ := Aside0.mk (bB (g := gb355) (o := .cells #[.int .i64 a1_0, .int .i64 a1_1, .int .i64 a1_2, .slice A1_3 l1_3.length c1_3, .slice A1_4 l1_4.length c1_4] 43 (0, 0)) (by (with_reducible repeat (first | refine bN ?_ _ | refine bD ?_ | refine bA ?_ _)); exact BK355.out) hb); have n4_ := Aside0.mk (below_step (by repeat (first | (with_reducible first | exact HB.out | apply wA | apply wN | apply wD | refine wS ?_ GE354.out | refine wS ?_ GE355.out) | exact HB.out)) hb); clear HO363; clear HO366; clear BK354; clear BK355; clear HB; have HO363 := n0_; have HO366 := n1_; have BK354 := n2_; have BK355 := n3_; have HB := n4_; clear n0_ n1_ n2_ n3_ n4_; (try clear hb); (try clear hb2); (try clear hk); (try clear hi); obtain ⟨Ao46, co46, eo46⟩ := Kd.R_slice HO366.out; subst eo46; have hcz47_0 : w45.cell? ⟨gb355, 0, none⟩ = some (.int .i64 a1_0) := (bC BK355.out 0).trans rfl; have hcz47_1 : w45.cell? ⟨gb355, 1, none⟩ = some (.int .i64 a1_1) := (bC BK355.out 1).trans rfl; have hcz47_2 : w45.cell? ⟨gb355, 2, none⟩ = some (.int .i64 a1_2) := (bC BK355.out 2).trans rfl; have hcz47_3 : w45.cell? ⟨gb355, 3, none⟩ = some (.slice A1_3 l1_3.length c1_3) := (bC BK355.out 3).trans rfl; have hcz47_4 : w45.cell? ⟨gb355, 4, none⟩ = some (.slice A1_4 l1_4.length c1_4) := (bC BK355.out 4).trans rfl; have hfz47_0 := bZ BK355.out 0; have hfz47_1 := bZ BK355.out 1; have hfz47_2 := bZ BK355.out 2; have hfz47_3 := bZ BK355.out 3; have hfz47_4 := bZ BK355.out 4) | (go_at_call 35; (with_reducible refine (node_Pages.calls kj4 a1_0 a1_1 a1_2 _ _ l1_3 _ _ l1_4 t368 _ ?side1 ?side2 ?side3 ?side4 A37.out).mono ?_); (case side1 => repeat (first | exact (Kd.C_below HR1_3.out HB.out) | (with_reducible refine Kd.C_alloc ?_ _) | (with_reducible refine Kd.C_drewN ?_ _) | (with_reducible refine Kd.C_drew ?_))); (case side2 => exact HC1_3.out); (case side3 => repeat (first | exact (Kd.C_below HR1_4.out HB.out) | (with_reducible refine Kd.C_alloc ?_ _) | (with_reducible refine Kd.C_drewN ?_ _) | (with_reducible refine Kd.C_drew ?_))); (case side4 => exact HC1_4.out); rintro e w48 ⟨rfl, hb⟩; have n0_ := Aside0.mk (Kd.R_below (by (with_reducible repeat (first | apply Kd.R_alloc | apply Kd.R_drewN | apply Kd.R_drew)); exact HO363.out) hb); have n1_ := Aside0.mk (Kd.R_below (by (with_reducible repeat (first | apply Kd.R_alloc | apply Kd.R_drewN | apply Kd.R_drew)); exact HO366.out) hb); have n2_ := Aside0.mk (bB (g := gb354) (o := .cells #[.int .i64 a0_0, .int .i64 a0_1, .int .i64 a0_2, .slice A0_3 l0_3.length c0_3, .slice A0_4 l0_4.length c0_4] 43 (0, 0)) (by (with_reducible repeat (first | refine bN ?_ _ | refine bD ?_ | refine bA ?_ _)); exact BK354.out) hb); have n3_ := Aside0.mk (bB (g := gb355) (o := .cells #[.int .i64 a1_0, .int .i64 a1_1, .int .i64 a1_2, .slice A1_3 l1_3.length c1_3, .slice A1_4 l1_4.length c1_4] 43 (0, 0)) (by (with_reducible repeat (first | refine bN ?_ _ | refine bD ?_ | refine bA ?_ _)); exact BK355.out) hb); have n4_ := Aside0.mk (below_step (by repeat (first | (with_reducible first | exact HB.out | apply wA | apply wN | apply wD | refine wS ?_ GE354.out | refine wS ?_ GE355.out) | exact HB.out)) hb); clear HO363; clear HO366; clear BK354; clear BK355; clear HB; have HO363 := n0_; have HO366 := n1_; have BK354 := n2_; have BK355 := n3_; have HB := n4_; clear n0_ n1_ n2_ n3_ n4_; (try clear hb); (try clear hb2); (try clear hk); (try clear hi); have hcz49_0 : w48.cell? ⟨gb354, 0, none⟩ = some (.int .i64 a0_0) := (bC BK354.out 0).trans rfl; have hcz49_1 : w48.cell? ⟨gb354, 1, none⟩ = some (.int .i64 a0_1) := (bC BK354.out 1).trans rfl; have hcz49_2 : w48.cell? ⟨gb354, 2, none⟩ = some (.int .i64 a0_2) := (bC BK354.out 2).trans rfl; have hcz49_3 : w48.cell? ⟨gb354, 3, none⟩ = some (.slice A0_3 l0_3.length c0_3) := (bC BK354.out 3).trans rfl; have hcz49_4 : w48.cell? ⟨gb354, 4, none⟩ = some (.slice A0_4 l0_4.length c0_4) := (bC BK354.out 4).trans rfl; have hfz49_0 := bZ BK354.out 0; have hfz49_1 := bZ BK354.out 1; have hfz49_2 := bZ BK354.out 2; have hfz49_3 := bZ BK354.out 3; have hfz49_4 := bZ BK354.out 4) | (go_at_call 27; (with_reducible refine (node_Refs.calls kj4 12 a0_0 a0_1 a0_2 _ _ l0_3 _ _ l0_4 t369 _ ?side1 ?side2 ?side3 ?side4 A39.out).mono ?_); (case side1 => repeat (first | exact (Kd.C_below HR0_3.out HB.out) | (with_reducible refine Kd.C_alloc ?_ _) | (with_reducible refine Kd.C_drewN ?_ _) | (with_reducible refine Kd.C_drew ?_))); (case side2 => exact HC0_3.out); (case side3 => repeat (first | exact (Kd.C_below HR0_4.out HB.out) | (with_reducible refine Kd.C_alloc ?_ _) | (with_reducible refine Kd.C_drewN ?_ _) | (with_reducible refine Kd.C_drew ?_))); (case side4 => exact HC0_4.out); rintro e w50 ⟨v370, rfl, ho0, hb⟩; have n0_ := Aside0.mk (Kd.R_elder' (by (with_reducible repeat (first | apply Kd.R_alloc | apply Kd.R_drewN | apply Kd.R_drew)); exact HO363.out) (Kd.R_base ho0) hb); have n1_ := Aside0.mk (Kd.R_elder' (by (with_reducible repeat (first | apply Kd.R_alloc | apply Kd.R_drewN | apply Kd.R_drew)); exact HO366.out) (Kd.R_base ho0) hb); have n2_ := Aside0.mk (Kd.R_lower (Kd.R_new' (Kd.R_new' ho0 (Kd.R_lt (by (with_reducible repeat (first | apply Kd.R_alloc | apply Kd.R_drewN | apply Kd.R_drew)); exact HO363.out))) (Kd.R_lt (by (with_reducible repeat (first | apply Kd.R_alloc | apply Kd.R_drewN | apply Kd.R_drew)); exact HO366.out))) (below_size (by repeat (first | (with_reducible first | exact HB.out | apply wA | apply wN | apply wD | refine wS ?_ GE354.out | refine wS ?_ GE355.out) | exact HB.out)))); have n3_ := Aside0.mk (bB (g := gb354) (o := .cells #[.int .i64 a0_0, .int .i64 a0_1, .int .i64 a0_2, .slice A0_3 l0_3.length c0_3, .slice A0_4 l0_4.length c0_4] 43 (0, 0)) (by (with_reducible repeat (first | refine bN ?_ _ | refine bD ?_ | refine bA ?_ _)); exact BK354.out) hb); have n4_ := Aside0.mk (bB (g := gb355) (o := .cells #[.int .i64 a1_0, .int .i64 a1_1, .int .i64 a1_2, .slice A1_3 l1_3.length c1_3, .slice A1_4 l1_4.length c1_4] 43 (0, 0)) (by (with_reducible repeat (first | refine bN ?_ _ | refine bD ?_ | refine bA ?_ _)); exact BK355.out) hb); have n5_ := Aside0.mk (below_step (by repeat (first | (with_reducible first | exact HB.out | apply wA | apply wN | apply wD | refine wS ?_ GE354.out | refine wS ?_ GE355.out) | exact HB.out)) hb); clear HO363; clear HO366; clear BK354; clear BK355; clear HB; have HO363 := n0_; have HO366 := n1_; have HO371 := n2_; have BK354 := n3_; have BK355 := n4_; have HB := n5_; clear n0_ n1_ n2_ n3_ n4_ n5_; (try clear hb); (try clear hb2); (try clear hk); (try clear hi); (try clear ho0); obtain ⟨Ao51, co51, eo51⟩ := Kd.R_slice HO371.out; subst eo51; have hcz52_0 : w50.cell? ⟨gb354, 0, none⟩ = some (.int .i64 a0_0) := (bC BK354.out 0).trans rfl; have hcz52_1 : w50.cell? ⟨gb354, 1, none⟩ = some (.int .i64 a0_1) := (bC BK354.out 1).trans rfl; have hcz52_2 : w50.cell? ⟨gb354, 2, none⟩ = some (.int .i64 a0_2) := (bC BK354.out 2).trans rfl; have hcz52_3 : w50.cell? ⟨gb354, 3, none⟩ = some (.slice A0_3 l0_3.length c0_3) := (bC BK354.out 3).trans rfl; have hcz52_4 : w50.cell? ⟨gb354, 4, none⟩ = some (.slice A0_4 l0_4.length c0_4) := (bC BK354.out 4).trans rfl; have hfz52_0 := bZ BK354.out 0; have hfz52_1 := bZ BK354.out 1; have hfz52_2 := bZ BK354.out 2; have hfz52_3 := bZ BK354.out 3; have hfz52_4 := bZ BK354.out 4) | (go_at_call 27; (with_reducible refine (node_Refs.calls kj4 (-1) a0_0 a0_1 a0_2 _ _ l0_3 _ _ l0_4 t372 _ ?side1 ?side2 ?side3 ?side4 A41.out).mono ?_); (case side1 => repeat (first | exact (Kd.C_below HR0_3.out HB.out) | (with_reducible refine Kd.C_alloc ?_ _) | (with_reducible refine Kd.C_drewN ?_ _) | (with_reducible refine Kd.C_drew ?_))); (case side2 => exact HC0_3.out); (case side3 => repeat (first | exact (Kd.C_below HR0_4.out HB.out) | (with_reducible refine Kd.C_alloc ?_ _) | (with_reducible refine Kd.C_drewN ?_ _) | (with_reducible refine Kd.C_drew ?_))); (case side4 => exact HC0_4.out); rintro e w53 ⟨v373, rfl, ho0, hb⟩; have n0_ := Aside0.mk (Kd.R_elder' (by (with_reducible repeat (first | apply Kd.R_alloc | apply Kd.R_drewN | apply Kd.R_drew)); exact HO363.out) (Kd.R_base ho0) hb); have n1_ := Aside0.mk (Kd.R_elder' (by (with_reducible repeat (first | apply Kd.R_alloc | apply Kd.R_drewN | apply Kd.R_drew)); exact HO366.out) (Kd.R_base ho0) hb); have n2_ := Aside0.mk (Kd.R_elder' (by (with_reducible repeat (first | apply Kd.R_alloc | apply Kd.R_drewN | apply Kd.R_drew)); exact HO371.out) (Kd.R_base ho0) hb); have n3_ := Aside0.mk (Kd.R_lower (Kd.R_new' (Kd.R_new' (Kd.R_new' ho0 (Kd.R_lt (by (with_reducible repeat (first | apply Kd.R_alloc | apply Kd.R_drewN | apply Kd.R_drew)); exact HO363.out))) (Kd.R_lt (by (with_reducible repeat (first | apply Kd.R_alloc | apply Kd.R_drewN | apply Kd.R_drew)); exact HO366.out))) (Kd.R_lt (by (with_reducible repeat (first | apply Kd.R_alloc | apply Kd.R_drewN | apply Kd.R_drew)); exact HO371.out))) (below_size (by repeat (first | (with_reducible first | exact HB.out | apply wA | apply wN | apply wD | refine wS ?_ GE354.out | refine wS ?_ GE355.out) | exact HB.out)))); have n4_ := Aside0.mk (bB (g := gb354) (o := .cells #[.int .i64 a0_0, .int .i64 a0_1, .int .i64 a0_2, .slice A0_3 l0_3.length c0_3, .slice A0_4 l0_4.length c0_4] 43 (0, 0)) (by (with_reducible repeat (first | refine bN ?_ _ | refine bD ?_ | refine bA ?_ _)); exact BK354.out) hb); have n5_ := Aside0.mk (bB (g := gb355) (o := .cells #[.int .i64 a1_0, .int .i64 a1_1, .int .i64 a1_2, .slice A1_3 l1_3.length c1_3, .slice A1_4 l1_4.length c1_4] 43 (0, 0)) (by (with_reducible repeat (first | refine bN ?_ _ | refine bD ?_ | refine bA ?_ _)); exact BK355.out) hb); have n6_ := Aside0.mk (below_step (by repeat (first | (with_reducible first | exact HB.out | apply wA | apply wN | apply wD | refine wS ?_ GE354.out | refine wS ?_ GE355.out) | exact HB.out)) hb); clear HO363; clear HO366; clear HO371; clear BK354; clear BK355; clear HB; have HO363 := n0_; have HO366 := n1_; have HO371 := n2_; have HO374 := n3_; have BK354 := n4_; have BK355 := n5_; have HB := n6_; clear n0_ n1_ n2_ n3_ n4_ n5_ n6_; (try clear hb); (try clear hb2); (try clear hk); (try clear hi); (try clear ho0); obtain ⟨Ao54, co54, eo54⟩ := Kd.R_slice HO374.out; subst eo54))
        go_meet
        case rel => exact ⟨_, (((t372.length : Int) != 0)), (by first | rfl | (simp; done) | (simp [*]; done)), H', ⟨by have := HJ4.out; first | omega | exact Nat.le_refl _⟩, ⟨by (with_reducible repeat (first | apply Kd.R_alloc | apply Kd.R_drewN | apply Kd.R_drew)); exact Kd.R_mono HO363.out (fun _ hk => hk.1.1.2)⟩, ⟨by (with_reducible repeat (first | apply Kd.R_alloc | apply Kd.R_drewN | apply Kd.R_drew)); exact Kd.R_mono HO366.out (fun _ hk => hk.1.1.2)⟩, ⟨by (with_reducible repeat (first | refine bN ?_ _ | refine bD ?_ | refine bA ?_ _)); exact BK354.out⟩, ⟨by (with_reducible repeat (first | refine bN ?_ _ | refine bD ?_ | refine bA ?_ _)); exact BK355.out⟩, ⟨by repeat (first | (with_reducible first | exact HB.out | apply wA | apply wN | apply wD | refine wS ?_ GE354.out | refine wS ?_ GE355.out) | exact HB.out)⟩⟩
       ·
        rw [if_neg c40] at H; have c40b0 : ((t369.length : Int) == 0) = false := beq_eq_false_iff_ne.mpr c40; have c40b1 : ((t369.length : Int) != 0) = true := bne_iff_ne.mpr c40
        have c40b2 : ¬ (t369 = []) := fun h_ => c40 (by rw [h_]; rfl)
        exact absurd H (by cases kj4 <;> simp [potsherdlaw14_NodeRows.j1])
      ·
       rw [if_neg c38] at H; have c38b0 : ((t364.length : Int) == t368) = false := beq_eq_false_iff_ne.mpr c38; have c38b1 : ((t364.length : Int) != t368) = true := bne_iff_ne.mpr c38; exact absurd H (by cases kj4 <;> simp [potsherdlaw14_NodeRows.j1])
     ·
      rw [if_neg c36] at H; have c36b0 : ((t361.length : Int) == t367) = false := beq_eq_false_iff_ne.mpr c36; have c36b1 : ((t361.length : Int) != t367) = true := bne_iff_ne.mpr c36
      (first | rw [c36b0] | (simp only [i64_w, i32_w]; rw [c36b0]) | skip)
      exact absurd H (by cases kj4 <;> simp [potsherdlaw14_NodeRows.j1])
    case rest =>
     clear HC31
     try clear c1
     try clear c2
     try clear p2
     try clear c3
     try clear c4
     try clear p6
     try clear c10
     try clear c10b0
     try clear c15
     try clear c25
     try clear c26
     try clear c27
     try clear c30
     try clear c35
     try clear c36
     try clear c36b0
     try clear c36b1
     try clear c38
     try clear c38b0
     try clear c38b1
     try clear c40
     try clear c40b0
     try clear c40b1
     try clear c40b2
     try clear c43
     try clear hcz44_0
     try clear hcz44_1
     try clear hcz44_2
     try clear hcz44_3
     try clear hcz44_4
     try clear hcz47_0
     try clear hcz47_1
     try clear hcz47_2
     try clear hcz47_3
     try clear hcz47_4
     try clear hcz49_0
     try clear hcz49_1
     try clear hcz49_2
     try clear hcz49_3
     try clear hcz49_4
     try clear hcz52_0
     try clear hcz52_1
     try clear hcz52_2
     try clear hcz52_3
     try clear hcz52_4
     try clear hfz44_0
     try clear hfz44_1
     try clear hfz44_2
     try clear hfz44_3
     try clear hfz44_4
     try clear hfz47_0
     try clear hfz47_1
     try clear hfz47_2
     try clear hfz47_3
     try clear hfz47_4
     try clear hfz49_0
     try clear hfz49_1
     try clear hfz49_2
     try clear hfz49_3
     try clear hfz49_4
     try clear hfz52_0
     try clear hfz52_1
     try clear hfz52_2
     try clear hfz52_3
     try clear hfz52_4
     try clear p2
     try clear p6
     obtain ⟨kq, x69_30, rfl, HA, HJ30, HO_9, HO_10, BK354, BK355, HB⟩ := hcut
     cases kq with
     | zero => exact absurd HA.out (by simp [potsherdlaw14_NodeRows.j1])
     | succ kj30 =>
      have H := HA.out; clear HA; simp only [potsherdlaw14_NodeRows.j1] at H
      by_cases c55 : x69_30 = true
      ·
       subst c55
       have H1 : (some false) = some true := by rw [if_pos rfl] at H; exact H
       clear H; have H := H1; clear H1; exact absurd H (by simp)
      ·
       replace c55 := Bool.eq_false_iff.mpr c55; subst c55
       have H1 : (potsherdlaw14_NodeRows.l0 kj30 (wrap64 (Int.tmod (IntKind.u64.wrap (a2)) 12)) (wrap64 (Int.tmod (IntKind.u64.wrap (a3)) 12)) t364 t361 (t361.length : Int) 0) = some true := by rw [if_neg (show ¬ (false = true) by decide)] at H; exact H
       clear H; have H := H1; clear H1; have H' := Aside0.mk H; clear H; obtain ⟨Ao56, co56, eo56⟩ := Kd.R_slice HO_9.out; subst eo56
       go_wp2
       go_loopg [72] kj30 (fun kq v72 w' => ∃ (x72_3 : Int), v72 = .int .i64 x72_3 ∧ Aside0 (potsherdlaw14_NodeRows.l0 kq (wrap64 (Int.tmod (IntKind.u64.wrap (a2)) 12)) (wrap64 (Int.tmod (IntKind.u64.wrap (a3)) 12)) t364 t361 (t361.length : Int) x72_3 = some true) ∧ Aside0 (kq ≤ kj30) ∧ Aside0 (Kd.R k48 48 w' w.heap.size (fun k_ => some k_ ≠ ((.slice Ao56 t361.length co56) : Value).ownBlock) v365 t364) ∧ Aside0 (Kd.R k48 48 w' w.heap.size (fun k_ => some k_ ≠ (v365 : Value).ownBlock) (.slice Ao56 t361.length co56) t361) ∧ Aside0 (w'.heap[gb354]? = some (.cells #[.int .i64 a0_0, .int .i64 a0_1, .int .i64 a0_2, (.slice A0_3 l0_3.length c0_3), (.slice A0_4 l0_4.length c0_4)] 43 (0, 0))) ∧ Aside0 (w'.heap[gb355]? = some (.cells #[.int .i64 a1_0, .int .i64 a1_1, .int .i64 a1_2, (.slice A1_3 l1_3.length c1_3), (.slice A1_4 l1_4.length c1_4)] 43 (0, 0))) ∧ Aside0 (Below w.heap.size w w'))
       case atStart => exact ⟨(0), (by first | rfl | (simp; done) | (simp [*]; done)), H', ⟨Nat.le_refl _⟩, ⟨by (with_reducible repeat (first | apply Kd.R_alloc | apply Kd.R_drewN | apply Kd.R_drew)); exact HO_10.out⟩, ⟨by (with_reducible repeat (first | apply Kd.R_alloc | apply Kd.R_drewN | apply Kd.R_drew)); exact HO_9.out⟩, ⟨by (with_reducible repeat (first | refine bN ?_ _ | refine bD ?_ | refine bA ?_ _)); exact BK354.out⟩, ⟨by (with_reducible repeat (first | refine bN ?_ _ | refine bD ?_ | refine bA ?_ _)); exact BK355.out⟩, ⟨by repeat (first | (with_reducible first | exact HB.out | apply wA | apply wN | apply wD | refine wS ?_ GE354.out | refine wS ?_ GE355.out) | exact HB.out)⟩⟩
       case round =>
        clear H'
        try clear c1
        try clear c2
        try clear p2
        try clear c3
        try clear c4
        try clear c5
        try clear p6
        try clear c10
        try clear c10b0
        try clear c15
        try clear c25
        try clear c26
        try clear c27
        try clear c30
        try clear c35
        try clear c36
        try clear c36b0
        try clear c36b1
        try clear c38
        try clear c38b0
        try clear c38b1
        try clear c40
        try clear c40b0
        try clear c40b1
        try clear c40b2
        try clear c43
        try clear c55
        try clear hcz44_0
        try clear hcz44_1
        try clear hcz44_2
        try clear hcz44_3
        try clear hcz44_4
        try clear hcz47_0
        try clear hcz47_1
        try clear hcz47_2
        try clear hcz47_3
        try clear hcz47_4
        try clear hcz49_0
        try clear hcz49_1
        try clear hcz49_2
        try clear hcz49_3
        try clear hcz49_4
        try clear hcz52_0
        try clear hcz52_1
        try clear hcz52_2
        try clear hcz52_3
        try clear hcz52_4
        try clear hfz44_0
        try clear hfz44_1
        try clear hfz44_2
        try clear hfz44_3
        try clear hfz44_4
        try clear hfz47_0
        try clear hfz47_1
        try clear hfz47_2
        try clear hfz47_3
        try clear hfz47_4
        try clear hfz49_0
        try clear hfz49_1
        try clear hfz49_2
        try clear hfz49_3
        try clear hfz49_4
        try clear hfz52_0
        try clear hfz52_1
        try clear hfz52_2
        try clear hfz52_3
        try clear hfz52_4
        try clear p2
        try clear p6
        obtain ⟨x72_3, rfl, HA, HK3, HO_10, HO_70, BK354, BK355, HB⟩ := hrel
        cases gk with
        | zero => exact absurd HA.out (by simp [potsherdlaw14_NodeRows.l0])
        | succ k3 =>
         have H := HA.out; clear HA; simp only [potsherdlaw14_NodeRows.l0] at H
         by_cases c57 : x72_3 < (t361.length : Int)
         ·
          rw [if_pos c57] at H; have c57b0 : decide (x72_3 < (t361.length : Int)) = true := decide_eq_true c57; clear c57
          by_cases c58 : 0 ≤ x72_3
          ·
           rw [if_pos c58] at H; have c58b0 : decide (0 ≤ x72_3) = true := decide_eq_true c58; clear c58
           by_cases c59 : x72_3 < (t361.length : Int)
           ·
            rw [if_pos c59] at H; have c59b0 : decide (x72_3 < (t361.length : Int)) = true := decide_eq_true c59; clear c59; have H' := Aside0.mk H; clear H; have p376 : 0 ≤ (x72_3 : Int) := of_decide_eq_true (by first | (with_reducible assumption) | assumption); have q376 : x72_3 < (t361.length : Int) := of_decide_eq_true (by first | (with_reducible assumption) | assumption); obtain ⟨ad376, e376, hx376_0, hx376_1⟩ := at_T48 (Kd.R_reads' HO_70.out).2.2 x72_3 p376 q376
            cases e376
            replace p376 := eq_true p376; replace q376 := eq_true q376
            go_wp2_with (first | ((with_reducible refine gate_dst (N := 12) rfl ?_); (try (refine gate_guard (by rfl) ?_; dsimp only)); refine box_event ?hg (N := 12) ?hd (cs := #[.int .i64 0, .int .i64 0]) (t := 48) ?hr ?_; (case hd => rfl); (case hg => rfl); (case hr => first | (go_simp; done) | (go_simp; rfl)); intro gb377 hg w60 hbox hb; have n0_ := Aside0.mk (Kd.R_below (Kd.R_elderB (by (with_reducible repeat (first | apply Kd.R_alloc | apply Kd.R_drewN | apply Kd.R_drew)); exact HO_10.out) gb377 (Nat.le_of_eq hg.symm)) hb); have n1_ := Aside0.mk (Kd.R_below (Kd.R_elderB (by (with_reducible repeat (first | apply Kd.R_alloc | apply Kd.R_drewN | apply Kd.R_drew)); exact HO_70.out) gb377 (Nat.le_of_eq hg.symm)) hb); have n2_ := Aside0.mk (bB (g := gb354) (o := .cells #[.int .i64 a0_0, .int .i64 a0_1, .int .i64 a0_2, .slice A0_3 l0_3.length c0_3, .slice A0_4 l0_4.length c0_4] 43 (0, 0)) (by (with_reducible repeat (first | refine bN ?_ _ | refine bD ?_ | refine bA ?_ _)); exact BK354.out) hb); have n3_ := Aside0.mk (bB (g := gb355) (o := .cells #[.int .i64 a1_0, .int .i64 a1_1, .int .i64 a1_2, .slice A1_3 l1_3.length c1_3, .slice A1_4 l1_4.length c1_4] 43 (0, 0)) (by (with_reducible repeat (first | refine bN ?_ _ | refine bD ?_ | refine bA ?_ _)); exact BK355.out) hb); have n4_ := Aside0.mk (below_step (by repeat (first | (with_reducible first | exact HB.out | apply wA | apply wN | apply wD | refine wS ?_ GE354.out | refine wS ?_ GE355.out) | exact HB.out)) hb); have n5_ := Aside0.mk (hbox); have n6_ := Aside0.mk ((by rw [hg]; exact (below_size (by repeat (first | (with_reducible first | exact HB.out | apply wA | apply wN | apply wD | refine wS ?_ GE354.out | refine wS ?_ GE355.out) | exact HB.out))) : w.heap.size ≤ gb377)); have n7_ := Aside0.mk ((by rw [hg]; exact (below_size (by repeat (first | (with_reducible first | exact HB.out | apply wA | apply wN | apply wD | refine wS ?_ GE354.out | refine wS ?_ GE355.out) | exact HB.out))) : w.heap.size ≤ gb377)); have n8_ := Aside0.mk ((by rw [hg]; exact Nat.ne_of_lt (blk_lt (g := gb354) (o := .cells #[.int .i64 a0_0, .int .i64 a0_1, .int .i64 a0_2, .slice A0_3 l0_3.length c0_3, .slice A0_4 l0_4.length c0_4] 43 (0, 0)) (by (with_reducible repeat (first | refine bN ?_ _ | refine bD ?_ | refine bA ?_ _)); exact BK354.out)) : gb354 ≠ gb377)); have n9_ := Aside0.mk ((by rw [hg]; exact Nat.ne_of_gt (blk_lt (g := gb354) (o := .cells #[.int .i64 a0_0, .int .i64 a0_1, .int .i64 a0_2, .slice A0_3 l0_3.length c0_3, .slice A0_4 l0_4.length c0_4] 43 (0, 0)) (by (with_reducible repeat (first | refine bN ?_ _ | refine bD ?_ | refine bA ?_ _)); exact BK354.out)) : gb377 ≠ gb354)); have n10_ := Aside0.mk ((by rw [hg]; exact Nat.ne_of_lt (blk_lt (g := gb355) (o := .cells #[.int .i64 a1_0, .int .i64 a1_1, .int .i64 a1_2, .slice A1_3 l1_3.length c1_3, .slice A1_4 l1_4.length c1_4] 43 (0, 0)) (by (with_reducible repeat (first | refine bN ?_ _ | refine bD ?_ | refine bA ?_ _)); exact BK355.out)) : gb355 ≠ gb377)); have n11_ := Aside0.mk ((by rw [hg]; exact Nat.ne_of_gt (blk_lt (g := gb355) (o := .cells #[.int .i64 a1_0, .int .i64 a1_1, .int .i64 a1_2, .slice A1_3 l1_3.length c1_3, .slice A1_4 l1_4.length c1_4] 43 (0, 0)) (by (with_reducible repeat (first | refine bN ?_ _ | refine bD ?_ | refine bA ?_ _)); exact BK355.out)) : gb377 ≠ gb355)); clear HO_10; clear HO_70; clear BK354; clear BK355; clear HB; have HO_10 := n0_; have HO_70 := n1_; have BK354 := n2_; have BK355 := n3_; have HB := n4_; have BK377 := n5_; have GW377 := n6_; have GE377 := n7_; have NB354_377 := n8_; have NB377_354 := n9_; have NB355_377 := n10_; have NB377_355 := n11_; clear n0_ n1_ n2_ n3_ n4_ n5_ n6_ n7_ n8_ n9_ n10_ n11_; clear hb hbox hg; have hnb61 := NB377_354.out; have hnc61 := NB354_377.out; have hnb62 := NB377_355.out; have hnc62 := NB355_377.out; have hcz63_0 : w60.cell? ⟨gb377, 0, none⟩ = some (.int .i64 0) := (bC BK377.out 0).trans rfl; have hcz63_1 : w60.cell? ⟨gb377, 1, none⟩ = some (.int .i64 0) := (bC BK377.out 1).trans rfl; have hfz63_0 := bZ BK377.out 0; have hfz63_1 := bZ BK377.out 1; obtain ⟨Ao64, co64, eo64⟩ := Kd.R_slice HO_10.out; subst eo64))
            go_loopg [78] k3 (fun kq v78 w' => ∃ (x78_4 : Int), v78 = .int .i64 x78_4 ∧ Aside0 (potsherdlaw14_NodeRows.l1 kq (wrap64 (Int.tmod (IntKind.u64.wrap (a2)) 12)) (wrap64 (Int.tmod (IntKind.u64.wrap (a3)) 12)) t364 t361 (t361.length : Int) x72_3 t364 (t364.length : Int) x78_4 ((rd_T48 t361 x72_3).f0) ((rd_T48 t361 x72_3).f1) = some true) ∧ Aside0 (kq ≤ k3) ∧ Aside0 (Kd.R k48 48 w' w.heap.size (fun k_ => some k_ ≠ ((.slice (some ad376) t361.length co56) : Value).ownBlock ∧ k_ ≠ gb377) (.slice Ao64 t364.length co64) t364) ∧ Aside0 (Kd.R k48 48 w' w.heap.size (fun k_ => some k_ ≠ ((.slice Ao64 t364.length co64) : Value).ownBlock ∧ some k_ ≠ ((.slice Ao64 t364.length co64) : Value).ownBlock ∧ k_ ≠ gb377) (.slice (some ad376) t361.length co56) t361) ∧ Aside0 (Kd.R k48 48 w' w.heap.size (fun k_ => some k_ ≠ ((.slice (some ad376) t361.length co56) : Value).ownBlock ∧ k_ ≠ gb377) (.slice Ao64 t364.length co64) t364) ∧ Aside0 (w'.heap[gb354]? = some (.cells #[.int .i64 a0_0, .int .i64 a0_1, .int .i64 a0_2, (.slice A0_3 l0_3.length c0_3), (.slice A0_4 l0_4.length c0_4)] 43 (0, 0))) ∧ Aside0 (w'.heap[gb355]? = some (.cells #[.int .i64 a1_0, .int .i64 a1_1, .int .i64 a1_2, (.slice A1_3 l1_3.length c1_3), (.slice A1_4 l1_4.length c1_4)] 43 (0, 0))) ∧ Aside0 (w'.heap[gb377]? = some (.cells #[.int .i64 ((rd_T48 t361 x72_3).f0), .int .i64 ((rd_T48 t361 x72_3).f1)] 48 (0, 0))) ∧ Aside0 (Below w.heap.size w w'))
            case atStart => exact ⟨(0), (by first | rfl | (simp; done) | (simp [*]; done)), H', ⟨Nat.le_refl _⟩, ⟨by (with_reducible repeat (first | apply Kd.R_alloc | apply Kd.R_drewN | apply Kd.R_drew)); exact Kd.R_mono (Kd.R_far (p := ⟨gb377, 1, none⟩) (Kd.R_far (p := ⟨gb377, 0, none⟩) (Kd.R_mono HO_10.out (fun k_ hk => (⟨hk, hk.2⟩ : _ ∧ k_ ≠ gb377))) (fun _ hk => hk.2) (.int .i64 ((rd_T48 t361 x72_3).f0))) (fun _ hk => hk.2) (.int .i64 ((rd_T48 t361 x72_3).f1))) (fun _ hk => ⟨hk.1.1, hk.1.2⟩)⟩, ⟨by (with_reducible repeat (first | apply Kd.R_alloc | apply Kd.R_drewN | apply Kd.R_drew)); exact Kd.R_mono (Kd.R_far (p := ⟨gb377, 1, none⟩) (Kd.R_far (p := ⟨gb377, 0, none⟩) (Kd.R_mono HO_70.out (fun k_ hk => (⟨hk, hk.2⟩ : _ ∧ k_ ≠ gb377))) (fun _ hk => hk.2) (.int .i64 ((rd_T48 t361 x72_3).f0))) (fun _ hk => hk.2) (.int .i64 ((rd_T48 t361 x72_3).f1))) (fun _ hk => ⟨hk.1.1, ⟨hk.1.1, hk.1.2⟩⟩)⟩, ⟨by (with_reducible repeat (first | apply Kd.R_alloc | apply Kd.R_drewN | apply Kd.R_drew)); exact Kd.R_mono (Kd.R_far (p := ⟨gb377, 1, none⟩) (Kd.R_far (p := ⟨gb377, 0, none⟩) (Kd.R_mono HO_10.out (fun k_ hk => (⟨hk, hk.2⟩ : _ ∧ k_ ≠ gb377))) (fun _ hk => hk.2) (.int .i64 ((rd_T48 t361 x72_3).f0))) (fun _ hk => hk.2) (.int .i64 ((rd_T48 t361 x72_3).f1))) (fun _ hk => ⟨hk.1.1, hk.1.2⟩)⟩, ⟨by (with_reducible repeat (first | refine bN ?_ _ | refine bD ?_ | refine bA ?_ _)); refine bF ?_ NB354_377.out _; (with_reducible repeat (first | refine bN ?_ _ | refine bD ?_ | refine bA ?_ _)); refine bF ?_ NB354_377.out _; (with_reducible repeat (first | refine bN ?_ _ | refine bD ?_ | refine bA ?_ _)); exact BK354.out⟩, ⟨by (with_reducible repeat (first | refine bN ?_ _ | refine bD ?_ | refine bA ?_ _)); refine bF ?_ NB355_377.out _; (with_reducible repeat (first | refine bN ?_ _ | refine bD ?_ | refine bA ?_ _)); refine bF ?_ NB355_377.out _; (with_reducible repeat (first | refine bN ?_ _ | refine bD ?_ | refine bA ?_ _)); exact BK355.out⟩, ⟨by (with_reducible repeat (first | refine bN ?_ _ | refine bD ?_ | refine bA ?_ _)); refine blk_put (cs := #[.int .i64 ((rd_T48 t361 x72_3).f0), .int .i64 0]) ?_ 1 _ rfl; (with_reducible repeat (first | refine bN ?_ _ | refine bD ?_ | refine bA ?_ _)); refine blk_put (cs := #[.int .i64 0, .int .i64 0]) ?_ 0 _ rfl; (with_reducible repeat (first | refine bN ?_ _ | refine bD ?_ | refine bA ?_ _)); exact BK377.out⟩, ⟨by repeat (first | (with_reducible first | exact HB.out | apply wA | apply wN | apply wD | refine wS ?_ GE354.out | refine wS ?_ GE355.out | refine wS ?_ GE377.out) | exact HB.out)⟩⟩
            case round =>
             clear H'
             try clear c1
             try clear c2
             try clear p2
             try clear c3
             try clear p3
             try clear q3
             try clear hx3
             try clear c4
             try clear c5
             try clear c6
             try clear p6
             try clear c10
             try clear c10b0
             try clear c15
             try clear c25
             try clear c26
             try clear c27
             try clear c30
             try clear c35
             try clear c36
             try clear c36b0
             try clear c36b1
             try clear p37
             try clear q37
             try clear hx37
             try clear c38
             try clear c38b0
             try clear c38b1
             try clear c40
             try clear c40b0
             try clear c40b1
             try clear c40b2
             try clear c43
             try clear c55
             try clear c57
             try clear c57b0
             try clear c58
             try clear c58b0
             try clear c59
             try clear c59b0
             try clear c61
             try clear c62
             try clear p64
             try clear hcz44_0
             try clear hcz44_1
             try clear hcz44_2
             try clear hcz44_3
             try clear hcz44_4
             try clear hcz47_0
             try clear hcz47_1
             try clear hcz47_2
             try clear hcz47_3
             try clear hcz47_4
             try clear hcz49_0
             try clear hcz49_1
             try clear hcz49_2
             try clear hcz49_3
             try clear hcz49_4
             try clear hcz52_0
             try clear hcz52_1
             try clear hcz52_2
             try clear hcz52_3
             try clear hcz52_4
             try clear hcz63_0
             try clear hcz63_1
             try clear hfz44_0
             try clear hfz44_1
             try clear hfz44_2
             try clear hfz44_3
             try clear hfz44_4
             try clear hfz47_0
             try clear hfz47_1
             try clear hfz47_2
             try clear hfz47_3
             try clear hfz47_4
             try clear hfz49_0
             try clear hfz49_1
             try clear hfz49_2
             try clear hfz49_3
             try clear hfz49_4
             try clear hfz52_0
             try clear hfz52_1
             try clear hfz52_2
             try clear hfz52_3
             try clear hfz52_4
             try clear hfz63_0
             try clear hfz63_1
             try clear hx376_0
             try clear hx376_1
             try clear p2
             try clear p376
             try clear p6
             try clear q376
             obtain ⟨x78_4, rfl, HA, HK4, HO_10, HO_70, HO_76, BK354, BK355, BK377, HB⟩ := hrel
             cases gk with
             | zero => exact absurd HA.out (by simp [potsherdlaw14_NodeRows.l1])
             | succ k4 =>
              have H := HA.out; clear HA; simp only [potsherdlaw14_NodeRows.l1] at H
              by_cases c65 : x78_4 < (t364.length : Int)
              ·
               rw [if_pos c65] at H; have c65b0 : decide (x78_4 < (t364.length : Int)) = true := decide_eq_true c65; clear c65
               by_cases c66 : 0 ≤ x78_4
               ·
                rw [if_pos c66] at H; have c66b0 : decide (0 ≤ x78_4) = true := decide_eq_true c66; clear c66
                by_cases c67 : x78_4 < (t364.length : Int)
                ·
                 rw [if_pos c67] at H; have c67b0 : decide (x78_4 < (t364.length : Int)) = true := decide_eq_true c67; clear c67
                 by_cases c68 : (wrap64 (Int.tmod (IntKind.u64.wrap (a2)) 12)) = (wrap64 (Int.tmod (IntKind.u64.wrap (a3)) 12))
                 ·
                  rw [if_pos c68] at H; have c68b0 : ((wrap64 (Int.tmod (IntKind.u64.wrap (a2)) 12)) == (wrap64 (Int.tmod (IntKind.u64.wrap (a3)) 12))) = true := beq_iff_eq.mpr c68; have c68b1 : ((wrap64 (Int.tmod (IntKind.u64.wrap (a2)) 12)) != (wrap64 (Int.tmod (IntKind.u64.wrap (a3)) 12))) = false := bne_eq_false_iff_eq.mpr c68; clear c68; have H' := Aside0.mk H; clear H; have p378 : 0 ≤ (x78_4 : Int) := of_decide_eq_true (by first | (with_reducible assumption) | assumption); have q378 : x78_4 < (t364.length : Int) := of_decide_eq_true (by first | (with_reducible assumption) | assumption); obtain ⟨ad378, e378, hx378_0, hx378_1⟩ := at_T48 (Kd.R_reads' HO_76.out).2.2 x78_4 p378 q378
                  cases e378
                  replace p378 := eq_true p378; replace q378 := eq_true q378
                  go_wp2_with (first | ((with_reducible refine gate_dst (N := 14) rfl ?_); (try (refine gate_guard (by rfl) ?_; dsimp only)); refine box_event ?hg (N := 14) ?hd (cs := #[.int .i64 0, .int .i64 0]) (t := 48) ?hr ?_; (case hd => rfl); (case hg => rfl); (case hr => first | (go_simp; done) | (go_simp; rfl)); intro gb379 hg w69 hbox hb; have n0_ := Aside0.mk (Kd.R_below (Kd.R_elderB (by (with_reducible repeat (first | apply Kd.R_alloc | apply Kd.R_drewN | apply Kd.R_drew)); exact HO_10.out) gb379 (Nat.le_of_eq hg.symm)) hb); have n1_ := Aside0.mk (Kd.R_below (Kd.R_elderB (by (with_reducible repeat (first | apply Kd.R_alloc | apply Kd.R_drewN | apply Kd.R_drew)); exact HO_70.out) gb379 (Nat.le_of_eq hg.symm)) hb); have n2_ := Aside0.mk (Kd.R_below (Kd.R_elderB (by (with_reducible repeat (first | apply Kd.R_alloc | apply Kd.R_drewN | apply Kd.R_drew)); exact HO_76.out) gb379 (Nat.le_of_eq hg.symm)) hb); have n3_ := Aside0.mk (bB (g := gb354) (o := .cells #[.int .i64 a0_0, .int .i64 a0_1, .int .i64 a0_2, .slice A0_3 l0_3.length c0_3, .slice A0_4 l0_4.length c0_4] 43 (0, 0)) (by (with_reducible repeat (first | refine bN ?_ _ | refine bD ?_ | refine bA ?_ _)); exact BK354.out) hb); have n4_ := Aside0.mk (bB (g := gb355) (o := .cells #[.int .i64 a1_0, .int .i64 a1_1, .int .i64 a1_2, .slice A1_3 l1_3.length c1_3, .slice A1_4 l1_4.length c1_4] 43 (0, 0)) (by (with_reducible repeat (first | refine bN ?_ _ | refine bD ?_ | refine bA ?_ _)); exact BK355.out) hb); have n5_ := Aside0.mk (bB (g := gb377) (o := .cells #[.int .i64 ((rd_T48 t361 x72_3).f0), .int .i64 ((rd_T48 t361 x72_3).f1)] 48 (0, 0)) (by (with_reducible repeat (first | refine bN ?_ _ | refine bD ?_ | refine bA ?_ _)); exact BK377.out) hb); have n6_ := Aside0.mk (below_step (by repeat (first | (with_reducible first | exact HB.out | apply wA | apply wN | apply wD | refine wS ?_ GE354.out | refine wS ?_ GE355.out | refine wS ?_ GE377.out) | exact HB.out)) hb); have n7_ := Aside0.mk (hbox); have n8_ := Aside0.mk ((by rw [hg]; exact (below_size (by repeat (first | (with_reducible first | exact HB.out | apply wA | apply wN | apply wD | refine wS ?_ GE354.out | refine wS ?_ GE355.out | refine wS ?_ GE377.out) | exact HB.out))) : w.heap.size ≤ gb379)); have n9_ := Aside0.mk ((by rw [hg]; exact (below_size (by repeat (first | (with_reducible first | exact HB.out | apply wA | apply wN | apply wD | refine wS ?_ GE354.out | refine wS ?_ GE355.out | refine wS ?_ GE377.out) | exact HB.out))) : w.heap.size ≤ gb379)); have n10_ := Aside0.mk ((by rw [hg]; exact Nat.ne_of_lt (blk_lt (g := gb354) (o := .cells #[.int .i64 a0_0, .int .i64 a0_1, .int .i64 a0_2, .slice A0_3 l0_3.length c0_3, .slice A0_4 l0_4.length c0_4] 43 (0, 0)) (by (with_reducible repeat (first | refine bN ?_ _ | refine bD ?_ | refine bA ?_ _)); exact BK354.out)) : gb354 ≠ gb379)); have n11_ := Aside0.mk ((by rw [hg]; exact Nat.ne_of_gt (blk_lt (g := gb354) (o := .cells #[.int .i64 a0_0, .int .i64 a0_1, .int .i64 a0_2, .slice A0_3 l0_3.length c0_3, .slice A0_4 l0_4.length c0_4] 43 (0, 0)) (by (with_reducible repeat (first | refine bN ?_ _ | refine bD ?_ | refine bA ?_ _)); exact BK354.out)) : gb379 ≠ gb354)); have n12_ := Aside0.mk ((by rw [hg]; exact Nat.ne_of_lt (blk_lt (g := gb355) (o := .cells #[.int .i64 a1_0, .int .i64 a1_1, .int .i64 a1_2, .slice A1_3 l1_3.length c1_3, .slice A1_4 l1_4.length c1_4] 43 (0, 0)) (by (with_reducible repeat (first | refine bN ?_ _ | refine bD ?_ | refine bA ?_ _)); exact BK355.out)) : gb355 ≠ gb379)); have n13_ := Aside0.mk ((by rw [hg]; exact Nat.ne_of_gt (blk_lt (g := gb355) (o := .cells #[.int .i64 a1_0, .int .i64 a1_1, .int .i64 a1_2, .slice A1_3 l1_3.length c1_3, .slice A1_4 l1_4.length c1_4] 43 (0, 0)) (by (with_reducible repeat (first | refine bN ?_ _ | refine bD ?_ | refine bA ?_ _)); exact BK355.out)) : gb379 ≠ gb355)); have n14_ := Aside0.mk ((by rw [hg]; exact Nat.ne_of_lt (blk_lt (g := gb377) (o := .cells #[.int .i64 ((rd_T48 t361 x72_3).f0), .int .i64 ((rd_T48 t361 x72_3).f1)] 48 (0, 0)) (by (with_reducible repeat (first | refine bN ?_ _ | refine bD ?_ | refine bA ?_ _)); exact BK377.out)) : gb377 ≠ gb379)); have n15_ := Aside0.mk ((by rw [hg]; exact Nat.ne_of_gt (blk_lt (g := gb377) (o := .cells #[.int .i64 ((rd_T48 t361 x72_3).f0), .int .i64 ((rd_T48 t361 x72_3).f1)] 48 (0, 0)) (by (with_reducible repeat (first | refine bN ?_ _ | refine bD ?_ | refine bA ?_ _)); exact BK377.out)) : gb379 ≠ gb377)); clear HO_10; clear HO_70; clear HO_76; clear BK354; clear BK355; clear BK377; clear HB; have HO_10 := n0_; have HO_70 := n1_; have HO_76 := n2_; have BK354 := n3_; have BK355 := n4_; have BK377 := n5_; have HB := n6_; have BK379 := n7_; have GW379 := n8_; have GE379 := n9_; have NB354_379 := n10_; have NB379_354 := n11_; have NB355_379 := n12_; have NB379_355 := n13_; have NB377_379 := n14_; have NB379_377 := n15_; clear n0_ n1_ n2_ n3_ n4_ n5_ n6_ n7_ n8_ n9_ n10_ n11_ n12_ n13_ n14_ n15_; clear hb hbox hg; have hnb70 := NB379_354.out; have hnc70 := NB354_379.out; have hnb71 := NB379_355.out; have hnc71 := NB355_379.out; have hnb72 := NB379_377.out; have hnc72 := NB377_379.out; have hcz73_0 : w69.cell? ⟨gb379, 0, none⟩ = some (.int .i64 0) := (bC BK379.out 0).trans rfl; have hcz73_1 : w69.cell? ⟨gb379, 1, none⟩ = some (.int .i64 0) := (bC BK379.out 1).trans rfl; have hfz73_0 := bZ BK379.out 0; have hfz73_1 := bZ BK379.out 1))
                  go_roundg k4
                  case measure => have := HJ4.out; have := HJ30.out; have := HK3.out; have := HK4.out; omega
                  case rel => exact ⟨(wrap64 (x78_4 + 1)), (by first | rfl | (simp; done) | (simp [*]; done)), H', ⟨by have := HJ4.out; have := HJ30.out; have := HK3.out; have := HK4.out; omega⟩, ⟨by (with_reducible repeat (first | apply Kd.R_alloc | apply Kd.R_drewN | apply Kd.R_drew)); exact Kd.R_mono (Kd.R_far (p := ⟨gb379, 1, none⟩) (Kd.R_far (p := ⟨gb379, 0, none⟩) (Kd.R_mono HO_10.out (fun k_ hk => (⟨hk, hk.2⟩ : _ ∧ k_ ≠ gb379))) (fun _ hk => hk.2) (.int .i64 ((rd_T48 t364 x78_4).f0))) (fun _ hk => hk.2) (.int .i64 ((rd_T48 t364 x78_4).f1))) (fun _ hk => ⟨hk.1.1.1, hk.1.1.2⟩)⟩, ⟨by (with_reducible repeat (first | apply Kd.R_alloc | apply Kd.R_drewN | apply Kd.R_drew)); exact Kd.R_mono (Kd.R_far (p := ⟨gb379, 1, none⟩) (Kd.R_far (p := ⟨gb379, 0, none⟩) (Kd.R_mono HO_70.out (fun k_ hk => (⟨hk, hk.2⟩ : _ ∧ k_ ≠ gb379))) (fun _ hk => hk.2) (.int .i64 ((rd_T48 t364 x78_4).f0))) (fun _ hk => hk.2) (.int .i64 ((rd_T48 t364 x78_4).f1))) (fun _ hk => ⟨hk.1.1.1, ⟨hk.1.1.2.1, hk.1.1.2.2⟩⟩)⟩, ⟨by (with_reducible repeat (first | apply Kd.R_alloc | apply Kd.R_drewN | apply Kd.R_drew)); exact Kd.R_mono (Kd.R_far (p := ⟨gb379, 1, none⟩) (Kd.R_far (p := ⟨gb379, 0, none⟩) (Kd.R_mono HO_76.out (fun k_ hk => (⟨hk, hk.2⟩ : _ ∧ k_ ≠ gb379))) (fun _ hk => hk.2) (.int .i64 ((rd_T48 t364 x78_4).f0))) (fun _ hk => hk.2) (.int .i64 ((rd_T48 t364 x78_4).f1))) (fun _ hk => ⟨hk.1.1.1, hk.1.1.2⟩)⟩, ⟨by (with_reducible repeat (first | refine bN ?_ _ | refine bD ?_ | refine bA ?_ _)); refine bF ?_ NB354_379.out _; (with_reducible repeat (first | refine bN ?_ _ | refine bD ?_ | refine bA ?_ _)); refine bF ?_ NB354_379.out _; (with_reducible repeat (first | refine bN ?_ _ | refine bD ?_ | refine bA ?_ _)); exact BK354.out⟩, ⟨by (with_reducible repeat (first | refine bN ?_ _ | refine bD ?_ | refine bA ?_ _)); refine bF ?_ NB355_379.out _; (with_reducible repeat (first | refine bN ?_ _ | refine bD ?_ | refine bA ?_ _)); refine bF ?_ NB355_379.out _; (with_reducible repeat (first | refine bN ?_ _ | refine bD ?_ | refine bA ?_ _)); exact BK355.out⟩, ⟨by (with_reducible repeat (first | refine bN ?_ _ | refine bD ?_ | refine bA ?_ _)); refine bF ?_ NB377_379.out _; (with_reducible repeat (first | refine bN ?_ _ | refine bD ?_ | refine bA ?_ _)); refine bF ?_ NB377_379.out _; (with_reducible repeat (first | refine bN ?_ _ | refine bD ?_ | refine bA ?_ _)); exact BK377.out⟩, ⟨by repeat (first | (with_reducible first | exact HB.out | apply wA | apply wN | apply wD | refine wS ?_ GE354.out | refine wS ?_ GE355.out | refine wS ?_ GE377.out | refine wS ?_ GE379.out) | exact HB.out)⟩⟩
                 ·
                  rw [if_neg c68] at H; have c68b0 : ((wrap64 (Int.tmod (IntKind.u64.wrap (a2)) 12)) == (wrap64 (Int.tmod (IntKind.u64.wrap (a3)) 12))) = false := beq_eq_false_iff_ne.mpr c68; have c68b1 : ((wrap64 (Int.tmod (IntKind.u64.wrap (a2)) 12)) != (wrap64 (Int.tmod (IntKind.u64.wrap (a3)) 12))) = true := bne_iff_ne.mpr c68
                  by_cases c74 : ((rd_T48 t361 x72_3).f0) = ((rd_T48 t364 x78_4).f0)
                  ·
                   rw [if_pos c74] at H; have c74b0 : (((rd_T48 t361 x72_3).f0) == ((rd_T48 t364 x78_4).f0)) = true := beq_iff_eq.mpr c74; have c74b1 : (((rd_T48 t361 x72_3).f0) != ((rd_T48 t364 x78_4).f0)) = false := bne_eq_false_iff_eq.mpr c74; clear c74; exact absurd H (by simp)
                  ·
                   rw [if_neg c74] at H; have c74b0 : (((rd_T48 t361 x72_3).f0) == ((rd_T48 t364 x78_4).f0)) = false := beq_eq_false_iff_ne.mpr c74; have c74b1 : (((rd_T48 t361 x72_3).f0) != ((rd_T48 t364 x78_4).f0)) = true := bne_iff_ne.mpr c74; have H' := Aside0.mk H; clear H; have p378 : 0 ≤ (x78_4 : Int) := of_decide_eq_true (by first | (with_reducible assumption) | assumption); have q378 : x78_4 < (t364.length : Int) := of_decide_eq_true (by first | (with_reducible assumption) | assumption); obtain ⟨ad378, e378, hx378_0, hx378_1⟩ := at_T48 (Kd.R_reads' HO_76.out).2.2 x78_4 p378 q378
                   cases e378
                   replace p378 := eq_true p378; replace q378 := eq_true q378
                   go_wp2_with (first | ((with_reducible refine gate_dst (N := 14) rfl ?_); (try (refine gate_guard (by rfl) ?_; dsimp only)); refine box_event ?hg (N := 14) ?hd (cs := #[.int .i64 0, .int .i64 0]) (t := 48) ?hr ?_; (case hd => rfl); (case hg => rfl); (case hr => first | (go_simp; done) | (go_simp; rfl)); intro gb379 hg w75 hbox hb; have n0_ := Aside0.mk (Kd.R_below (Kd.R_elderB (by (with_reducible repeat (first | apply Kd.R_alloc | apply Kd.R_drewN | apply Kd.R_drew)); exact HO_10.out) gb379 (Nat.le_of_eq hg.symm)) hb); have n1_ := Aside0.mk (Kd.R_below (Kd.R_elderB (by (with_reducible repeat (first | apply Kd.R_alloc | apply Kd.R_drewN | apply Kd.R_drew)); exact HO_70.out) gb379 (Nat.le_of_eq hg.symm)) hb); have n2_ := Aside0.mk (Kd.R_below (Kd.R_elderB (by (with_reducible repeat (first | apply Kd.R_alloc | apply Kd.R_drewN | apply Kd.R_drew)); exact HO_76.out) gb379 (Nat.le_of_eq hg.symm)) hb); have n3_ := Aside0.mk (bB (g := gb354) (o := .cells #[.int .i64 a0_0, .int .i64 a0_1, .int .i64 a0_2, .slice A0_3 l0_3.length c0_3, .slice A0_4 l0_4.length c0_4] 43 (0, 0)) (by (with_reducible repeat (first | refine bN ?_ _ | refine bD ?_ | refine bA ?_ _)); exact BK354.out) hb); have n4_ := Aside0.mk (bB (g := gb355) (o := .cells #[.int .i64 a1_0, .int .i64 a1_1, .int .i64 a1_2, .slice A1_3 l1_3.length c1_3, .slice A1_4 l1_4.length c1_4] 43 (0, 0)) (by (with_reducible repeat (first | refine bN ?_ _ | refine bD ?_ | refine bA ?_ _)); exact BK355.out) hb); have n5_ := Aside0.mk (bB (g := gb377) (o := .cells #[.int .i64 ((rd_T48 t361 x72_3).f0), .int .i64 ((rd_T48 t361 x72_3).f1)] 48 (0, 0)) (by (with_reducible repeat (first | refine bN ?_ _ | refine bD ?_ | refine bA ?_ _)); exact BK377.out) hb); have n6_ := Aside0.mk (below_step (by repeat (first | (with_reducible first | exact HB.out | apply wA | apply wN | apply wD | refine wS ?_ GE354.out | refine wS ?_ GE355.out | refine wS ?_ GE377.out) | exact HB.out)) hb); have n7_ := Aside0.mk (hbox); have n8_ := Aside0.mk ((by rw [hg]; exact (below_size (by repeat (first | (with_reducible first | exact HB.out | apply wA | apply wN | apply wD | refine wS ?_ GE354.out | refine wS ?_ GE355.out | refine wS ?_ GE377.out) | exact HB.out))) : w.heap.size ≤ gb379)); have n9_ := Aside0.mk ((by rw [hg]; exact (below_size (by repeat (first | (with_reducible first | exact HB.out | apply wA | apply wN | apply wD | refine wS ?_ GE354.out | refine wS ?_ GE355.out | refine wS ?_ GE377.out) | exact HB.out))) : w.heap.size ≤ gb379)); have n10_ := Aside0.mk ((by rw [hg]; exact Nat.ne_of_lt (blk_lt (g := gb354) (o := .cells #[.int .i64 a0_0, .int .i64 a0_1, .int .i64 a0_2, .slice A0_3 l0_3.length c0_3, .slice A0_4 l0_4.length c0_4] 43 (0, 0)) (by (with_reducible repeat (first | refine bN ?_ _ | refine bD ?_ | refine bA ?_ _)); exact BK354.out)) : gb354 ≠ gb379)); have n11_ := Aside0.mk ((by rw [hg]; exact Nat.ne_of_gt (blk_lt (g := gb354) (o := .cells #[.int .i64 a0_0, .int .i64 a0_1, .int .i64 a0_2, .slice A0_3 l0_3.length c0_3, .slice A0_4 l0_4.length c0_4] 43 (0, 0)) (by (with_reducible repeat (first | refine bN ?_ _ | refine bD ?_ | refine bA ?_ _)); exact BK354.out)) : gb379 ≠ gb354)); have n12_ := Aside0.mk ((by rw [hg]; exact Nat.ne_of_lt (blk_lt (g := gb355) (o := .cells #[.int .i64 a1_0, .int .i64 a1_1, .int .i64 a1_2, .slice A1_3 l1_3.length c1_3, .slice A1_4 l1_4.length c1_4] 43 (0, 0)) (by (with_reducible repeat (first | refine bN ?_ _ | refine bD ?_ | refine bA ?_ _)); exact BK355.out)) : gb355 ≠ gb379)); have n13_ := Aside0.mk ((by rw [hg]; exact Nat.ne_of_gt (blk_lt (g := gb355) (o := .cells #[.int .i64 a1_0, .int .i64 a1_1, .int .i64 a1_2, .slice A1_3 l1_3.length c1_3, .slice A1_4 l1_4.length c1_4] 43 (0, 0)) (by (with_reducible repeat (first | refine bN ?_ _ | refine bD ?_ | refine bA ?_ _)); exact BK355.out)) : gb379 ≠ gb355)); have n14_ := Aside0.mk ((by rw [hg]; exact Nat.ne_of_lt (blk_lt (g := gb377) (o := .cells #[.int .i64 ((rd_T48 t361 x72_3).f0), .int .i64 ((rd_T48 t361 x72_3).f1)] 48 (0, 0)) (by (with_reducible repeat (first | refine bN ?_ _ | refine bD ?_ | refine bA ?_ _)); exact BK377.out)) : gb377 ≠ gb379)); have n15_ := Aside0.mk ((by rw [hg]; exact Nat.ne_of_gt (blk_lt (g := gb377) (o := .cells #[.int .i64 ((rd_T48 t361 x72_3).f0), .int .i64 ((rd_T48 t361 x72_3).f1)] 48 (0, 0)) (by (with_reducible repeat (first | refine bN ?_ _ | refine bD ?_ | refine bA ?_ _)); exact BK377.out)) : gb379 ≠ gb377)); clear HO_10; clear HO_70; clear HO_76; clear BK354; clear BK355; clear BK377; clear HB; have HO_10 := n0_; have HO_70 := n1_; have HO_76 := n2_; have BK354 := n3_; have BK355 := n4_; have BK377 := n5_; have HB := n6_; have BK379 := n7_; have GW379 := n8_; have GE379 := n9_; have NB354_379 := n10_; have NB379_354 := n11_; have NB355_379 := n12_; have NB379_355 := n13_; have NB377_379 := n14_; have NB379_377 := n15_; clear n0_ n1_ n2_ n3_ n4_ n5_ n6_ n7_ n8_ n9_ n10_ n11_ n12_ n13_ n14_ n15_; clear hb hbox hg; have hnb76 := NB379_354.out; have hnc76 := NB354_379.out; have hnb77 := NB379_355.out; have hnc77 := NB355_379.out; have hnb78 := NB379_377.out; have hnc78 := NB377_379.out; have hcz79_0 : w75.cell? ⟨gb379, 0, none⟩ = some (.int .i64 0) := (bC BK379.out 0).trans rfl; have hcz79_1 : w75.cell? ⟨gb379, 1, none⟩ = some (.int .i64 0) := (bC BK379.out 1).trans rfl; have hfz79_0 := bZ BK379.out 0; have hfz79_1 := bZ BK379.out 1; have hnb80 := NB377_354.out; have hnc80 := NB354_377.out; have hnb81 := NB377_355.out; have hnc81 := NB355_377.out; have hcz82_0 : w75.cell? ⟨gb377, 0, none⟩ = some (.int .i64 ((rd_T48 t361 x72_3).f0)) := (bC BK377.out 0).trans rfl; have hcz82_1 : w75.cell? ⟨gb377, 1, none⟩ = some (.int .i64 ((rd_T48 t361 x72_3).f1)) := (bC BK377.out 1).trans rfl; have hfz82_0 := bZ BK377.out 0; have hfz82_1 := bZ BK377.out 1))
                   go_roundg k4
                   case measure => have := HJ4.out; have := HJ30.out; have := HK3.out; have := HK4.out; omega
                   case rel => exact ⟨(wrap64 (x78_4 + 1)), (by first | rfl | (simp; done) | (simp [*]; done)), H', ⟨by have := HJ4.out; have := HJ30.out; have := HK3.out; have := HK4.out; omega⟩, ⟨by (with_reducible repeat (first | apply Kd.R_alloc | apply Kd.R_drewN | apply Kd.R_drew)); exact Kd.R_mono (Kd.R_far (p := ⟨gb379, 1, none⟩) (Kd.R_far (p := ⟨gb379, 0, none⟩) (Kd.R_mono HO_10.out (fun k_ hk => (⟨hk, hk.2⟩ : _ ∧ k_ ≠ gb379))) (fun _ hk => hk.2) (.int .i64 ((rd_T48 t364 x78_4).f0))) (fun _ hk => hk.2) (.int .i64 ((rd_T48 t364 x78_4).f1))) (fun _ hk => ⟨hk.1.1.1, hk.1.1.2⟩)⟩, ⟨by (with_reducible repeat (first | apply Kd.R_alloc | apply Kd.R_drewN | apply Kd.R_drew)); exact Kd.R_mono (Kd.R_far (p := ⟨gb379, 1, none⟩) (Kd.R_far (p := ⟨gb379, 0, none⟩) (Kd.R_mono HO_70.out (fun k_ hk => (⟨hk, hk.2⟩ : _ ∧ k_ ≠ gb379))) (fun _ hk => hk.2) (.int .i64 ((rd_T48 t364 x78_4).f0))) (fun _ hk => hk.2) (.int .i64 ((rd_T48 t364 x78_4).f1))) (fun _ hk => ⟨hk.1.1.1, ⟨hk.1.1.2.1, hk.1.1.2.2⟩⟩)⟩, ⟨by (with_reducible repeat (first | apply Kd.R_alloc | apply Kd.R_drewN | apply Kd.R_drew)); exact Kd.R_mono (Kd.R_far (p := ⟨gb379, 1, none⟩) (Kd.R_far (p := ⟨gb379, 0, none⟩) (Kd.R_mono HO_76.out (fun k_ hk => (⟨hk, hk.2⟩ : _ ∧ k_ ≠ gb379))) (fun _ hk => hk.2) (.int .i64 ((rd_T48 t364 x78_4).f0))) (fun _ hk => hk.2) (.int .i64 ((rd_T48 t364 x78_4).f1))) (fun _ hk => ⟨hk.1.1.1, hk.1.1.2⟩)⟩, ⟨by (with_reducible repeat (first | refine bN ?_ _ | refine bD ?_ | refine bA ?_ _)); refine bF ?_ NB354_379.out _; (with_reducible repeat (first | refine bN ?_ _ | refine bD ?_ | refine bA ?_ _)); refine bF ?_ NB354_379.out _; (with_reducible repeat (first | refine bN ?_ _ | refine bD ?_ | refine bA ?_ _)); exact BK354.out⟩, ⟨by (with_reducible repeat (first | refine bN ?_ _ | refine bD ?_ | refine bA ?_ _)); refine bF ?_ NB355_379.out _; (with_reducible repeat (first | refine bN ?_ _ | refine bD ?_ | refine bA ?_ _)); refine bF ?_ NB355_379.out _; (with_reducible repeat (first | refine bN ?_ _ | refine bD ?_ | refine bA ?_ _)); exact BK355.out⟩, ⟨by (with_reducible repeat (first | refine bN ?_ _ | refine bD ?_ | refine bA ?_ _)); refine bF ?_ NB377_379.out _; (with_reducible repeat (first | refine bN ?_ _ | refine bD ?_ | refine bA ?_ _)); refine bF ?_ NB377_379.out _; (with_reducible repeat (first | refine bN ?_ _ | refine bD ?_ | refine bA ?_ _)); exact BK377.out⟩, ⟨by repeat (first | (with_reducible first | exact HB.out | apply wA | apply wN | apply wD | refine wS ?_ GE354.out | refine wS ?_ GE355.out | refine wS ?_ GE377.out | refine wS ?_ GE379.out) | exact HB.out)⟩⟩
                ·
                 rw [if_neg c67] at H; exact absurd H (by simp)
               ·
                rw [if_neg c66] at H; exact absurd H (by simp)
              ·
               rw [if_neg c65] at H; have c65b0 : decide (x78_4 < (t364.length : Int)) = false := decide_eq_false c65; clear c65; have H' := Aside0.mk H; clear H
               go_wp2
               go_roundg k4
               case measure => have := HJ4.out; have := HJ30.out; have := HK3.out; have := HK4.out; omega
               case rel => exact ⟨(wrap64 (x72_3 + 1)), (by first | rfl | (simp; done) | (simp [*]; done)), H', ⟨by have := HJ4.out; have := HJ30.out; have := HK3.out; have := HK4.out; omega⟩, ⟨by (with_reducible repeat (first | apply Kd.R_alloc | apply Kd.R_drewN | apply Kd.R_drew)); exact Kd.R_mono HO_10.out (fun _ hk => hk.1)⟩, ⟨by (with_reducible repeat (first | apply Kd.R_alloc | apply Kd.R_drewN | apply Kd.R_drew)); exact Kd.R_mono HO_70.out (fun _ hk => hk.1)⟩, ⟨by (with_reducible repeat (first | refine bN ?_ _ | refine bD ?_ | refine bA ?_ _)); exact BK354.out⟩, ⟨by (with_reducible repeat (first | refine bN ?_ _ | refine bD ?_ | refine bA ?_ _)); exact BK355.out⟩, ⟨by repeat (first | (with_reducible first | exact HB.out | apply wA | apply wN | apply wD | refine wS ?_ GE354.out | refine wS ?_ GE355.out | refine wS ?_ GE377.out) | exact HB.out)⟩⟩
           ·
            rw [if_neg c59] at H; exact absurd H (by simp)
          ·
           rw [if_neg c58] at H; exact absurd H (by simp)
         ·
          rw [if_neg c57] at H; have c57b0 : decide (x72_3 < (t361.length : Int)) = false := decide_eq_false c57; clear c57; replace H := Option.bind_eq_some_iff.mp H; obtain ⟨t375, A830, H⟩ := H; replace H : (some t375) = some true := H; have A83 := Aside0.mk A830; clear A830; have HRET := Aside0.mk (Option.some.inj H); clear H
          go_wp2_with (first | ((with_reducible refine gate_callee (f := 26) rfl ?_); refine goesL_ (some 94) rfl rfl Try.func26 (by kernel_rfl) rfl #[] rfl (by (try simp only [List.map_toArray, List.map_cons, List.map_nil]); first | done | rfl | (simp only [List.length_drop, List.length_take]; rfl)) ?_; (with_reducible refine (potsherdlaw14_awake.calls k3  t375 _ A83.out).mono ?_); rintro e w84 ⟨rfl, hb⟩; refine ⟨_, rfl, ?_⟩; have n0_ := Aside0.mk (Kd.R_below (by (with_reducible repeat (first | apply Kd.R_alloc | apply Kd.R_drewN | apply Kd.R_drew)); exact HO_10.out) hb); have n1_ := Aside0.mk (Kd.R_below (by (with_reducible repeat (first | apply Kd.R_alloc | apply Kd.R_drewN | apply Kd.R_drew)); exact HO_70.out) hb); have n2_ := Aside0.mk (bB (g := gb354) (o := .cells #[.int .i64 a0_0, .int .i64 a0_1, .int .i64 a0_2, .slice A0_3 l0_3.length c0_3, .slice A0_4 l0_4.length c0_4] 43 (0, 0)) (by (with_reducible repeat (first | refine bN ?_ _ | refine bD ?_ | refine bA ?_ _)); exact BK354.out) hb); have n3_ := Aside0.mk (bB (g := gb355) (o := .cells #[.int .i64 a1_0, .int .i64 a1_1, .int .i64 a1_2, .slice A1_3 l1_3.length c1_3, .slice A1_4 l1_4.length c1_4] 43 (0, 0)) (by (with_reducible repeat (first | refine bN ?_ _ | refine bD ?_ | refine bA ?_ _)); exact BK355.out) hb); have n4_ := Aside0.mk (below_step (by repeat (first | (with_reducible first | exact HB.out | apply wA | apply wN | apply wD | refine wS ?_ GE354.out | refine wS ?_ GE355.out) | exact HB.out)) hb); clear HO_10; clear HO_70; clear BK354; clear BK355; clear HB; have HO_10 := n0_; have HO_70 := n1_; have BK354 := n2_; have BK355 := n3_; have HB := n4_; clear n0_ n1_ n2_ n3_ n4_; (try clear hb); (try clear hb2); (try clear hk); (try clear hi)))
          go_ret
          exact ⟨by first | rfl | exact congrArg (fun b_ => Ending.returned (Value.bool b_)) HRET.out | (rw [HRET.out]) | (simp [errW_none, errW_some] <;> rfl) | (simp [*, errW_none, errW_some] <;> rfl), by repeat (first | (with_reducible first | exact HB.out | apply wA | apply wN | apply wD | refine wS ?_ GE354.out | refine wS ?_ GE355.out) | exact HB.out)⟩

end Go.Proofs.Ytbaiicnibiogpaa.PNode
