/- The Go functions that these laws reach, each as a Lean function with the same answers (a law itself where it answers true), and the proof that the code comes to them; conditions: those of each theorem. Laid by a program of this session over the print. -/
import Derived.Test.YtkigiehkckjlhaaZMakesPMakesx0
import Derived.Test.YtkigiehkckjlhaaZMakesPMakesx3
import Derived.Test.YtkigiehkckjlhaaZMakesPMakesx4
import Derived.Test.YtkigiehkckjlhaaZMakesPMakesx13
import Derived.Test.YtkigiehkckjlhaaZMakesPMakesx14
namespace Go.Proofs.Ytkigiehkckjlhaa.PMakes
open Go.RowKit Go.Proofs.YtkigiehkckjlhaaW.PrintWords Go.Proofs.YtkigiehkckjlhaaW.PrintLast Go.Proofs.YtkigiehkckjlhaaW.PrintMore
attribute [local go_sem] max2_int min2_int max_two min_two max_three min_three max_four min_four   -- for this text's walks alone
set_option linter.unusedVariables false
set_option linter.unusedSimpArgs false
open Go.Proofs.YtkigiehkckjlhaaW.PrintWords renaming blk_drewN → bN, blk_drew → bD, blk_alloc → bA, below_set → wS, below_alloc → wA, pw_below_drewN → wN, below_drew1 → wD, blk_below → bB, blk_far → bF, blk_cell → bC, blk_frozen → bZ
open List renaming setIfInBounds_toArray → lT, set_cons_zero → l0_, set_cons_succ → lS
abbrev B15_0 : Array Bool := #[false, false, false, false, false, false, false, false, false, false, false, false, false, false, false]
abbrev B15_1 : Array Bool := #[false, false, true, false, false, false, false, false, false, false, false, false, false, false, false]
abbrev B15_2 : Array Bool := #[false, false, true, false, true, false, false, false, false, false, false, false, false, false, false]
abbrev B15_3 : Array Bool := #[false, false, true, false, true, false, false, true, false, false, false, false, false, false, false]
abbrev B15_4 : Array Bool := #[false, false, true, false, true, false, false, true, true, false, false, false, false, false, false]
abbrev B15_5 : Array Bool := #[false, false, true, false, true, false, false, true, true, true, false, false, false, false, false]
abbrev B15_6 : Array Bool := #[false, false, true, false, true, false, false, true, true, true, false, false, true, false, false]
abbrev B15_7 : Array Bool := #[true, false, true, false, true, false, false, true, true, true, false, false, true, false, false]
abbrev B15_8 : Array Bool := #[true, false, true, true, true, false, false, true, true, true, false, false, true, false, false]
abbrev B15_9 : Array Bool := #[true, false, true, true, true, true, false, true, true, true, false, false, true, false, false]
abbrev B15_10 : Array Bool := #[true, false, true, true, true, true, true, true, true, true, false, false, true, false, false]
abbrev B15_11 : Array Bool := #[true, true, true, true, true, true, true, true, true, true, false, false, true, false, false]
abbrev B15_12 : Array Bool := #[true, true, true, true, true, true, true, true, true, true, true, false, true, false, false]
abbrev B15_13 : Array Bool := #[true, true, true, true, true, true, true, true, true, true, true, true, true, false, false]
abbrev B15_14 : Array Bool := #[true, true, true, true, true, true, true, true, true, true, true, true, true, true, false]
abbrev B15_15 : Array Bool := #[true, true, true, true, true, true, true, true, true, true, true, true, true, true, true]
abbrev B15_16 : Array Bool := #[false, false, false, false, false, false, false, false, false, false, false, false, false, false, false, false, false, false, false, false, false, false, false]
abbrev B15_17 : Array Bool := #[true, false, false, false, false, false, false, false, false, false, false, false, false, false, false, false, false, false, false, false, false, false, false]
abbrev B15_18 : Array Bool := #[true, true, false, false, false, false, false, false, false, false, false, false, false, false, false, false, false, false, false, false, false, false, false]
abbrev B15_19 : Array Bool := #[true, true, true, false, false, false, false, false, false, false, false, false, false, false, false, false, false, false, false, false, false, false, false]
abbrev B15_20 : Array Bool := #[true, true, true, false, true, false, false, false, false, false, false, false, false, false, false, false, false, false, false, false, false, false, false]
abbrev B15_21 : Array Bool := #[true, true, true, false, true, true, false, false, false, false, false, false, false, false, false, false, false, false, false, false, false, false, false]
abbrev B15_22 : Array Bool := #[true, true, true, false, true, true, true, false, false, false, false, false, false, false, false, false, false, false, false, false, false, false, false]
abbrev B15_23 : Array Bool := #[true, true, true, false, true, true, true, false, true, false, false, false, false, false, false, false, false, false, false, false, false, false, false]
abbrev B15_24 : Array Bool := #[true, true, true, false, true, true, true, false, true, false, false, false, true, false, false, false, false, false, false, false, false, false, false]
abbrev B15_25 : Array Bool := #[true, true, true, false, true, true, true, false, true, false, false, false, true, false, true, false, false, false, false, false, false, false, false]
abbrev B15_26 : Array Bool := #[true, true, true, false, true, true, true, false, true, false, false, false, true, false, true, true, false, false, false, false, false, false, false]
abbrev B15_27 : Array Bool := #[true, true, true, true, true, true, true, false, true, false, false, false, true, false, true, true, false, false, false, false, false, false, false]
abbrev B15_28 : Array Bool := #[true, true, true, true, true, true, true, true, true, false, false, false, true, false, true, true, false, false, false, false, false, false, false]
abbrev B15_29 : Array Bool := #[true, true, true, true, true, true, true, true, true, true, false, false, true, false, true, true, false, false, false, false, false, false, false]
abbrev B15_30 : Array Bool := #[true, true, true, true, true, true, true, true, true, true, true, false, true, false, true, true, false, false, false, false, false, false, false]
abbrev B15_31 : Array Bool := #[true, true, true, true, true, true, true, true, true, true, true, true, true, false, true, true, false, false, false, false, false, false, false]
abbrev B15_32 : Array Bool := #[true, true, true, true, true, true, true, true, true, true, true, true, true, true, true, true, false, false, false, false, false, false, false]
abbrev B15_33 : Array Bool := #[true, true, true, true, true, true, true, true, true, true, true, true, true, true, true, true, true, false, false, false, false, false, false]
abbrev B15_34 : Array Bool := #[true, true, true, true, true, true, true, true, true, true, true, true, true, true, true, true, true, true, false, false, false, false, false]
abbrev B15_35 : Array Bool := #[true, true, true, true, true, true, true, true, true, true, true, true, true, true, true, true, true, true, true, false, false, false, false]
abbrev B15_36 : Array Bool := #[true, true, true, true, true, true, true, true, true, true, true, true, true, true, true, true, true, true, true, true, false, false, false]
abbrev B15_37 : Array Bool := #[true, true, true, true, true, true, true, true, true, true, true, true, true, true, true, true, true, true, true, true, true, false, false]
abbrev B15_38 : Array Bool := #[true, true, true, true, true, true, true, true, true, true, true, true, true, true, true, true, true, true, true, true, true, true, false]
abbrev B15_39 : Array Bool := #[true, true, true, true, true, true, true, true, true, true, true, true, true, true, true, true, true, true, true, true, true, true, true]
def file_Write.l0 : Nat → Int → List Int → List (S60) → List (S41) → Int → Int → List (S28) → Option ((List (S28)) × (List (S60)) × Int)
 | 0, _, _, _, _, _, _, _ => none
 | k + 1, x2, x4, x15, x78, x79, x80, x256000 => if x80 < x79 then (if 0 ≤ x80 then (if x80 < (x78.length : Int) then (if 0 ≤ x2 then (if x2 < (x256000.length : Int) then (if 0 ≤ ((rd_T41 x78 x80).f0) then (if ((rd_T41 x78 x80).f0) < (((rd_T28 x256000 x2).f3).length : Int) then (if 0 ≤ ((rd_T41 x78 x80).f2) then (if ((rd_T41 x78 x80).f2) ≤ (x4.length : Int) then ((slices_Clone_byte_byte.f (x4.take (((rd_T41 x78 x80).f2) : Int).toNat)).bind fun t271 => (if x15.length < 2199023255552 then (file_Write.l0 k x2 (x4.drop (((rd_T41 x78 x80).f2) : Int).toNat) (x15 ++ [(⟨x2, (rd_T41 x78 x80).f0, rd ((rd_T28 x256000 x2).f3) ((rd_T41 x78 x80).f0), 16, (rd_T41 x78 x80).f1, t271⟩ : S60)]) x78 x79 (wrap64 (x80 + 1)) x256000) else (none))) else (none)) else (none)) else (none)) else (none)) else (none)) else (none)) else (none)) else (none)) else (some (x256000, x15, 0))
def file_Write.f (k : Nat) (l0_0 : List (S28)) (a1 : Int) (a2 : Int) (a3 : Int) (l4 : List Int) : Option ((List (S28)) × (List (S60)) × Int) := (file_is.f k l0_0 a2).bind fun t244 => (if t244 = true then (if a3 < 0 then (none) else (if (l4.length : Int) = 0 then (none) else ((span_Fits.f a3 (l4.length : Int)).bind fun t248 => (if t248 = true then ((quota_Used.f k l0_0).bind fun t249 => (if 0 ≤ a2 then (if a2 < (l0_0.length : Int) then ((quota_More.f k ((rd_T28 l0_0 a2).f0) ((rd_T28 l0_0 a2).f1) ((rd_T28 l0_0 a2).f2) ((rd_T28 l0_0 a2).f3) ((rd_T28 l0_0 a2).f4) a3 (l4.length : Int)).bind fun t251 => (if (wrap64 (t249 + t251)) > a1 then (none) else ((dir_Copy.f k l0_0).bind fun t252 => (if a2 < (t252.length : Int) then ((span_Pieces.f k a3 (l4.length : Int)).bind fun t259 => (file_Write.l0 k a2 l4 ([] : List (S60)) t259 (t259.length : Int) 0 (t252.set (a2 : Int).toNat (⟨(rd_T28 t252 a2).f0, (rd_T28 t252 a2).f1, mx ((rd_T28 t252 a2).f2) (wrap64 (a3 + (l4.length : Int))), (rd_T28 t252 a2).f3, (rd_T28 t252 a2).f4⟩ : S28)))) else (none))))) else (none)) else (none))) else (none))))) else (none))
theorem file_Write.mono_l : ∀ k, (∀ y0 y1 y2 y3 y4 y5 y6, LeO (file_Write.l0 k y0 y1 y2 y3 y4 y5 y6) (file_Write.l0 (k + 1) y0 y1 y2 y3 y4 y5 y6))
 | 0 => fun _ _ _ _ _ _ _ r h => by simp [file_Write.l0] at h
 | k + 1 => by
  have ih0 := file_Write.mono_l k
  ·
   intro y0 y1 y2 y3 y4 y5 y6
   unfold file_Write.l0
   repeat' first
   | (with_reducible exact ih0 _ _ _ _ _ _ _)
   | (with_reducible exact dir_Copy.mono _ _)
   | (with_reducible exact file_is.mono _ _ _)
   | (with_reducible exact quota_More.mono _ _ _ _ _ _ _ _)
   | (with_reducible exact quota_Used.mono _ _)
   | (with_reducible exact span_Pieces.mono _ _ _)
   | (with_reducible exact LeO.refl _)
   | (with_reducible exact LeO.none _)
   | (with_reducible refine LeO.ite ?_ ?_)
   | (with_reducible refine LeO.bind ?_ (fun _ => ?_))
   | exact ih0 _ _ _ _ _ _ _
   | exact dir_Copy.mono _ _
   | exact file_is.mono _ _ _
   | exact quota_More.mono _ _ _ _ _ _ _ _
   | exact quota_Used.mono _ _
   | exact span_Pieces.mono _ _ _
   | exact LeO.none _
   | refine LeO.ite ?_ ?_
   | refine LeO.bind ?_ (fun _ => ?_)
theorem file_Write.mono : ∀ a0 a1 a2 a3 a4 k, LeO (file_Write.f k a0 a1 a2 a3 a4) (file_Write.f (k + 1) a0 a1 a2 a3 a4) := by
 intro a0 a1 a2 a3 a4 k; have ih0 := file_Write.mono_l k
 unfold file_Write.f
 repeat' first
  | (with_reducible exact ih0 _ _ _ _ _ _ _)
  | (with_reducible exact dir_Copy.mono _ _)
  | (with_reducible exact file_is.mono _ _ _)
  | (with_reducible exact quota_More.mono _ _ _ _ _ _ _ _)
  | (with_reducible exact quota_Used.mono _ _)
  | (with_reducible exact span_Pieces.mono _ _ _)
  | (with_reducible exact LeO.refl _)
  | (with_reducible exact LeO.none _)
  | (with_reducible refine LeO.ite ?_ ?_)
  | (with_reducible refine LeO.bind ?_ (fun _ => ?_))
  | exact ih0 _ _ _ _ _ _ _
  | exact dir_Copy.mono _ _
  | exact file_is.mono _ _ _
  | exact quota_More.mono _ _ _ _ _ _ _ _
  | exact quota_Used.mono _ _
  | exact span_Pieces.mono _ _ _
  | exact LeO.none _
  | refine LeO.ite ?_ ?_
  | refine LeO.bind ?_ (fun _ => ?_)
def file_Write.T7 : Bool × List (List Nat × List Nat) := (true, [([], []), ([0], [0]), ([], []), ([2], [2]), ([], []), ([3, 4], [3, 4]), ([5], [5]), ([], []), ([], []), ([8], [8]), ([6, 7, 9, 1], [6, 7, 9]), ([1, 10], [1, 10]), ([], []), ([11, 12], [11, 12]), ([13, 10], [13])])
def file_Write.B7 : List Nat := [0, 1, 0, 4, 0, 28, 60, 0, 0, 256, 1023, 2047, 0, 8191, 16383]
theorem file_Write.tab7 : rtab .any (opsOf Try.f34 7) = file_Write.T7 := by kernel_rfl
theorem file_Write.bits7 : waitsOk file_Write.T7.2 file_Write.B7 = true := by kernel_rfl
def file_Write.T16 : Bool × List (List Nat × List Nat) := (true, [([], []), ([], []), ([], []), ([2], [2]), ([], []), ([4], [4]), ([5], [5]), ([6], [6]), ([], []), ([8], [8]), ([7, 9], [7, 9]), ([10], [10]), ([], []), ([12], [12]), ([], []), ([], []), ([15], [15]), ([14, 16], [14, 16]), ([17], [17]), ([1, 3, 11, 13, 18], [1, 3, 11, 13, 18]), ([19], [19]), ([0, 20, 18], [0, 20]), ([21, 21, 0, 1, 2, 3, 4, 5, 6, 7, 8, 9, 10, 11, 12, 13, 14, 15, 16, 17, 18, 19, 20, 21], [0, 21])])
def file_Write.B16 : List Nat := [0, 0, 0, 4, 0, 16, 48, 112, 0, 256, 1008, 2032, 0, 4096, 0, 0, 32768, 114688, 245760, 524286, 1048574, 2097151, 4194303]
theorem file_Write.tab16 : rtab .any (opsOf Try.f34 16) = file_Write.T16 := by kernel_rfl
theorem file_Write.bits16 : waitsOk file_Write.T16.2 file_Write.B16 = true := by kernel_rfl
set_option maxHeartbeats 8000000 in
set_option maxRecDepth 100000 in
theorem file_Write.calls (k : Nat) (A0_0 : Option Addr) (c0_0 : Nat) (l0_0 : List (S28)) (a1 : Int) (a2 : Int) (a3 : Int) (P4_ : Nat → Prop) (A4 : Option Addr) (c4 : Nat) (l4 : List Int) (r1 : List (S28)) (r2 : List (S60)) (r3 : Int) (w : World) (hr0_0 : Kd.C k28 w A0_0 l0_0.length l0_0) (hc0_0 : l0_0.length ≤ c0_0) (hs4 : Kd.V (Kd.int .u8) 5 w w.heap.size (fun k_ => P4_ k_) (.slice A4 l4.length c4) l4) (h : file_Write.f k l0_0 a1 a2 a3 l4 = some (r1, r2, r3)) :
 Calls Try.prog 34 #[.agg #[.slice A0_0 l0_0.length c0_0], .int .i64 a1, .int .i64 a2, .int .i64 a3, .slice A4 l4.length c4] w fun e w' => ∃ v0_ v1_ : Value, e = .returned (.tuple #[.agg #[v0_], v1_, .int .i64 r3]) ∧ Kd.S k28 28 w' w.heap.size (fun k_ => (w.heap.size ≤ k_)) v0_ r1 ∧ Kd.S k60 60 w' w.heap.size (fun k_ => (w.heap.size ≤ k_)) v1_ r2 ∧ Below w.heap.size w w' := by
 have hu24 := Try.underlying24; have hu28 := Try.underlying28; have hu41 := Try.underlying41; have hu60 := Try.underlying60; have HR0_0 := Aside0.mk hr0_0; have HC0_0 := Aside0.mk hc0_0; clear hr0_0 hc0_0; have HO4 := Aside0.mk (show Kd.V (Kd.int .u8) 5 w w.heap.size (fun k_ => (P4_ k_ ∨ w.heap.size ≤ k_)) (.slice A4 l4.length c4) l4 from Kd.V_mono hs4 (fun k_ hk => .inl hk)); have HB := Aside0.mk (Below.refl w.heap.size w); have H : ((file_is.f k l0_0 a2).bind fun t244 => (if t244 = true then (if a3 < 0 then (none) else (if (l4.length : Int) = 0 then (none) else ((span_Fits.f a3 (l4.length : Int)).bind fun t248 => (if t248 = true then ((quota_Used.f k l0_0).bind fun t249 => (if 0 ≤ a2 then (if a2 < (l0_0.length : Int) then ((quota_More.f k ((rd_T28 l0_0 a2).f0) ((rd_T28 l0_0 a2).f1) ((rd_T28 l0_0 a2).f2) ((rd_T28 l0_0 a2).f3) ((rd_T28 l0_0 a2).f4) a3 (l4.length : Int)).bind fun t251 => (if (wrap64 (t249 + t251)) > a1 then (none) else ((dir_Copy.f k l0_0).bind fun t252 => (if a2 < (t252.length : Int) then ((span_Pieces.f k a3 (l4.length : Int)).bind fun t259 => (file_Write.l0 k a2 l4 ([] : List (S60)) t259 (t259.length : Int) 0 (t252.set (a2 : Int).toNat (⟨(rd_T28 t252 a2).f0, (rd_T28 t252 a2).f1, mx ((rd_T28 t252 a2).f2) (wrap64 (a3 + (l4.length : Int))), (rd_T28 t252 a2).f3, (rd_T28 t252 a2).f4⟩ : S28)))) else (none))))) else (none)) else (none))) else (none))))) else (none))) = some (r1, r2, r3) := h; clear h; replace H := Option.bind_eq_some_iff.mp H; obtain ⟨t244, A60, H⟩ := H; replace H : (if t244 = true then (if a3 < 0 then (none) else (if (l4.length : Int) = 0 then (none) else ((span_Fits.f a3 (l4.length : Int)).bind fun t248 => (if t248 = true then ((quota_Used.f k l0_0).bind fun t249 => (if 0 ≤ a2 then (if a2 < (l0_0.length : Int) then ((quota_More.f k ((rd_T28 l0_0 a2).f0) ((rd_T28 l0_0 a2).f1) ((rd_T28 l0_0 a2).f2) ((rd_T28 l0_0 a2).f3) ((rd_T28 l0_0 a2).f4) a3 (l4.length : Int)).bind fun t251 => (if (wrap64 (t249 + t251)) > a1 then (none) else ((dir_Copy.f k l0_0).bind fun t252 => (if a2 < (t252.length : Int) then ((span_Pieces.f k a3 (l4.length : Int)).bind fun t259 => (file_Write.l0 k a2 l4 ([] : List (S60)) t259 (t259.length : Int) 0 (t252.set (a2 : Int).toNat (⟨(rd_T28 t252 a2).f0, (rd_T28 t252 a2).f1, mx ((rd_T28 t252 a2).f2) (wrap64 (a3 + (l4.length : Int))), (rd_T28 t252 a2).f3, (rd_T28 t252 a2).f4⟩ : S28)))) else (none))))) else (none)) else (none))) else (none))))) else (none)) = some (r1, r2, r3) := H; have A6 := Aside0.mk A60; clear A60
 by_cases c7 : t244 = true
 ·
  subst c7
  have H1 : (if a3 < 0 then (none) else (if (l4.length : Int) = 0 then (none) else ((span_Fits.f a3 (l4.length : Int)).bind fun t248 => (if t248 = true then ((quota_Used.f k l0_0).bind fun t249 => (if 0 ≤ a2 then (if a2 < (l0_0.length : Int) then ((quota_More.f k ((rd_T28 l0_0 a2).f0) ((rd_T28 l0_0 a2).f1) ((rd_T28 l0_0 a2).f2) ((rd_T28 l0_0 a2).f3) ((rd_T28 l0_0 a2).f4) a3 (l4.length : Int)).bind fun t251 => (if (wrap64 (t249 + t251)) > a1 then (none) else ((dir_Copy.f k l0_0).bind fun t252 => (if a2 < (t252.length : Int) then ((span_Pieces.f k a3 (l4.length : Int)).bind fun t259 => (file_Write.l0 k a2 l4 ([] : List (S60)) t259 (t259.length : Int) 0 (t252.set (a2 : Int).toNat (⟨(rd_T28 t252 a2).f0, (rd_T28 t252 a2).f1, mx ((rd_T28 t252 a2).f2) (wrap64 (a3 + (l4.length : Int))), (rd_T28 t252 a2).f3, (rd_T28 t252 a2).f4⟩ : S28)))) else (none))))) else (none)) else (none))) else (none))))) = some (r1, r2, r3) := by rw [if_pos rfl] at H; exact H
  clear H; have H := H1; clear H1
  by_cases c8 : a3 < 0
  ·
   rw [if_pos c8] at H; exact absurd H (by simp)
  ·
   rw [if_neg c8] at H; have c8b0 : decide (a3 < 0) = false := decide_eq_false c8; clear c8
   by_cases c9 : (l4.length : Int) = 0
   ·
    rw [if_pos c9] at H; exact absurd H (by simp)
   ·
    rw [if_neg c9] at H; have c9b0 : ((l4.length : Int) == 0) = false := beq_eq_false_iff_ne.mpr c9; have c9b1 : ((l4.length : Int) != 0) = true := bne_iff_ne.mpr c9
    have c9b2 : ¬ (l4 = []) := fun h_ => c9 (by rw [h_]; rfl)
    replace H := Option.bind_eq_some_iff.mp H; obtain ⟨t248, A100, H⟩ := H; replace H : (if t248 = true then ((quota_Used.f k l0_0).bind fun t249 => (if 0 ≤ a2 then (if a2 < (l0_0.length : Int) then ((quota_More.f k ((rd_T28 l0_0 a2).f0) ((rd_T28 l0_0 a2).f1) ((rd_T28 l0_0 a2).f2) ((rd_T28 l0_0 a2).f3) ((rd_T28 l0_0 a2).f4) a3 (l4.length : Int)).bind fun t251 => (if (wrap64 (t249 + t251)) > a1 then (none) else ((dir_Copy.f k l0_0).bind fun t252 => (if a2 < (t252.length : Int) then ((span_Pieces.f k a3 (l4.length : Int)).bind fun t259 => (file_Write.l0 k a2 l4 ([] : List (S60)) t259 (t259.length : Int) 0 (t252.set (a2 : Int).toNat (⟨(rd_T28 t252 a2).f0, (rd_T28 t252 a2).f1, mx ((rd_T28 t252 a2).f2) (wrap64 (a3 + (l4.length : Int))), (rd_T28 t252 a2).f3, (rd_T28 t252 a2).f4⟩ : S28)))) else (none))))) else (none)) else (none))) else (none)) = some (r1, r2, r3) := H; have A10 := Aside0.mk A100; clear A100
    by_cases c11 : t248 = true
    ·
     subst c11
     have H1 : ((quota_Used.f k l0_0).bind fun t249 => (if 0 ≤ a2 then (if a2 < (l0_0.length : Int) then ((quota_More.f k ((rd_T28 l0_0 a2).f0) ((rd_T28 l0_0 a2).f1) ((rd_T28 l0_0 a2).f2) ((rd_T28 l0_0 a2).f3) ((rd_T28 l0_0 a2).f4) a3 (l4.length : Int)).bind fun t251 => (if (wrap64 (t249 + t251)) > a1 then (none) else ((dir_Copy.f k l0_0).bind fun t252 => (if a2 < (t252.length : Int) then ((span_Pieces.f k a3 (l4.length : Int)).bind fun t259 => (file_Write.l0 k a2 l4 ([] : List (S60)) t259 (t259.length : Int) 0 (t252.set (a2 : Int).toNat (⟨(rd_T28 t252 a2).f0, (rd_T28 t252 a2).f1, mx ((rd_T28 t252 a2).f2) (wrap64 (a3 + (l4.length : Int))), (rd_T28 t252 a2).f3, (rd_T28 t252 a2).f4⟩ : S28)))) else (none))))) else (none)) else (none))) = some (r1, r2, r3) := by rw [if_pos rfl] at H; exact H
     clear H; have H := H1; clear H1; replace H := Option.bind_eq_some_iff.mp H; obtain ⟨t249, A120, H⟩ := H; replace H : (if 0 ≤ a2 then (if a2 < (l0_0.length : Int) then ((quota_More.f k ((rd_T28 l0_0 a2).f0) ((rd_T28 l0_0 a2).f1) ((rd_T28 l0_0 a2).f2) ((rd_T28 l0_0 a2).f3) ((rd_T28 l0_0 a2).f4) a3 (l4.length : Int)).bind fun t251 => (if (wrap64 (t249 + t251)) > a1 then (none) else ((dir_Copy.f k l0_0).bind fun t252 => (if a2 < (t252.length : Int) then ((span_Pieces.f k a3 (l4.length : Int)).bind fun t259 => (file_Write.l0 k a2 l4 ([] : List (S60)) t259 (t259.length : Int) 0 (t252.set (a2 : Int).toNat (⟨(rd_T28 t252 a2).f0, (rd_T28 t252 a2).f1, mx ((rd_T28 t252 a2).f2) (wrap64 (a3 + (l4.length : Int))), (rd_T28 t252 a2).f3, (rd_T28 t252 a2).f4⟩ : S28)))) else (none))))) else (none)) else (none)) = some (r1, r2, r3) := H; have A12 := Aside0.mk A120; clear A120
     by_cases c13 : 0 ≤ a2
     ·
      rw [if_pos c13] at H; have c13b0 : decide (0 ≤ a2) = true := decide_eq_true c13; clear c13
      by_cases c14 : a2 < (l0_0.length : Int)
      ·
       rw [if_pos c14] at H; have c14b0 : decide (a2 < (l0_0.length : Int)) = true := decide_eq_true c14; clear c14; replace H := Option.bind_eq_some_iff.mp H; obtain ⟨t251, A150, H⟩ := H; replace H : (if (wrap64 (t249 + t251)) > a1 then (none) else ((dir_Copy.f k l0_0).bind fun t252 => (if a2 < (t252.length : Int) then ((span_Pieces.f k a3 (l4.length : Int)).bind fun t259 => (file_Write.l0 k a2 l4 ([] : List (S60)) t259 (t259.length : Int) 0 (t252.set (a2 : Int).toNat (⟨(rd_T28 t252 a2).f0, (rd_T28 t252 a2).f1, mx ((rd_T28 t252 a2).f2) (wrap64 (a3 + (l4.length : Int))), (rd_T28 t252 a2).f3, (rd_T28 t252 a2).f4⟩ : S28)))) else (none)))) = some (r1, r2, r3) := H; have A15 := Aside0.mk A150; clear A150
       by_cases c16 : (wrap64 (t249 + t251)) > a1
       ·
        rw [if_pos c16] at H; exact absurd H (by simp)
       ·
        rw [if_neg c16] at H; have c16b0 : decide (a1 < (wrap64 (t249 + t251))) = false := decide_eq_false c16; clear c16; replace H := Option.bind_eq_some_iff.mp H; obtain ⟨t252, A170, H⟩ := H; replace H : (if a2 < (t252.length : Int) then ((span_Pieces.f k a3 (l4.length : Int)).bind fun t259 => (file_Write.l0 k a2 l4 ([] : List (S60)) t259 (t259.length : Int) 0 (t252.set (a2 : Int).toNat (⟨(rd_T28 t252 a2).f0, (rd_T28 t252 a2).f1, mx ((rd_T28 t252 a2).f2) (wrap64 (a3 + (l4.length : Int))), (rd_T28 t252 a2).f3, (rd_T28 t252 a2).f4⟩ : S28)))) else (none)) = some (r1, r2, r3) := H; have A17 := Aside0.mk A170; clear A170
        by_cases c18 : a2 < (t252.length : Int)
        ·
         rw [if_pos c18] at H; have c18b0 : decide (a2 < (t252.length : Int)) = true := decide_eq_true c18; clear c18; obtain ⟨ji19, hji19⟩ : ∃ j_ : Int, (mx ((rd_T28 t252 a2).f2) (wrap64 (a3 + (l4.length : Int)))) = j_ := ⟨_, rfl⟩
         replace H : ((span_Pieces.f k a3 (l4.length : Int)).bind fun t259 => (file_Write.l0 k a2 l4 ([] : List (S60)) t259 (t259.length : Int) 0 (t252.set (a2 : Int).toNat (⟨(rd_T28 t252 a2).f0, (rd_T28 t252 a2).f1, ji19, (rd_T28 t252 a2).f3, (rd_T28 t252 a2).f4⟩ : S28)))) = some (r1, r2, r3) := by first | (rw [hji19] at H; exact H) | (simp only [hji19] at H ⊢; exact H)
         (try rw [hji19] at A6)
         (try rw [hji19] at A10)
         (try rw [hji19] at A12)
         (try rw [hji19] at A15)
         (try rw [hji19] at A17)
         have hji19_ : (if ((rd_T28 t252 a2).f2) < (wrap64 (a3 + (l4.length : Int))) then (wrap64 (a3 + (l4.length : Int))) else ((rd_T28 t252 a2).f2)) = ji19 := hji19; obtain ⟨y258, hy258⟩ : ∃ y_ : List (S28), y_ = (t252.set (a2 : Int).toNat (⟨(rd_T28 t252 a2).f0, (rd_T28 t252 a2).f1, ji19, (rd_T28 t252 a2).f3, (rd_T28 t252 a2).f4⟩ : S28)) := ⟨_, rfl⟩
         replace H : ((span_Pieces.f k a3 (l4.length : Int)).bind fun t259 => (file_Write.l0 k a2 l4 ([] : List (S60)) t259 (t259.length : Int) 0 y258)) = some (r1, r2, r3) := by first | (rw [hy258]; with_reducible exact H) | (have H2_ := (Option.bind_some _ _).symm.trans H; rw [hy258]; with_reducible exact H2_) | (have H2_ := (Option.bind_some _ _).symm.trans H; with_reducible exact H2_) | with_reducible exact H | (rw [hy258]; exact H) | exact H
         have Ny258 := Aside0.mk hy258; clear hy258; replace H := Option.bind_eq_some_iff.mp H; obtain ⟨t259, A210, H⟩ := H; replace H : (file_Write.l0 k a2 l4 ([] : List (S60)) t259 (t259.length : Int) 0 y258) = some (r1, r2, r3) := H; have A21 := Aside0.mk A210; clear A210; have H' := Aside0.mk H; clear H
         go_enter Try.func34, Try.ntmps34
         try go_wp2_with (first | ((with_reducible refine gate_dst (N := 5) rfl ?_); refine box_event ?hg (N := 5) ?hd (cs := #[.slice A0_0 l0_0.length c0_0]) (t := 24) ?hr ?_; (case hd => rfl); (case hg => rfl); (case hr => first | (go_simp; done) | (go_simp; rfl)); intro gb242 hg w22 hbox hb; have n0_ := Aside0.mk (Kd.V_below (Kd.V_elderB (by (with_reducible repeat (first | apply Kd.V_alloc | apply Kd.V_drewN | apply Kd.V_drew)); exact HO4.out) gb242 (Nat.le_of_eq hg.symm)) hb); have n1_ := Aside0.mk (below_step (by repeat (first | (with_reducible first | exact HB.out | apply wA | apply wN | apply wD) | exact HB.out)) hb); have n2_ := Aside0.mk (hbox); have n3_ := Aside0.mk ((by rw [hg]; exact (below_size (by repeat (first | (with_reducible first | exact HB.out | apply wA | apply wN | apply wD) | exact HB.out))) : w.heap.size ≤ gb242)); have n4_ := Aside0.mk ((by rw [hg]; exact (below_size (by repeat (first | (with_reducible first | exact HB.out | apply wA | apply wN | apply wD) | exact HB.out))) : w.heap.size ≤ gb242)); clear HO4; clear HB; have HO4 := n0_; have HB := n1_; have BK242 := n2_; have GW242 := n3_; have GE242 := n4_; clear n0_ n1_ n2_ n3_ n4_; clear hb hbox hg) | ((with_reducible refine gate_dst (N := 10) rfl ?_); refine box_event ?hg (N := 10) ?hd (cs := #[.slice none 0 0]) (t := 24) ?hr ?_; (case hd => rfl); (case hg => rfl); (case hr => first | (go_simp; done) | (go_simp; rfl)); intro gb243 hg w23 hbox hb; have n0_ := Aside0.mk (Kd.V_below (Kd.V_elderB (by (with_reducible repeat (first | apply Kd.V_alloc | apply Kd.V_drewN | apply Kd.V_drew)); exact HO4.out) gb243 (Nat.le_of_eq hg.symm)) hb); have n1_ := Aside0.mk (bB (g := gb242) (o := .cells #[.slice A0_0 l0_0.length c0_0] 24 (0, 0)) (by (with_reducible repeat (first | refine bN ?_ _ | refine bD ?_ | refine bA ?_ _)); exact BK242.out) hb); have n2_ := Aside0.mk (below_step (by repeat (first | (with_reducible first | exact HB.out | apply wA | apply wN | apply wD | refine wS ?_ GE242.out) | exact HB.out)) hb); have n3_ := Aside0.mk (hbox); have n4_ := Aside0.mk ((by rw [hg]; exact (below_size (by repeat (first | (with_reducible first | exact HB.out | apply wA | apply wN | apply wD | refine wS ?_ GE242.out) | exact HB.out))) : w.heap.size ≤ gb243)); have n5_ := Aside0.mk ((by rw [hg]; exact (below_size (by repeat (first | (with_reducible first | exact HB.out | apply wA | apply wN | apply wD | refine wS ?_ GE242.out) | exact HB.out))) : w.heap.size ≤ gb243)); have n6_ := Aside0.mk ((by rw [hg]; exact Nat.ne_of_lt (blk_lt (g := gb242) (o := .cells #[.slice A0_0 l0_0.length c0_0] 24 (0, 0)) (by (with_reducible repeat (first | refine bN ?_ _ | refine bD ?_ | refine bA ?_ _)); exact BK242.out)) : gb242 ≠ gb243)); have n7_ := Aside0.mk ((by rw [hg]; exact Nat.ne_of_gt (blk_lt (g := gb242) (o := .cells #[.slice A0_0 l0_0.length c0_0] 24 (0, 0)) (by (with_reducible repeat (first | refine bN ?_ _ | refine bD ?_ | refine bA ?_ _)); exact BK242.out)) : gb243 ≠ gb242)); clear HO4; clear BK242; clear HB; have HO4 := n0_; have BK242 := n1_; have HB := n2_; have BK243 := n3_; have GW243 := n4_; have GE243 := n5_; have NB242_243 := n6_; have NB243_242 := n7_; clear n0_ n1_ n2_ n3_ n4_ n5_ n6_ n7_; clear hb hbox hg; have hnb24 := NB242_243.out; have hnc24 := NB243_242.out; have hcz25_0 : w23.cell? ⟨gb242, 0, none⟩ = some (.slice A0_0 l0_0.length c0_0) := (bC BK242.out 0).trans rfl; have hfz25_0 := bZ BK242.out 0) | ((with_reducible refine gate_callee (f := 56) rfl ?_); refine goesL_ (some 21) rfl rfl Try.func56 (by kernel_rfl) rfl #[.agg #[.slice A0_0 l0_0.length c0_0], .int .i64 a2] rfl (by (try simp only [List.map_toArray, List.map_cons, List.map_nil]); first | done | rfl | (simp only [List.length_drop, List.length_take]; rfl)) ?_; (with_reducible refine (file_is.calls k _ _ l0_0 a2 true _ ?side1 ?side2 A6.out).mono ?_); (case side1 => repeat (first | exact (Kd.C_below HR0_0.out HB.out) | (with_reducible refine Kd.C_alloc ?_ _) | (with_reducible refine Kd.C_drewN ?_ _) | (with_reducible refine Kd.C_drew ?_))); (case side2 => exact HC0_0.out); rintro e w26 ⟨rfl, hb⟩; refine ⟨_, rfl, ?_⟩; have n0_ := Aside0.mk (Kd.V_below (by (with_reducible repeat (first | apply Kd.V_alloc | apply Kd.V_drewN | apply Kd.V_drew)); exact HO4.out) hb); have n1_ := Aside0.mk (bB (g := gb242) (o := .cells #[.slice A0_0 l0_0.length c0_0] 24 (0, 0)) (by (with_reducible repeat (first | refine bN ?_ _ | refine bD ?_ | refine bA ?_ _)); exact BK242.out) hb); have n2_ := Aside0.mk (bB (g := gb243) (o := .cells #[.slice none 0 0] 24 (0, 0)) (by (with_reducible repeat (first | refine bN ?_ _ | refine bD ?_ | refine bA ?_ _)); exact BK243.out) hb); have n3_ := Aside0.mk (below_step (by repeat (first | (with_reducible first | exact HB.out | apply wA | apply wN | apply wD | refine wS ?_ GE242.out | refine wS ?_ GE243.out) | exact HB.out)) hb); clear HO4; clear BK242; clear BK243; clear HB; have HO4 := n0_; have BK242 := n1_; have BK243 := n2_; have HB := n3_; clear n0_ n1_ n2_ n3_; (try clear hb); (try clear hb2); (try clear hk); (try clear hi)) | ((with_reducible refine gate_callee (f := 58) rfl ?_); refine goesL_ (some 38) rfl rfl Try.func58 (by kernel_rfl) rfl #[.int .i64 a3, .int .i64 (l4.length : Int)] rfl (by (try simp only [List.map_toArray, List.map_cons, List.map_nil]); first | done | rfl | (simp only [List.length_drop, List.length_take]; rfl)) ?_; (with_reducible refine (span_Fits.calls a3 (l4.length : Int) true _ A10.out).mono ?_); rintro e w' ⟨rfl, ⟨nd, rfl⟩⟩; refine ⟨_, rfl, ?_⟩; (try (rw [drewN_self w26]; generalize hq_ : World.drewN w26 _ = w26; have n0_ : Aside0 (Kd.V (Kd.int .u8) 5 w26 w.heap.size (fun k_ => (P4_ k_ ∨ w.heap.size ≤ k_) ∧ k_ ≠ gb242 ∧ k_ ≠ gb243) (.slice A4 l4.length c4) l4) := ⟨by rw [← hq_]; exact (by (with_reducible repeat (first | apply Kd.V_alloc | apply Kd.V_drewN | apply Kd.V_drew)); exact Kd.V_mono HO4.out (fun _ hk => by first | exact ⟨hk.1.1, ⟨hk.1.2, hk.2⟩⟩ | (go_split_ands; and_intros <;> assumption)))⟩; have n1_ : Aside0 (w26.heap[gb242]? = some (.cells #[.slice A0_0 l0_0.length c0_0] 24 (0, 0))) := ⟨by rw [← hq_]; exact (by (with_reducible repeat (first | refine bN ?_ _ | refine bD ?_ | refine bA ?_ _)); exact BK242.out)⟩; have n2_ : Aside0 (w26.heap[gb243]? = some (.cells #[.slice none 0 0] 24 (0, 0))) := ⟨by rw [← hq_]; exact (by (with_reducible repeat (first | refine bN ?_ _ | refine bD ?_ | refine bA ?_ _)); exact BK243.out)⟩; have n3_ : Aside0 (Below w.heap.size w w26) := ⟨by rw [← hq_]; exact (by repeat (first | (with_reducible first | exact HB.out | apply wA | apply wN | apply wD | refine wS ?_ GE242.out | refine wS ?_ GE243.out) | exact HB.out))⟩; clear HO4 BK242 BK243 HB hq_; have HO4 := n0_; have BK242 := n1_; have BK243 := n2_; have HB := n3_; clear n0_ n1_ n2_ n3_))))
         have n0_ := Aside0.mk (Kd.V_drew HO4.out); have n1_ := Aside0.mk (bD BK242.out); have n2_ := Aside0.mk (bD BK243.out); have n3_ := Aside0.mk (wD HB.out); clear HO4; clear BK242; clear BK243; clear HB; have HO4 := n0_; have BK242 := n1_; have BK243 := n2_; have HB := n3_; clear n0_ n1_ n2_ n3_; have p250 : 0 ≤ (a2 : Int) := of_decide_eq_true (by first | (with_reducible assumption) | assumption); have q250 : a2 < (l0_0.length : Int) := of_decide_eq_true (by first | (with_reducible assumption) | assumption); obtain ⟨ad250, A250_3, c250_3, A250_4, c250_4, e250, hx250_0, hx250_1, hx250_2, hx250_3, hx250_4, hl250_3, hi250_3, hl250_4, hi250_4⟩ := at_T28 HR0_0.out a2 p250 q250; have hw250_4 := hx250_4; have hw250_3 := hx250_3; have hw250_2 := hx250_2; have hw250_1 := hx250_1; have hw250_0 := hx250_0
         cases e250
         replace hx250_0 := (HB.out.cell (World.block_lt_of_cell? w _ hx250_0)).trans hx250_0; replace hx250_1 := (HB.out.cell (World.block_lt_of_cell? w _ hx250_1)).trans hx250_1; replace hx250_2 := (HB.out.cell (World.block_lt_of_cell? w _ hx250_2)).trans hx250_2; replace hx250_3 := (HB.out.cell (World.block_lt_of_cell? w _ hx250_3)).trans hx250_3; replace hx250_4 := (HB.out.cell (World.block_lt_of_cell? w _ hx250_4)).trans hx250_4; have HR250_3 := Aside0.mk hi250_3; have HC250_3 := Aside0.mk hl250_3; clear hi250_3 hl250_3; have HR250_4 := Aside0.mk hi250_4; have HC250_4 := Aside0.mk hl250_4; clear hi250_4 hl250_4; replace p250 := eq_true p250; replace q250 := eq_true q250; refine start_ (n := 15) (S := fun w' => w'.cell? ⟨gb242, 0, none⟩ = some (.slice (some ad250) l0_0.length c0_0) ∧ w'.cell? (ad250.add ((a2).toNat * 5)) = some (.int .i64 ((rd_T28 l0_0 a2).f0)) ∧ w'.cell? ⟨(ad250.add ((a2).toNat * 5)).block, (ad250.add ((a2).toNat * 5)).off + 1, none⟩ = some (.int .i64 ((rd_T28 l0_0 a2).f1)) ∧ w'.cell? ⟨(ad250.add ((a2).toNat * 5)).block, (ad250.add ((a2).toNat * 5)).off + 2, none⟩ = some (.int .i64 ((rd_T28 l0_0 a2).f2)) ∧ w'.cell? ⟨(ad250.add ((a2).toNat * 5)).block, (ad250.add ((a2).toNat * 5)).off + 3, none⟩ = some (.slice A250_3 ((rd_T28 l0_0 a2).f3).length c250_3) ∧ w'.cell? ⟨(ad250.add ((a2).toNat * 5)).block, (ad250.add ((a2).toNat * 5)).off + 4, none⟩ = some (.slice A250_4 ((rd_T28 l0_0 a2).f4).length c250_4)) (ds := []) B15_0 (by kernel_rfl) rfl rfl ⟨(bC BK242.out 0).trans rfl, ((HB.out.cell (World.block_lt_of_cell? w _ hw250_0)).trans hw250_0), ((HB.out.cell (World.block_lt_of_cell? w _ hw250_1)).trans hw250_1), ((HB.out.cell (World.block_lt_of_cell? w _ hw250_2)).trans hw250_2), ((HB.out.cell (World.block_lt_of_cell? w _ hw250_3)).trans hw250_3), ((HB.out.cell (World.block_lt_of_cell? w _ hw250_4)).trans hw250_4)⟩ (fun hHeld => ?_); refine with_tabW file_Write.tab7 file_Write.bits7 (fun HT_ HW_ => ?_); generalize w26.drew = w27 at HO4 BK242 BK243 HB HR250_3 HR250_4 hx250_0 hx250_1 hx250_2 hx250_3 hx250_4 hHeld ⊢; refine pure_ (i := 2) (N := some 44) (v := ?_) (a' := ?_) B15_1 rfl rfl (any_of HT_.out (by kernel_rfl)) (fun _ _ _ h => h) (Or.inl ⟨by rfl, ?_⟩) ?_ ?_; rotate_left
         ·
          intro w'; go_simp; with_reducible rfl
         rotate_left
         ·
          simp only [Act.put, lT, l0_, lS, i64_w, i32_w]; rfl
         refine pure_ (i := 4) (N := some 46) (v := ?_) (a' := ?_) B15_2 rfl rfl (any_of HT_.out (by kernel_rfl)) (fun _ _ _ h => h) (Or.inl ⟨by rfl, ?_⟩) ?_ ?_; rotate_left
         ·
          intro w'; go_simp; with_reducible rfl
         rotate_left
         ·
          simp only [Act.put, lT, l0_, lS, i64_w, i32_w]; rfl
         refine pure_ (i := 7) (N := some 49) (v := ?_) (a' := ?_) B15_3 rfl rfl (any_of HT_.out (by kernel_rfl)) (fun _ _ _ h => h) (Or.inl ⟨by rfl, ?_⟩) ?_ ?_; rotate_left
         ·
          intro w'; go_simp; with_reducible rfl
         rotate_left
         ·
          simp only [Act.put, lT, l0_, lS, i64_w, i32_w]; rfl
         refine pure_ (i := 8) (N := some 50) (v := ?_) (a' := ?_) B15_4 rfl rfl (any_of HT_.out (by kernel_rfl)) (fun _ _ _ h => h) (Or.inl ⟨by rfl, ?_⟩) ?_ ?_; rotate_left
         ·
          intro w'; go_simp; with_reducible rfl
         rotate_left
         ·
          simp only [Act.put, lT, l0_, lS, i64_w, i32_w]; rfl
         refine pure_ (i := 9) (N := some 51) (v := ?_) (a' := ?_) B15_5 rfl rfl (any_of HT_.out (by kernel_rfl)) (fun _ _ _ h => h) (Or.inl ⟨by rfl, ?_⟩) ?_ ?_; rotate_left
         ·
          intro w'; go_simp; with_reducible rfl
         rotate_left
         ·
          simp only [Act.put, lT, l0_, lS, i64_w, i32_w]; rfl
         refine pure_ (i := 12) (N := some 54) (v := ?_) (a' := ?_) B15_6 rfl rfl (any_of HT_.out (by kernel_rfl)) (fun _ _ _ h => h) (Or.inl ⟨by rfl, ?_⟩) ?_ ?_; rotate_left
         ·
          intro w'; go_simp; with_reducible rfl
         rotate_left
         ·
          simp only [Act.put, lT, l0_, lS, i64_w, i32_w]; rfl
         refine take_ (i := 0) (N := some 42) (v := ?_) (a' := ?_) B15_7 rfl rfl (take_ofW HT_.out HW_.out (by kernel_rfl)) (fun _ _ _ h => h) (Or.inl ⟨by rfl, ?_⟩) hHeld ?_ ?_; rotate_left
         ·
          rintro w' ⟨s0, s1, s2, s3, s4, s5⟩; go_simp; with_reducible rfl
         rotate_left
         ·
          simp only [Act.put, lT, l0_, lS, i64_w, i32_w]; rfl
         refine take_ (i := 3) (N := some 45) (v := ?_) (a' := ?_) B15_8 rfl rfl (take_ofW HT_.out HW_.out (by kernel_rfl)) (fun _ _ _ h => h) (Or.inl ⟨by rfl, ?_⟩) hHeld ?_ ?_; rotate_left
         ·
          rintro w' ⟨s0, s1, s2, s3, s4, s5⟩; go_simp; with_reducible rfl
         rotate_left
         ·
          simp only [Act.put, lT, l0_, lS, i64_w, i32_w]; rfl
         refine pure_ (i := 5) (N := some 47) (v := ?_) (a' := ?_) B15_9 rfl rfl (any_of HT_.out (by kernel_rfl)) (fun _ _ _ h => h) (Or.inl ⟨by rfl, ?_⟩) ?_ ?_; rotate_left
         ·
          intro w'; go_simp; with_reducible rfl
         rotate_left
         ·
          simp only [Act.put, lT, l0_, lS, i64_w, i32_w]; rfl
         refine take_ (i := 6) (N := some 48) (v := ?_) (a' := ?_) B15_10 rfl rfl (take_ofW HT_.out HW_.out (by kernel_rfl)) (fun _ _ _ h => h) (Or.inl ⟨by rfl, ?_⟩) hHeld ?_ ?_; rotate_left
         ·
          rintro w' ⟨s0, s1, s2, s3, s4, s5⟩; go_simp; with_reducible rfl
         rotate_left
         ·
          simp only [Act.put, lT, l0_, lS, i64_w, i32_w]; rfl
         refine one_ (i := 1) (N := some 43) B15_11 rfl rfl (one_of HT_.out (by kernel_rfl)) (by decide) (fun K hK => ?_); refine goes_ Try.func16 (by kernel_rfl) rfl #[.agg #[.slice (some ad250) l0_0.length c0_0]] (by rfl) rfl rfl (by (try simp only [List.map_toArray, List.map_cons, List.map_nil]); first | done | rfl | (simp only [List.length_drop, List.length_take]; rfl)) ?_
         with_reducible refine (quota_Used.calls k _ _ l0_0 t249 _ ?side1 ?side2 A12.out).mono ?_
         (case side1 => repeat (first | exact (Kd.C_below HR0_0.out HB.out) | (with_reducible refine Kd.C_alloc ?_ _) | (with_reducible refine Kd.C_drewN ?_ _) | (with_reducible refine Kd.C_drew ?_)))
         (case side2 => exact HC0_0.out)
         rintro e w28 ⟨rfl, hb⟩; refine ⟨_, rfl, ?_⟩; have n0_ := Aside0.mk (Kd.V_below (by (with_reducible repeat (first | apply Kd.V_alloc | apply Kd.V_drewN | apply Kd.V_drew)); exact HO4.out) hb)
         have n1_ := Aside0.mk (bB (g := gb242) (o := .cells #[.slice (some ad250) l0_0.length c0_0] 24 (0, 0)) (by (with_reducible repeat (first | refine bN ?_ _ | refine bD ?_ | refine bA ?_ _)); exact BK242.out) hb)
         have n2_ := Aside0.mk (bB (g := gb243) (o := .cells #[.slice none 0 0] 24 (0, 0)) (by (with_reducible repeat (first | refine bN ?_ _ | refine bD ?_ | refine bA ?_ _)); exact BK243.out) hb)
         have n3_ := Aside0.mk (below_step (by repeat (first | (with_reducible first | exact HB.out | apply wA | apply wN | apply wD | refine wS ?_ GE242.out | refine wS ?_ GE243.out) | exact HB.out)) hb); clear HO4; clear BK242; clear BK243; clear HB; have HO4 := n0_; have BK242 := n1_; have BK243 := n2_; have HB := n3_; clear n0_ n1_ n2_ n3_
         (try clear hb)
         (try clear hb2)
         (try clear hk)
         (try clear hi)
         refine hK.out _ _ ⟨(bC BK242.out 0).trans rfl, ((HB.out.cell (World.block_lt_of_cell? w _ hw250_0)).trans hw250_0), ((HB.out.cell (World.block_lt_of_cell? w _ hw250_1)).trans hw250_1), ((HB.out.cell (World.block_lt_of_cell? w _ hw250_2)).trans hw250_2), ((HB.out.cell (World.block_lt_of_cell? w _ hw250_3)).trans hw250_3), ((HB.out.cell (World.block_lt_of_cell? w _ hw250_4)).trans hw250_4)⟩ (fun hHeld => ?_); clear hK K; refine norm_ (a' := ?_) ?_ ?_; rotate_left
         ·
          show Act.put _ (some 43) _ = _
          simp only [Act.put, lT, l0_, lS, i64_w, i32_w]; rfl
         refine one_ (i := 10) (N := some 52) B15_12 rfl rfl (one_of HT_.out (by kernel_rfl)) (by decide) (fun K hK => ?_); refine goes_ Try.func22 (by kernel_rfl) rfl #[.agg #[.int .i64 ((rd_T28 l0_0 a2).f0), .int .i64 ((rd_T28 l0_0 a2).f1), .int .i64 ((rd_T28 l0_0 a2).f2), .slice A250_3 ((rd_T28 l0_0 a2).f3).length c250_3, .slice A250_4 ((rd_T28 l0_0 a2).f4).length c250_4], .int .i64 a3, .int .i64 (l4.length : Int)] (by rfl) rfl rfl (by (try simp only [List.map_toArray, List.map_cons, List.map_nil]); first | done | rfl | (simp only [List.length_drop, List.length_take]; rfl)) ?_
         with_reducible refine (quota_More.calls k ((rd_T28 l0_0 a2).f0) ((rd_T28 l0_0 a2).f1) ((rd_T28 l0_0 a2).f2) _ _ ((rd_T28 l0_0 a2).f3) _ _ ((rd_T28 l0_0 a2).f4) a3 (l4.length : Int) t251 _ ?side1 ?side2 ?side3 ?side4 A15.out).mono ?_
         (case side1 => repeat (first | exact (Kd.C_below HR250_3.out HB.out) | (with_reducible refine Kd.C_alloc ?_ _) | (with_reducible refine Kd.C_drewN ?_ _) | (with_reducible refine Kd.C_drew ?_)))
         (case side2 => exact HC250_3.out)
         (case side3 => repeat (first | exact (Kd.C_below HR250_4.out HB.out) | (with_reducible refine Kd.C_alloc ?_ _) | (with_reducible refine Kd.C_drewN ?_ _) | (with_reducible refine Kd.C_drew ?_)))
         (case side4 => exact HC250_4.out)
         rintro e w29 ⟨rfl, hb⟩; refine ⟨_, rfl, ?_⟩; have n0_ := Aside0.mk (Kd.V_below (by (with_reducible repeat (first | apply Kd.V_alloc | apply Kd.V_drewN | apply Kd.V_drew)); exact HO4.out) hb)
         have n1_ := Aside0.mk (bB (g := gb242) (o := .cells #[.slice (some ad250) l0_0.length c0_0] 24 (0, 0)) (by (with_reducible repeat (first | refine bN ?_ _ | refine bD ?_ | refine bA ?_ _)); exact BK242.out) hb)
         have n2_ := Aside0.mk (bB (g := gb243) (o := .cells #[.slice none 0 0] 24 (0, 0)) (by (with_reducible repeat (first | refine bN ?_ _ | refine bD ?_ | refine bA ?_ _)); exact BK243.out) hb)
         have n3_ := Aside0.mk (below_step (by repeat (first | (with_reducible first | exact HB.out | apply wA | apply wN | apply wD | refine wS ?_ GE242.out | refine wS ?_ GE243.out) | exact HB.out)) hb); clear HO4; clear BK242; clear BK243; clear HB; have HO4 := n0_; have BK242 := n1_; have BK243 := n2_; have HB := n3_; clear n0_ n1_ n2_ n3_
         (try clear hb)
         (try clear hb2)
         (try clear hk)
         (try clear hi)
         refine hK.out _ _ ⟨(bC BK242.out 0).trans rfl, ((HB.out.cell (World.block_lt_of_cell? w _ hw250_0)).trans hw250_0), ((HB.out.cell (World.block_lt_of_cell? w _ hw250_1)).trans hw250_1), ((HB.out.cell (World.block_lt_of_cell? w _ hw250_2)).trans hw250_2), ((HB.out.cell (World.block_lt_of_cell? w _ hw250_3)).trans hw250_3), ((HB.out.cell (World.block_lt_of_cell? w _ hw250_4)).trans hw250_4)⟩ (fun hHeld => ?_); clear hK K; refine norm_ (a' := ?_) ?_ ?_; rotate_left
         ·
          show Act.put _ (some 52) _ = _
          simp only [Act.put, lT, l0_, lS, i64_w, i32_w]; rfl
         refine pure_ (i := 11) (N := some 53) (v := ?_) (a' := ?_) B15_13 rfl rfl (any_of HT_.out (by kernel_rfl)) (fun _ _ _ h => h) (Or.inl ⟨by rfl, ?_⟩) ?_ ?_; rotate_left
         ·
          intro w'; go_simp; with_reducible rfl
         rotate_left
         ·
          simp only [Act.put, lT, l0_, lS, i64_w, i32_w]; rfl
         refine pure_ (i := 13) (N := some 55) (v := ?_) (a' := ?_) B15_14 rfl rfl (any_of HT_.out (by kernel_rfl)) (fun _ _ _ h => h) (Or.inl ⟨by rfl, ?_⟩) ?_ ?_; rotate_left
         ·
          intro w'; go_simp; with_reducible rfl
         rotate_left
         ·
          simp only [Act.put, lT, l0_, lS, i64_w, i32_w]; rfl
         refine pure_ (i := 14) (N := some 41) (v := ?_) (a' := ?_) B15_15 rfl rfl (any_of HT_.out (by kernel_rfl)) (fun _ _ _ h => h) (Or.inl ⟨by rfl, ?_⟩) ?_ ?_; rotate_left
         ·
          intro w'; go_simp; with_reducible rfl
         rotate_left
         ·
          simp only [Act.put, lT, l0_, lS, i64_w, i32_w]; rfl
         refine done_ (done_of HT_.out (by kernel_rfl)) ?_; have hcz30_0 : w29.cell? ⟨gb242, 0, none⟩ = some (.slice (some ad250) l0_0.length c0_0) := (bC BK242.out 0).trans rfl; have hfz30_0 := bZ BK242.out 0
         try go_wp2_with (first | ((with_reducible refine gate_callee (f := 57) rfl ?_); refine goesL_ (some 58) rfl rfl Try.func57 (by kernel_rfl) rfl #[.agg #[.slice (some ad250) l0_0.length c0_0]] rfl (by (try simp only [List.map_toArray, List.map_cons, List.map_nil]); first | done | rfl | (simp only [List.length_drop, List.length_take]; rfl)) ?_; (with_reducible refine (dir_Copy.calls k _ _ l0_0 t252 _ ?side1 ?side2 A17.out).mono ?_); (case side1 => repeat (first | exact (Kd.C_below HR0_0.out HB.out) | (with_reducible refine Kd.C_alloc ?_ _) | (with_reducible refine Kd.C_drewN ?_ _) | (with_reducible refine Kd.C_drew ?_))); (case side2 => exact HC0_0.out); rintro e w31 ⟨v253, rfl, ho0, hb⟩; refine ⟨_, rfl, ?_⟩; have n0_ := Aside0.mk (Kd.V_elder' (by (with_reducible repeat (first | apply Kd.V_alloc | apply Kd.V_drewN | apply Kd.V_drew)); exact HO4.out) (Kd.S_base ho0) hb); have n1_ := Aside0.mk (Kd.S_lower (Kd.S_newM (M := fun k_ => (w.heap.size ≤ k_)) ho0 (below_size (by repeat (first | (with_reducible first | exact HB.out | apply wA | apply wN | apply wD | refine wS ?_ GE242.out | refine wS ?_ GE243.out) | exact HB.out))) (fun k_ h_ => h_)) (below_size (by repeat (first | (with_reducible first | exact HB.out | apply wA | apply wN | apply wD | refine wS ?_ GE242.out | refine wS ?_ GE243.out) | exact HB.out)))); have n2_ := Aside0.mk (bB (g := gb242) (o := .cells #[.slice (some ad250) l0_0.length c0_0] 24 (0, 0)) (by (with_reducible repeat (first | refine bN ?_ _ | refine bD ?_ | refine bA ?_ _)); exact BK242.out) hb); have n3_ := Aside0.mk (bB (g := gb243) (o := .cells #[.slice none 0 0] 24 (0, 0)) (by (with_reducible repeat (first | refine bN ?_ _ | refine bD ?_ | refine bA ?_ _)); exact BK243.out) hb); have n4_ := Aside0.mk (below_step (by repeat (first | (with_reducible first | exact HB.out | apply wA | apply wN | apply wD | refine wS ?_ GE242.out | refine wS ?_ GE243.out) | exact HB.out)) hb); clear HO4; clear BK242; clear BK243; clear HB; have HO4 := n0_; have HO254 := n1_; have BK242 := n2_; have BK243 := n3_; have HB := n4_; clear n0_ n1_ n2_ n3_ n4_; (try clear hb); (try clear hb2); (try clear hk); (try clear hi); (try clear ho0)) | ((with_reducible refine gate_dst (N := 13) rfl ?_); refine box_event ?hg (N := 13) ?hd (cs := #[.slice none 0 0]) (t := 24) ?hr ?_; (case hd => rfl); (case hg => rfl); (case hr => first | (go_simp; done) | (go_simp; rfl)); intro gb255 hg w32 hbox hb; have n0_ := Aside0.mk (Kd.V_below (Kd.V_elderB (by (with_reducible repeat (first | apply Kd.V_alloc | apply Kd.V_drewN | apply Kd.V_drew)); exact HO4.out) gb255 (Nat.le_of_eq hg.symm)) hb); have n1_ := Aside0.mk (Kd.S_below (by (with_reducible repeat (first | apply Kd.S_alloc | apply Kd.S_drewN | apply Kd.S_drew)); exact HO254.out) hb); have n2_ := Aside0.mk (bB (g := gb242) (o := .cells #[.slice (some ad250) l0_0.length c0_0] 24 (0, 0)) (by (with_reducible repeat (first | refine bN ?_ _ | refine bD ?_ | refine bA ?_ _)); exact BK242.out) hb); have n3_ := Aside0.mk (bB (g := gb243) (o := .cells #[.slice none 0 0] 24 (0, 0)) (by (with_reducible repeat (first | refine bN ?_ _ | refine bD ?_ | refine bA ?_ _)); exact BK243.out) hb); have n4_ := Aside0.mk (below_step (by repeat (first | (with_reducible first | exact HB.out | apply wA | apply wN | apply wD | refine wS ?_ GE242.out | refine wS ?_ GE243.out) | exact HB.out)) hb); have n5_ := Aside0.mk (hbox); have n6_ := Aside0.mk ((by rw [hg]; exact (below_size (by repeat (first | (with_reducible first | exact HB.out | apply wA | apply wN | apply wD | refine wS ?_ GE242.out | refine wS ?_ GE243.out) | exact HB.out))) : w.heap.size ≤ gb255)); have n7_ := Aside0.mk ((by rw [hg]; exact (below_size (by repeat (first | (with_reducible first | exact HB.out | apply wA | apply wN | apply wD | refine wS ?_ GE242.out | refine wS ?_ GE243.out) | exact HB.out))) : w.heap.size ≤ gb255)); have n8_ := Aside0.mk ((by rw [hg]; exact Nat.ne_of_lt (blk_lt (g := gb242) (o := .cells #[.slice (some ad250) l0_0.length c0_0] 24 (0, 0)) (by (with_reducible repeat (first | refine bN ?_ _ | refine bD ?_ | refine bA ?_ _)); exact BK242.out)) : gb242 ≠ gb255)); have n9_ := Aside0.mk ((by rw [hg]; exact Nat.ne_of_gt (blk_lt (g := gb242) (o := .cells #[.slice (some ad250) l0_0.length c0_0] 24 (0, 0)) (by (with_reducible repeat (first | refine bN ?_ _ | refine bD ?_ | refine bA ?_ _)); exact BK242.out)) : gb255 ≠ gb242)); have n10_ := Aside0.mk ((by rw [hg]; exact Nat.ne_of_lt (blk_lt (g := gb243) (o := .cells #[.slice none 0 0] 24 (0, 0)) (by (with_reducible repeat (first | refine bN ?_ _ | refine bD ?_ | refine bA ?_ _)); exact BK243.out)) : gb243 ≠ gb255)); have n11_ := Aside0.mk ((by rw [hg]; exact Nat.ne_of_gt (blk_lt (g := gb243) (o := .cells #[.slice none 0 0] 24 (0, 0)) (by (with_reducible repeat (first | refine bN ?_ _ | refine bD ?_ | refine bA ?_ _)); exact BK243.out)) : gb255 ≠ gb243)); clear HO4; clear HO254; clear BK242; clear BK243; clear HB; have HO4 := n0_; have HO254 := n1_; have BK242 := n2_; have BK243 := n3_; have HB := n4_; have BK255 := n5_; have GW255 := n6_; have GE255 := n7_; have NB242_255 := n8_; have NB255_242 := n9_; have NB243_255 := n10_; have NB255_243 := n11_; clear n0_ n1_ n2_ n3_ n4_ n5_ n6_ n7_ n8_ n9_ n10_ n11_; clear hb hbox hg; obtain ⟨Ao33, co33, eo33⟩ := Kd.S_slice HO254.out; subst eo33; have hnb34 := NB255_242.out; have hnc34 := NB242_255.out; have hnb35 := NB255_243.out; have hnc35 := NB243_255.out; have hcz36_0 : w32.cell? ⟨gb255, 0, none⟩ = some (.slice none 0 0) := (bC BK255.out 0).trans rfl; have hfz36_0 := bZ BK255.out 0) | ((with_reducible refine gate_store (t := 24) (p := 13) rfl ?_); refine store_event (t := 24) (p := 13) (v := ?vo_w37) (w1 := (w32.setCell ⟨gb255, 0, none⟩ (.slice Ao33 t252.length co33))) ?hg ?ho ?hn ?hr ?_; (case ho => rfl); (case hg => rfl); (case hn => rfl); (case hr => first | (go_simp; done) | (go_simp; rfl)); intro w37 hw; have n0_ : Aside0 (Kd.V (Kd.int .u8) 5 w37 w.heap.size (fun k_ => (P4_ k_ ∨ w.heap.size ≤ k_) ∧ some k_ ≠ (.slice Ao33 t252.length co33 : Value).ownBlock ∧ k_ ≠ gb242 ∧ k_ ≠ gb243 ∧ k_ ≠ gb255) (.slice A4 l4.length c4) l4) := ⟨(by rw [hw]; exact (by (with_reducible repeat (first | apply Kd.V_alloc | apply Kd.V_drewN | apply Kd.V_drew)); exact Kd.V_mono (Kd.V_far (p := ⟨gb255, 0, none⟩) (Kd.V_mono HO4.out (fun k_ hk => (⟨hk, hk.2⟩ : _ ∧ k_ ≠ gb255))) (fun _ hk => hk.2) (.slice Ao33 t252.length co33)) (fun _ hk => by first | exact ⟨hk.1.1.1.1.1, ⟨hk.1.1.2, ⟨hk.1.1.1.1.2, ⟨hk.1.1.1.2, hk.1.2⟩⟩⟩⟩ | (go_split_ands; and_intros <;> assumption))))⟩; have n1_ : Aside0 (Kd.S k28 28 w37 w.heap.size (fun k_ => (w.heap.size ≤ k_)) (.slice Ao33 t252.length co33) t252) := ⟨(by rw [hw]; exact (by (with_reducible repeat (first | apply Kd.S_alloc | apply Kd.S_drewN | apply Kd.S_drew)); exact Kd.S_mono (Kd.S_far (p := ⟨gb255, 0, none⟩) (Kd.S_types HO254.out BK255.out (by decide)) (fun _ hk => hk.2) (.slice Ao33 t252.length co33)) (fun _ hk => hk.1.1)))⟩; have n2_ : Aside0 (w37.heap[gb242]? = some (.cells #[.slice (some ad250) l0_0.length c0_0] 24 (0, 0))) := ⟨(by rw [hw]; exact (by (with_reducible repeat (first | refine bN ?_ _ | refine bD ?_ | refine bA ?_ _)); refine bF ?_ NB242_255.out _; (with_reducible repeat (first | refine bN ?_ _ | refine bD ?_ | refine bA ?_ _)); exact BK242.out))⟩; have n3_ : Aside0 (w37.heap[gb243]? = some (.cells #[.slice none 0 0] 24 (0, 0))) := ⟨(by rw [hw]; exact (by (with_reducible repeat (first | refine bN ?_ _ | refine bD ?_ | refine bA ?_ _)); refine bF ?_ NB243_255.out _; (with_reducible repeat (first | refine bN ?_ _ | refine bD ?_ | refine bA ?_ _)); exact BK243.out))⟩; have n4_ : Aside0 (w37.heap[gb255]? = some (.cells #[.slice Ao33 t252.length co33] 24 (0, 0))) := ⟨(by rw [hw]; exact (by (with_reducible repeat (first | refine bN ?_ _ | refine bD ?_ | refine bA ?_ _)); refine blk_put (cs := #[.slice none 0 0]) ?_ 0 _ rfl; (with_reducible repeat (first | refine bN ?_ _ | refine bD ?_ | refine bA ?_ _)); exact BK255.out))⟩; have n5_ : Aside0 (Below w.heap.size w w37) := ⟨(by rw [hw]; exact (by repeat (first | (with_reducible first | exact HB.out | apply wA | apply wN | apply wD | refine wS ?_ GE242.out | refine wS ?_ GE243.out | refine wS ?_ GE255.out) | exact HB.out)))⟩; clear hw; clear HO4; clear HO254; clear BK242; clear BK243; clear BK255; clear HB; have HO4 := n0_; have HO254 := n1_; have BK242 := n2_; have BK243 := n3_; have BK255 := n4_; have HB := n5_; clear n0_ n1_ n2_ n3_ n4_ n5_; have hcz38_0 : w37.cell? ⟨gb255, 0, none⟩ = some (.slice Ao33 t252.length co33) := (bC BK255.out 0).trans rfl; have hfz38_0 := bZ BK255.out 0; have p256 : 0 ≤ (a2 : Int) := of_decide_eq_true (by first | (with_reducible assumption) | assumption); have q256 : a2 < (t252.length : Int) := of_decide_eq_true (by first | (with_reducible assumption) | assumption); obtain ⟨ad256, A256_3, c256_3, A256_4, c256_4, e256, hx256_0, hx256_1, hx256_2, hx256_3, hx256_4, hl256_3, hi256_3, hl256_4, hi256_4⟩ := at_T28 (Kd.S_reads' HO254.out).2.2 a2 p256 q256; cases e256; obtain ⟨ce256, hce256, hMe256, hcc256⟩ := Kd.S_get HO254.out z28 a2 p256 (by first | exact q256 | exact of_decide_eq_true (by first | (with_reducible assumption) | assumption) | (have e_ := (Kd.S_reads' HO254.out).1; omega)); obtain ⟨ve256_3, ve256_4, rfl, ge256_3, ge256_4⟩ := k28_openM hMe256; have hv256_3 := hcc256 3 _ rfl; rw [add_field _ _ 3 (by omega)] at hv256_3; replace hv256_3 := Option.some.inj (hv256_3.symm.trans hx256_3); rw [hv256_3] at ge256_3; have HL256_3 := Aside0.mk (show Kd.R (Kd.int .i64) 3 _ _ _ _ ((rd_T28 t252 a2).f3) from ge256_3); clear hv256_3 ge256_3; have hv256_4 := hcc256 4 _ rfl; rw [add_field _ _ 4 (by omega)] at hv256_4; replace hv256_4 := Option.some.inj (hv256_4.symm.trans hx256_4); rw [hv256_4] at ge256_4; have HL256_4 := Aside0.mk (show Kd.R k78 78 _ _ _ _ ((rd_T28 t252 a2).f4) from ge256_4); clear hv256_4 ge256_4; clear hcc256 hce256; have HR256_3 := Aside0.mk hi256_3; have HC256_3 := Aside0.mk hl256_3; clear hi256_3 hl256_3; have HR256_4 := Aside0.mk hi256_4; have HC256_4 := Aside0.mk hl256_4; clear hi256_4 hl256_4; replace p256 := eq_true p256; replace q256 := eq_true q256; have p257 : 0 ≤ (a2 : Int) := of_decide_eq_true (by first | (with_reducible assumption) | assumption); have q257 : a2 < (t252.length : Int) := of_decide_eq_true (by first | (with_reducible assumption) | assumption); obtain ⟨ad257, A257_3, c257_3, A257_4, c257_4, e257, hx257_0, hx257_1, hx257_2, hx257_3, hx257_4, hl257_3, hi257_3, hl257_4, hi257_4⟩ := at_T28 (Kd.S_reads' HO254.out).2.2 a2 p257 q257; obtain rfl : ad256 = ad257 := (by injection e257); obtain ⟨ce257, hce257, hMe257, hcc257⟩ := Kd.S_get HO254.out z28 a2 p257 (by first | exact q257 | exact of_decide_eq_true (by first | (with_reducible assumption) | assumption) | (have e_ := (Kd.S_reads' HO254.out).1; omega)); obtain ⟨ve257_3, ve257_4, rfl, ge257_3, ge257_4⟩ := k28_openM hMe257; have hv257_3 := hcc257 3 _ rfl; rw [add_field _ _ 3 (by omega)] at hv257_3; replace hv257_3 := Option.some.inj (hv257_3.symm.trans hx257_3); rw [hv257_3] at ge257_3; have HL257_3 := Aside0.mk (show Kd.R (Kd.int .i64) 3 _ _ _ _ ((rd_T28 t252 a2).f3) from ge257_3); clear hv257_3 ge257_3; have hv257_4 := hcc257 4 _ rfl; rw [add_field _ _ 4 (by omega)] at hv257_4; replace hv257_4 := Option.some.inj (hv257_4.symm.trans hx257_4); rw [hv257_4] at ge257_4; have HL257_4 := Aside0.mk (show Kd.R k78 78 _ _ _ _ ((rd_T28 t252 a2).f4) from ge257_4); clear hv257_4 ge257_4; clear hcc257 hce257; have HR257_3 := Aside0.mk hi257_3; have HC257_3 := Aside0.mk hl257_3; clear hi257_3 hl257_3; have HR257_4 := Aside0.mk hi257_4; have HC257_4 := Aside0.mk hl257_4; clear hi257_4 hl257_4; replace p257 := eq_true p257; replace q257 := eq_true q257; have ea_ := Option.some.inj (hx256_3.symm.trans hx257_3); injection ea_ with ea_ en_ ec_; subst ea_; subst ec_; clear en_; have ea_ := Option.some.inj (hx256_4.symm.trans hx257_4); injection ea_ with ea_ en_ ec_; subst ea_; subst ec_; clear en_; have p20 : 0 ≤ (a2 : Int) := of_decide_eq_true (by first | (with_reducible assumption) | assumption); have q20 : (a2 : Int) < ((t252.length : Int) : Int) := of_decide_eq_true (by first | (with_reducible assumption) | assumption); obtain ⟨go20, co20, eo20, gb20, gl20, cl20, HG20⟩ := Kd.S_form HO254.out (by omega); (first | cases eo20 | (injection eo20 with ea_ en_ ec_; (first | subst ea_ | (injection ea_ with ea_; subst ea_)); subst ec_; clear en_)); have GB20 := Aside0.mk gb20; have GG20 := Aside0.mk HG20; clear gb20 gl20 HG20; (first | simp only [add_plain] at hx256_0 | skip); (first | simp only [add_plain] at hx256_1 | skip); (first | simp only [add_plain] at hx256_2 | skip); (first | simp only [add_plain] at hx256_3 | skip); (first | simp only [add_plain] at hx256_4 | skip); (first | simp only [add_plain] at hx257_0 | skip); (first | simp only [add_plain] at hx257_1 | skip); (first | simp only [add_plain] at hx257_2 | skip); (first | simp only [add_plain] at hx257_3 | skip); (first | simp only [add_plain] at hx257_4 | skip); obtain ⟨_, ce20, hcl20, hM20, hcc20, hfr20, _, _⟩ := Kd.S_elem HO254.out z28 (a2 : Int) p20 q20; obtain ⟨ve20_3, ve20_4, rfl, ge20_3, ge20_4⟩ := k28_openM hM20; have hx20_0 : w37.cell? ⟨go20, (a2 : Int).toNat * 5, none⟩ = some (.int .i64 ((rd_T28 t252 a2).f0)) := hcc20 0 _ rfl; have hx20_1 : w37.cell? ⟨go20, (a2 : Int).toNat * 5 + 1, none⟩ = some (.int .i64 ((rd_T28 t252 a2).f1)) := hcc20 1 _ rfl; have hx20_2 : w37.cell? ⟨go20, (a2 : Int).toNat * 5 + 2, none⟩ = some (.int .i64 ((rd_T28 t252 a2).f2)) := hcc20 2 _ rfl; have hx20_3 : w37.cell? ⟨go20, (a2 : Int).toNat * 5 + 3, none⟩ = some (ve20_3) := hcc20 3 _ rfl; have hx20_4 : w37.cell? ⟨go20, (a2 : Int).toNat * 5 + 4, none⟩ = some (ve20_4) := hcc20 4 _ rfl; have hf20_0 : w37.frozen? ⟨go20, (a2 : Int).toNat * 5, none⟩ = false := hfr20 0; have hf20_1 : w37.frozen? ⟨go20, (a2 : Int).toNat * 5 + 1, none⟩ = false := hfr20 1; have hf20_2 : w37.frozen? ⟨go20, (a2 : Int).toNat * 5 + 2, none⟩ = false := hfr20 2; have hf20_3 : w37.frozen? ⟨go20, (a2 : Int).toNat * 5 + 3, none⟩ = false := hfr20 3; have hf20_4 : w37.frozen? ⟨go20, (a2 : Int).toNat * 5 + 4, none⟩ = false := hfr20 4; clear hcl20 hcc20 hfr20 hM20; replace p20 := eq_true p20; replace q20 := eq_true q20; have HX39 := Aside0.mk (show Kd.S k28 28 w37 w.heap.size (fun k_ => ((fun k_ => (w.heap.size ≤ k_))) k_ ∧ ¬ ((fun _ => False)) k_) (.slice (some ⟨go20, 0, none⟩) t252.length co33) t252 from (by (with_reducible repeat (first | apply Kd.S_alloc | apply Kd.S_drewN | apply Kd.S_drew)); exact Kd.S_mono HO254.out (fun k_ hk => ⟨hk, fun e_ => e_⟩))); obtain ⟨oki39, ce39, hcl39, hM39, hcc39, hfr39, hoki39, hH39⟩ := Kd.S_elem HX39.out z28 (a2 : Int) (of_decide_eq_true (by first | (with_reducible assumption) | assumption)) (by have h_ : (a2 : Int) < ((t252.length : Int) : Int) := of_decide_eq_true (by first | (with_reducible assumption) | assumption); first | exact h_ | (have e_ := (Kd.S_reads' HO254.out).1; omega) | simpa using h_); obtain ⟨ve39_3, ve39_4, rfl, ge39_3, ge39_4⟩ := k28_openM hM39; have HP39 := Kd.S_seg hH39 (of_decide_eq_true (by first | (with_reducible assumption) | assumption)) (by have h_ : (a2 : Int) < ((t252.length : Int) : Int) := of_decide_eq_true (by first | (with_reducible assumption) | assumption); first | exact h_ | (have e_ := (Kd.S_reads' HO254.out).1; omega) | simpa using h_) (seg := [.int .i64 ji19]) (j := 2) (show 3 ≤ 5 from by decide) (x' := (⟨(rd_T28 t252 a2).f0, (rd_T28 t252 a2).f1, ji19, (rd_T28 t252 a2).f3, (rd_T28 t252 a2).f4⟩ : S28)) (k28_mkM _ _ _ (⟨(rd_T28 t252 a2).f0, (rd_T28 t252 a2).f1, ji19, (rd_T28 t252 a2).f3, (rd_T28 t252 a2).f4⟩ : S28) (Kd.R_mono ge39_3 (fun _ h_ => Or.inl h_)) (Kd.R_mono ge39_4 (fun _ h_ => Or.inl h_))) (fun _ hk => hk) (fun k_ hk_ => hk_.elim); have hx39_2 := hcc39 2 _ rfl; (try simp only [show (k28).sz = 5 from rfl, Nat.mul_one, Nat.add_zero] at hx39_2); have hf39_2 := hfr39 2; (try simp only [show (k28).sz = 5 from rfl, Nat.mul_one, Nat.add_zero] at hf39_2); clear hcl39 hcc39 hfr39 hM39 hoki39 hH39) | ((with_reducible refine gate_store (t := 3) (p := 74) rfl ?_); refine store_event (t := 3) (p := 74) (v := ?vo_w40) (w1 := (w37.setCell ⟨go20, (a2 : Int).toNat * 5 + 2, none⟩ (.int .i64 ji19))) ?hg ?ho ?hn ?hr ?_; (case ho => rfl); (case hg => rfl); (case hn => rfl); (case hr => first | (go_simp; done) | (go_simp; rfl)); intro w40 hw; have hg : w37.grownBy w40 (some go20) := (by rw [hw]; exact HP39.2); have hp_ : Kd.S k28 28 w40 w.heap.size (fun k_ => (w.heap.size ≤ k_)) (.slice (some ⟨go20, 0, none⟩) t252.length co33) y258 := (by rw [hw, Ny258.out]; exact HP39.1); clear HP39; have n0_ := Aside0.mk (Kd.V_afterv (v := (.slice (some ⟨go20, 0, none⟩) t252.length co33)) (v1 := (.slice (some ⟨go20, 0, none⟩) t252.length co33)) (ok := (fun k_ => (P4_ k_ ∨ w.heap.size ≤ k_) ∧ k_ ≠ gb242 ∧ k_ ≠ gb243 ∧ k_ ≠ gb255)) (by (with_reducible repeat (first | apply Kd.V_alloc | apply Kd.V_drewN | apply Kd.V_drew)); exact Kd.V_mono HO4.out (fun _ hk => by first | exact ⟨⟨hk.1, ⟨hk.2.2.1, ⟨hk.2.2.2.1, hk.2.2.2.2⟩⟩⟩, hk.2.1⟩ | (go_split_ands; and_intros <;> assumption))) hg (.inl rfl)); have n1_ := Aside0.mk (blk_grown (g := gb242) (o := .cells #[.slice (some ad250) l0_0.length c0_0] 24 (0, 0)) (by (with_reducible repeat (first | refine bN ?_ _ | refine bD ?_ | refine bA ?_ _)); exact BK242.out) hg (Kd.S_ne HO254.out BK242.out (by decide))); have n2_ := Aside0.mk (blk_grown (g := gb243) (o := .cells #[.slice none 0 0] 24 (0, 0)) (by (with_reducible repeat (first | refine bN ?_ _ | refine bD ?_ | refine bA ?_ _)); exact BK243.out) hg (Kd.S_ne HO254.out BK243.out (by decide))); have n3_ := Aside0.mk (hp_); have n4_ := Aside0.mk (blk_grown (g := gb255) (o := .cells #[.slice (some ⟨go20, 0, none⟩) t252.length co33] 24 (0, 0)) (by (with_reducible repeat (first | refine bN ?_ _ | refine bD ?_ | refine bA ?_ _)); exact BK255.out) hg (Kd.S_ne HO254.out BK255.out (by decide))); have n5_ := Aside0.mk (Kd.R_after (v := (.slice (some ⟨go20, 0, none⟩) t252.length co33)) (v1 := (.slice (some ⟨go20, 0, none⟩) t252.length co33)) (ok := (fun k_ => (w.heap.size ≤ k_))) (by (with_reducible repeat (first | apply Kd.R_alloc | apply Kd.R_drewN | apply Kd.R_drew)); exact HL256_3.out) hg (.inl rfl)); have n6_ := Aside0.mk (Kd.R_after (v := (.slice (some ⟨go20, 0, none⟩) t252.length co33)) (v1 := (.slice (some ⟨go20, 0, none⟩) t252.length co33)) (ok := (fun k_ => (w.heap.size ≤ k_))) (by (with_reducible repeat (first | apply Kd.R_alloc | apply Kd.R_drewN | apply Kd.R_drew)); exact HL256_4.out) hg (.inl rfl)); have n7_ := Aside0.mk (Kd.R_after (v := (.slice (some ⟨go20, 0, none⟩) t252.length co33)) (v1 := (.slice (some ⟨go20, 0, none⟩) t252.length co33)) (ok := (fun k_ => (w.heap.size ≤ k_))) (by (with_reducible repeat (first | apply Kd.R_alloc | apply Kd.R_drewN | apply Kd.R_drew)); exact HL257_3.out) hg (.inl rfl)); have n8_ := Aside0.mk (Kd.R_after (v := (.slice (some ⟨go20, 0, none⟩) t252.length co33)) (v1 := (.slice (some ⟨go20, 0, none⟩) t252.length co33)) (ok := (fun k_ => (w.heap.size ≤ k_))) (by (with_reducible repeat (first | apply Kd.R_alloc | apply Kd.R_drewN | apply Kd.R_drew)); exact HL257_4.out) hg (.inl rfl)); have n9_ := Aside0.mk ((by rw [hw]; exact wS (HB.out) GB20.out : Below w.heap.size w w40)); clear HO4; clear BK242; clear BK243; clear HO254; clear BK255; clear HL256_3; clear HL256_4; clear HL257_3; clear HL257_4; clear HB; have HO4 := n0_; have BK242 := n1_; have BK243 := n2_; have HO254 := n3_; have BK255 := n4_; have HL256_3 := n5_; have HL256_4 := n6_; have HL257_3 := n7_; have HL257_4 := n8_; have HB := n9_; clear n0_ n1_ n2_ n3_ n4_ n5_ n6_ n7_ n8_ n9_; clear hg hw hp_) | ((with_reducible refine gate_callee (f := 49) rfl ?_); refine goesL_ (some 78) rfl rfl Try.func49 (by kernel_rfl) rfl #[.int .i64 a3, .int .i64 (l4.length : Int)] rfl (by (try simp only [List.map_toArray, List.map_cons, List.map_nil]); first | done | rfl | (simp only [List.length_drop, List.length_take]; rfl)) ?_; (with_reducible refine (span_Pieces.calls k a3 (l4.length : Int) t259 _ A21.out).mono ?_); rintro e w41 ⟨v260, rfl, ho0, hb⟩; refine ⟨_, rfl, ?_⟩; have n0_ := Aside0.mk (Kd.V_elder' (by (with_reducible repeat (first | apply Kd.V_alloc | apply Kd.V_drewN | apply Kd.V_drew)); exact HO4.out) (Kd.R_base ho0) hb); have n1_ := Aside0.mk (Kd.S_below (by (with_reducible repeat (first | apply Kd.S_alloc | apply Kd.S_drewN | apply Kd.S_drew)); exact HO254.out) hb); have n2_ := Aside0.mk (Kd.R_below (by (with_reducible repeat (first | apply Kd.R_alloc | apply Kd.R_drewN | apply Kd.R_drew)); exact HL256_3.out) hb); have n3_ := Aside0.mk (Kd.R_below (by (with_reducible repeat (first | apply Kd.R_alloc | apply Kd.R_drewN | apply Kd.R_drew)); exact HL256_4.out) hb); have n4_ := Aside0.mk (Kd.R_below (by (with_reducible repeat (first | apply Kd.R_alloc | apply Kd.R_drewN | apply Kd.R_drew)); exact HL257_3.out) hb); have n5_ := Aside0.mk (Kd.R_below (by (with_reducible repeat (first | apply Kd.R_alloc | apply Kd.R_drewN | apply Kd.R_drew)); exact HL257_4.out) hb); have n6_ := Aside0.mk (Kd.R_lower (Kd.R_newM (M := fun k_ => (w.heap.size ≤ k_)) ho0 (below_size (by repeat (first | (with_reducible first | exact HB.out | apply wA | apply wN | apply wD | refine wS ?_ GE242.out | refine wS ?_ GE243.out | refine wS ?_ GE255.out) | exact HB.out))) (fun k_ h_ => h_)) (below_size (by repeat (first | (with_reducible first | exact HB.out | apply wA | apply wN | apply wD | refine wS ?_ GE242.out | refine wS ?_ GE243.out | refine wS ?_ GE255.out) | exact HB.out)))); have n7_ := Aside0.mk (bB (g := gb242) (o := .cells #[.slice (some ad250) l0_0.length c0_0] 24 (0, 0)) (by (with_reducible repeat (first | refine bN ?_ _ | refine bD ?_ | refine bA ?_ _)); exact BK242.out) hb); have n8_ := Aside0.mk (bB (g := gb243) (o := .cells #[.slice none 0 0] 24 (0, 0)) (by (with_reducible repeat (first | refine bN ?_ _ | refine bD ?_ | refine bA ?_ _)); exact BK243.out) hb); have n9_ := Aside0.mk (bB (g := gb255) (o := .cells #[.slice (some ⟨go20, 0, none⟩) t252.length co33] 24 (0, 0)) (by (with_reducible repeat (first | refine bN ?_ _ | refine bD ?_ | refine bA ?_ _)); exact BK255.out) hb); have n10_ := Aside0.mk (below_step (by repeat (first | (with_reducible first | exact HB.out | apply wA | apply wN | apply wD | refine wS ?_ GE242.out | refine wS ?_ GE243.out | refine wS ?_ GE255.out) | exact HB.out)) hb); clear HO4; clear HO254; clear HL256_3; clear HL256_4; clear HL257_3; clear HL257_4; clear BK242; clear BK243; clear BK255; clear HB; have HO4 := n0_; have HO254 := n1_; have HL256_3 := n2_; have HL256_4 := n3_; have HL257_3 := n4_; have HL257_4 := n5_; have HO261 := n6_; have BK242 := n7_; have BK243 := n8_; have BK255 := n9_; have HB := n10_; clear n0_ n1_ n2_ n3_ n4_ n5_ n6_ n7_ n8_ n9_ n10_; (try clear hb); (try clear hb2); (try clear hk); (try clear hi); (try clear ho0); obtain ⟨Ao42, co42, eo42⟩ := Kd.R_slice HO261.out; subst eo42))
         go_loopg [4, 15, 80] k (fun kq v4 v15 v80 w' => ∃ (x4_1 : List Int) (x15_1 : List (S60)) (x80_1 : Int), v80 = .int .i64 x80_1 ∧ Aside0 (file_Write.l0 kq a2 x4_1 x15_1 t259 (t259.length : Int) x80_1 y258 = some (r1, r2, r3)) ∧ Aside0 (kq ≤ k) ∧ Aside0 (Kd.V (Kd.int .u8) 5 w' w.heap.size (fun k_ => (P4_ k_ ∨ w.heap.size ≤ k_) ∧ some k_ ≠ (v15 : Value).ownBlock ∧ some k_ ≠ ((.slice Ao42 t259.length co42) : Value).ownBlock ∧ some k_ ≠ ((.slice (some ⟨go20, 0, none⟩) t252.length co33) : Value).ownBlock ∧ k_ ≠ gb242 ∧ k_ ≠ gb243 ∧ k_ ≠ gb255) v4 x4_1) ∧ Aside0 (Kd.S k60 60 w' w.heap.size (fun k_ => (w.heap.size ≤ k_)) v15 x15_1) ∧ Aside0 (Kd.R k41 41 w' w.heap.size (fun k_ => (w.heap.size ≤ k_)) (.slice Ao42 t259.length co42) t259) ∧ Aside0 (Kd.S k28 28 w' w.heap.size (fun k_ => (w.heap.size ≤ k_)) (.slice (some ⟨go20, 0, none⟩) t252.length co33) y258) ∧ Aside0 (w'.heap[gb242]? = some (.cells #[(.slice (some ad250) l0_0.length c0_0)] 24 (0, 0))) ∧ Aside0 (w'.heap[gb243]? = some (.cells #[(.slice none 0 0)] 24 (0, 0))) ∧ Aside0 (w'.heap[gb255]? = some (.cells #[(.slice (some ⟨go20, 0, none⟩) t252.length co33)] 24 (0, 0))) ∧ Aside0 (Below w.heap.size w w'))
         case atStart => exact ⟨(l4), (([] : List (S60))), (0), (by first | rfl | (simp; done) | (simp [*]; done)), H', ⟨Nat.le_refl _⟩, ⟨by (with_reducible repeat (first | apply Kd.V_alloc | apply Kd.V_drewN | apply Kd.V_drew)); exact Kd.V_mono HO4.out (fun _ hk => ⟨hk.1.1.1, ⟨(by simp [Value.ownBlock]), ⟨hk.2, ⟨hk.1.2, ⟨hk.1.1.2.1, ⟨hk.1.1.2.2.1, hk.1.1.2.2.2⟩⟩⟩⟩⟩⟩)⟩, ⟨by first | exact Kd.S_nil _ _ _ _ _ | exact Kd.N_nil _ _ _ _ _ | exact Kd.V_nil _ _ _ _ _ | exact Kd.Q_nil _ _ _ _ _ | exact Kd.R_nil _ _ _ _ _⟩, ⟨by (with_reducible repeat (first | apply Kd.R_alloc | apply Kd.R_drewN | apply Kd.R_drew)); exact Kd.R_mono HO261.out (fun _ hk => hk.1)⟩, ⟨by (with_reducible repeat (first | apply Kd.S_alloc | apply Kd.S_drewN | apply Kd.S_drew)); exact HO254.out⟩, ⟨by (with_reducible repeat (first | refine bN ?_ _ | refine bD ?_ | refine bA ?_ _)); exact BK242.out⟩, ⟨by (with_reducible repeat (first | refine bN ?_ _ | refine bD ?_ | refine bA ?_ _)); exact BK243.out⟩, ⟨by (with_reducible repeat (first | refine bN ?_ _ | refine bD ?_ | refine bA ?_ _)); exact BK255.out⟩, ⟨by repeat (first | (with_reducible first | exact HB.out | apply wA | apply wN | apply wD | refine wS ?_ GE242.out | refine wS ?_ GE243.out | refine wS ?_ GE255.out) | exact HB.out)⟩⟩
         case round =>
          clear H'
          try clear c1
          try clear c2
          try clear p2
          try clear q2
          try clear hx2
          try clear c3
          try clear hx3
          try clear c4
          try clear c5
          try clear p6
          try clear c7
          try clear c8
          try clear c8b0
          try clear c9
          try clear c9b0
          try clear c9b1
          try clear c9b2
          try clear c11
          try clear c13
          try clear c13b0
          try clear c14
          try clear c14b0
          try clear c16
          try clear c16b0
          try clear c18
          try clear c18b0
          try clear c20
          try clear p20
          try clear q20
          try clear hx20
          try clear hf20
          try clear c22
          try clear c24
          try clear c25
          try clear p25
          try clear q25
          try clear hx25
          try clear c34
          try clear c35
          try clear c39
          try clear hx39
          try clear hf39
          try clear hcz25_0
          try clear hcz30_0
          try clear hcz36_0
          try clear hcz38_0
          try clear hfz25_0
          try clear hfz30_0
          try clear hfz36_0
          try clear hfz38_0
          try clear hx20_0
          try clear hx20_1
          try clear hx20_2
          try clear hx20_3
          try clear hx20_4
          try clear hx250_0
          try clear hx250_1
          try clear hx250_2
          try clear hx250_3
          try clear hx250_4
          try clear hx256_0
          try clear hx256_1
          try clear hx256_2
          try clear hx256_3
          try clear hx256_4
          try clear hx257_0
          try clear hx257_1
          try clear hx257_2
          try clear hx257_3
          try clear hx257_4
          try clear hx39_2
          try clear p20
          try clear p250
          try clear p256
          try clear p257
          try clear q20
          try clear q250
          try clear q256
          try clear q257
          obtain ⟨x4_1, x15_1, x80_1, rfl, HA, HK1, HO_4, HO_15, HO_78, HO_256000, BK242, BK243, BK255, HB⟩ := hrel; have hl256000_1 := (Kd.S_reads' HO_256000.out).1; rw [hl256000_1] at HO_256000
          (try simp only [hl256000_1])
          (try simp only [hl256000_1] at BK242)
          (try simp only [hl256000_1] at BK243)
          (try simp only [hl256000_1] at BK255)
          (try simp only [hl256000_1] at HO_4)
          (try simp only [hl256000_1] at HO_15)
          (try simp only [hl256000_1] at HO_78)
          cases gk with
          | zero => exact absurd HA.out (by simp [file_Write.l0])
          | succ k1 =>
           have H := HA.out; clear HA; simp only [file_Write.l0] at H
           by_cases c43 : x80_1 < (t259.length : Int)
           ·
            rw [if_pos c43] at H; have c43b0 : decide (x80_1 < (t259.length : Int)) = true := decide_eq_true c43; clear c43
            by_cases c44 : 0 ≤ x80_1
            ·
             rw [if_pos c44] at H; have c44b0 : decide (0 ≤ x80_1) = true := decide_eq_true c44; clear c44
             by_cases c45 : x80_1 < (t259.length : Int)
             ·
              rw [if_pos c45] at H; have c45b0 : decide (x80_1 < (t259.length : Int)) = true := decide_eq_true c45; clear c45
              by_cases c46 : 0 ≤ a2
              ·
               rw [if_pos c46] at H; have c46b0 : decide (0 ≤ a2) = true := decide_eq_true c46; clear c46
               by_cases c47 : a2 < (y258.length : Int)
               ·
                rw [if_pos c47] at H; have c47b0 : decide (a2 < (y258.length : Int)) = true := decide_eq_true c47; clear c47
                by_cases c48 : 0 ≤ ((rd_T41 t259 x80_1).f0)
                ·
                 rw [if_pos c48] at H; have c48b0 : decide (0 ≤ ((rd_T41 t259 x80_1).f0)) = true := decide_eq_true c48; clear c48
                 by_cases c49 : ((rd_T41 t259 x80_1).f0) < (((rd_T28 y258 a2).f3).length : Int)
                 ·
                  rw [if_pos c49] at H; have c49b0 : decide (((rd_T41 t259 x80_1).f0) < (((rd_T28 y258 a2).f3).length : Int)) = true := decide_eq_true c49; clear c49
                  by_cases c50 : 0 ≤ ((rd_T41 t259 x80_1).f2)
                  ·
                   rw [if_pos c50] at H; have c50b0 := eq_true c50; have c50b1 : decide (0 ≤ ((rd_T41 t259 x80_1).f2)) = true := decide_eq_true c50; clear c50
                   by_cases c51 : ((rd_T41 t259 x80_1).f2) ≤ (x4_1.length : Int)
                   ·
                    rw [if_pos c51] at H; have c51b0 := eq_true c51; have c51b1 : decide (((rd_T41 t259 x80_1).f2) ≤ (x4_1.length : Int)) = true := decide_eq_true c51; clear c51; obtain ⟨y266, hy266⟩ : ∃ y_ : List Int, y_ = (x4_1.take (((rd_T41 t259 x80_1).f2) : Int).toNat) := ⟨_, rfl⟩
                    replace H : ((slices_Clone_byte_byte.f y266).bind fun t271 => (if x15_1.length < 2199023255552 then (file_Write.l0 k1 a2 (x4_1.drop (((rd_T41 t259 x80_1).f2) : Int).toNat) (x15_1 ++ [(⟨a2, (rd_T41 t259 x80_1).f0, rd ((rd_T28 y258 a2).f3) ((rd_T41 t259 x80_1).f0), 16, (rd_T41 t259 x80_1).f1, t271⟩ : S60)]) t259 (t259.length : Int) (wrap64 (x80_1 + 1)) y258) else (none))) = some (r1, r2, r3) := by first | (rw [hy266]; with_reducible exact H) | (have H2_ := (Option.bind_some _ _).symm.trans H; rw [hy266]; with_reducible exact H2_) | (have H2_ := (Option.bind_some _ _).symm.trans H; with_reducible exact H2_) | with_reducible exact H | (rw [hy266]; exact H) | exact H
                    have Ny266 := Aside0.mk hy266; clear hy266; replace H := Option.bind_eq_some_iff.mp H; obtain ⟨t271, A520, H⟩ := H; replace H : (if x15_1.length < 2199023255552 then (file_Write.l0 k1 a2 (x4_1.drop (((rd_T41 t259 x80_1).f2) : Int).toNat) (x15_1 ++ [(⟨a2, (rd_T41 t259 x80_1).f0, rd ((rd_T28 y258 a2).f3) ((rd_T41 t259 x80_1).f0), 16, (rd_T41 t259 x80_1).f1, t271⟩ : S60)]) t259 (t259.length : Int) (wrap64 (x80_1 + 1)) y258) else (none)) = some (r1, r2, r3) := H; have A52 := Aside0.mk A520; clear A520
                    by_cases c53 : x15_1.length < 2199023255552
                    ·
                     rw [if_pos c53] at H; have LMc53 := Aside0.mk c53; clear c53; obtain ⟨y274, hy274⟩ : ∃ y_ : List (S60), y_ = (x15_1 ++ [(⟨a2, (rd_T41 t259 x80_1).f0, rd ((rd_T28 y258 a2).f3) ((rd_T41 t259 x80_1).f0), 16, (rd_T41 t259 x80_1).f1, t271⟩ : S60)]) := ⟨_, rfl⟩
                     replace H : (file_Write.l0 k1 a2 (x4_1.drop (((rd_T41 t259 x80_1).f2) : Int).toNat) y274 t259 (t259.length : Int) (wrap64 (x80_1 + 1)) y258) = some (r1, r2, r3) := by first | (rw [hy274]; with_reducible exact H) | (have H2_ := (Option.bind_some _ _).symm.trans H; rw [hy274]; with_reducible exact H2_) | (have H2_ := (Option.bind_some _ _).symm.trans H; with_reducible exact H2_) | with_reducible exact H | (rw [hy274]; exact H) | exact H
                     have Ny274 := Aside0.mk hy274; clear hy274; have c54b0 := eq_true (of_decide_eq_true (by first | (with_reducible assumption) | assumption) : 0 ≤ ((rd_T41 t259 x80_1).f2)); have c55b0 := eq_true (of_decide_eq_true (by first | (with_reducible assumption) | assumption) : ((rd_T41 t259 x80_1).f2) ≤ (x4_1.length : Int)); obtain ⟨y277, hy277⟩ : ∃ y_ : List Int, y_ = (x4_1.drop (((rd_T41 t259 x80_1).f2) : Int).toNat) := ⟨_, rfl⟩
                     replace H : (file_Write.l0 k1 a2 y277 y274 t259 (t259.length : Int) (wrap64 (x80_1 + 1)) y258) = some (r1, r2, r3) := by first | (rw [hy277]; with_reducible exact H) | (have H2_ := (Option.bind_some _ _).symm.trans H; rw [hy277]; with_reducible exact H2_) | (have H2_ := (Option.bind_some _ _).symm.trans H; with_reducible exact H2_) | with_reducible exact H | (rw [hy277]; exact H) | exact H
                     have Ny277 := Aside0.mk hy277; clear hy277; have H' := Aside0.mk H; clear H; have p262 : 0 ≤ (x80_1 : Int) := of_decide_eq_true (by first | (with_reducible assumption) | assumption); have q262 : x80_1 < (t259.length : Int) := of_decide_eq_true (by first | (with_reducible assumption) | assumption); obtain ⟨ad262, e262, hx262_0, hx262_1, hx262_2⟩ := at_T41 (Kd.R_reads' HO_78.out).2.2 x80_1 p262 q262
                     cases e262
                     replace p262 := eq_true p262; replace q262 := eq_true q262
                     try go_wp2_with (first | ((with_reducible refine gate_dst (N := 17) rfl ?_); refine box_event ?hg (N := 17) ?hd (cs := #[.int .i64 0, .int .i64 0, .int .i64 0]) (t := 41) ?hr ?_; (case hd => rfl); (case hg => rfl); (case hr => first | (go_simp; done) | (go_simp; rfl)); intro gb263 hg w56 hbox hb; have n0_ := Aside0.mk (Kd.V_below (Kd.V_elderB (by (with_reducible repeat (first | apply Kd.V_alloc | apply Kd.V_drewN | apply Kd.V_drew)); exact HO_4.out) gb263 (Nat.le_of_eq hg.symm)) hb); have n1_ := Aside0.mk (Kd.S_below (by (with_reducible repeat (first | apply Kd.S_alloc | apply Kd.S_drewN | apply Kd.S_drew)); exact HO_15.out) hb); have n2_ := Aside0.mk (Kd.R_below (Kd.R_elderB (by (with_reducible repeat (first | apply Kd.R_alloc | apply Kd.R_drewN | apply Kd.R_drew)); exact HO_78.out) gb263 (Nat.le_of_eq hg.symm)) hb); have n3_ := Aside0.mk (Kd.S_below (by (with_reducible repeat (first | apply Kd.S_alloc | apply Kd.S_drewN | apply Kd.S_drew)); exact HO_256000.out) hb); have n4_ := Aside0.mk (bB (g := gb242) (o := .cells #[.slice (some ad250) l0_0.length c0_0] 24 (0, 0)) (by (with_reducible repeat (first | refine bN ?_ _ | refine bD ?_ | refine bA ?_ _)); exact BK242.out) hb); have n5_ := Aside0.mk (bB (g := gb243) (o := .cells #[.slice none 0 0] 24 (0, 0)) (by (with_reducible repeat (first | refine bN ?_ _ | refine bD ?_ | refine bA ?_ _)); exact BK243.out) hb); have n6_ := Aside0.mk (bB (g := gb255) (o := .cells #[.slice (some ⟨go20, 0, none⟩) y258.length co33] 24 (0, 0)) (by (with_reducible repeat (first | refine bN ?_ _ | refine bD ?_ | refine bA ?_ _)); exact BK255.out) hb); have n7_ := Aside0.mk (below_step (by repeat (first | (with_reducible first | exact HB.out | apply wA | apply wN | apply wD | refine wS ?_ GE242.out | refine wS ?_ GE243.out | refine wS ?_ GE255.out) | exact HB.out)) hb); have n8_ := Aside0.mk (hbox); have n9_ := Aside0.mk ((by rw [hg]; exact (below_size (by repeat (first | (with_reducible first | exact HB.out | apply wA | apply wN | apply wD | refine wS ?_ GE242.out | refine wS ?_ GE243.out | refine wS ?_ GE255.out) | exact HB.out))) : w.heap.size ≤ gb263)); have n10_ := Aside0.mk ((by rw [hg]; exact (below_size (by repeat (first | (with_reducible first | exact HB.out | apply wA | apply wN | apply wD | refine wS ?_ GE242.out | refine wS ?_ GE243.out | refine wS ?_ GE255.out) | exact HB.out))) : w.heap.size ≤ gb263)); have n11_ := Aside0.mk ((by rw [hg]; exact Nat.ne_of_lt (blk_lt (g := gb242) (o := .cells #[.slice (some ad250) l0_0.length c0_0] 24 (0, 0)) (by (with_reducible repeat (first | refine bN ?_ _ | refine bD ?_ | refine bA ?_ _)); exact BK242.out)) : gb242 ≠ gb263)); have n12_ := Aside0.mk ((by rw [hg]; exact Nat.ne_of_gt (blk_lt (g := gb242) (o := .cells #[.slice (some ad250) l0_0.length c0_0] 24 (0, 0)) (by (with_reducible repeat (first | refine bN ?_ _ | refine bD ?_ | refine bA ?_ _)); exact BK242.out)) : gb263 ≠ gb242)); have n13_ := Aside0.mk ((by rw [hg]; exact Nat.ne_of_lt (blk_lt (g := gb243) (o := .cells #[.slice none 0 0] 24 (0, 0)) (by (with_reducible repeat (first | refine bN ?_ _ | refine bD ?_ | refine bA ?_ _)); exact BK243.out)) : gb243 ≠ gb263)); have n14_ := Aside0.mk ((by rw [hg]; exact Nat.ne_of_gt (blk_lt (g := gb243) (o := .cells #[.slice none 0 0] 24 (0, 0)) (by (with_reducible repeat (first | refine bN ?_ _ | refine bD ?_ | refine bA ?_ _)); exact BK243.out)) : gb263 ≠ gb243)); have n15_ := Aside0.mk ((by rw [hg]; exact Nat.ne_of_lt (blk_lt (g := gb255) (o := .cells #[.slice (some ⟨go20, 0, none⟩) y258.length co33] 24 (0, 0)) (by (with_reducible repeat (first | refine bN ?_ _ | refine bD ?_ | refine bA ?_ _)); exact BK255.out)) : gb255 ≠ gb263)); have n16_ := Aside0.mk ((by rw [hg]; exact Nat.ne_of_gt (blk_lt (g := gb255) (o := .cells #[.slice (some ⟨go20, 0, none⟩) y258.length co33] 24 (0, 0)) (by (with_reducible repeat (first | refine bN ?_ _ | refine bD ?_ | refine bA ?_ _)); exact BK255.out)) : gb263 ≠ gb255)); clear HO_4; clear HO_15; clear HO_78; clear HO_256000; clear BK242; clear BK243; clear BK255; clear HB; have HO_4 := n0_; have HO_15 := n1_; have HO_78 := n2_; have HO_256000 := n3_; have BK242 := n4_; have BK243 := n5_; have BK255 := n6_; have HB := n7_; have BK263 := n8_; have GW263 := n9_; have GE263 := n10_; have NB242_263 := n11_; have NB263_242 := n12_; have NB243_263 := n13_; have NB263_243 := n14_; have NB255_263 := n15_; have NB263_255 := n16_; clear n0_ n1_ n2_ n3_ n4_ n5_ n6_ n7_ n8_ n9_ n10_ n11_ n12_ n13_ n14_ n15_ n16_; clear hb hbox hg; have hnb57 := NB263_242.out; have hnc57 := NB242_263.out; have hnb58 := NB263_243.out; have hnc58 := NB243_263.out; have hnb59 := NB263_255.out; have hnc59 := NB255_263.out; have hcz60_0 : w56.cell? ⟨gb263, 0, none⟩ = some (.int .i64 0) := (bC BK263.out 0).trans rfl; have hcz60_1 : w56.cell? ⟨gb263, 1, none⟩ = some (.int .i64 0) := (bC BK263.out 1).trans rfl; have hcz60_2 : w56.cell? ⟨gb263, 2, none⟩ = some (.int .i64 0) := (bC BK263.out 2).trans rfl; have hfz60_0 := bZ BK263.out 0; have hfz60_1 := bZ BK263.out 1; have hfz60_2 := bZ BK263.out 2))
                     have n0_ : Aside0 (Kd.V (Kd.int .u8) 5 (((w56.setCell ⟨gb263, 0, none⟩ (.int .i64 ((rd_T41 t259 x80_1).f0))).setCell ⟨gb263, 1, none⟩ (.int .i64 ((rd_T41 t259 x80_1).f1))).setCell ⟨gb263, 2, none⟩ (.int .i64 ((rd_T41 t259 x80_1).f2))) w.heap.size (fun k_ => (P4_ k_ ∨ w.heap.size ≤ k_) ∧ some k_ ≠ (u15 : Value).ownBlock ∧ some k_ ≠ (.slice (some ad262) t259.length co42 : Value).ownBlock ∧ some k_ ≠ (.slice (some ⟨go20, 0, none⟩) y258.length co33 : Value).ownBlock ∧ k_ ≠ gb242 ∧ k_ ≠ gb243 ∧ k_ ≠ gb255 ∧ k_ ≠ gb263) u4 x4_1) := ⟨by (with_reducible repeat (first | apply Kd.V_alloc | apply Kd.V_drewN | apply Kd.V_drew)); exact Kd.V_mono (Kd.V_far (p := ⟨gb263, 2, none⟩) (Kd.V_far (p := ⟨gb263, 1, none⟩) (Kd.V_far (p := ⟨gb263, 0, none⟩) (Kd.V_mono HO_4.out (fun k_ hk => (⟨hk, hk.2⟩ : _ ∧ k_ ≠ gb263))) (fun _ hk => hk.2) (.int .i64 ((rd_T41 t259 x80_1).f0))) (fun _ hk => hk.2) (.int .i64 ((rd_T41 t259 x80_1).f1))) (fun _ hk => hk.2) (.int .i64 ((rd_T41 t259 x80_1).f2))) (fun _ hk => by first | exact ⟨hk.1.1.1, ⟨hk.1.1.2.1, ⟨hk.1.1.2.2.1, ⟨hk.1.1.2.2.2.1, ⟨hk.1.1.2.2.2.2.1, ⟨hk.1.1.2.2.2.2.2.1, ⟨hk.1.1.2.2.2.2.2.2, hk.1.2⟩⟩⟩⟩⟩⟩⟩ | (go_split_ands; and_intros <;> assumption))⟩
                     have n1_ : Aside0 (Kd.S k60 60 (((w56.setCell ⟨gb263, 0, none⟩ (.int .i64 ((rd_T41 t259 x80_1).f0))).setCell ⟨gb263, 1, none⟩ (.int .i64 ((rd_T41 t259 x80_1).f1))).setCell ⟨gb263, 2, none⟩ (.int .i64 ((rd_T41 t259 x80_1).f2))) w.heap.size (fun k_ => (w.heap.size ≤ k_)) u15 x15_1) := ⟨by (with_reducible repeat (first | apply Kd.S_alloc | apply Kd.S_drewN | apply Kd.S_drew)); exact Kd.S_mono (Kd.S_far (p := ⟨gb263, 2, none⟩) (Kd.S_far (p := ⟨gb263, 1, none⟩) (Kd.S_far (p := ⟨gb263, 0, none⟩) (Kd.S_types HO_15.out BK263.out (by decide)) (fun _ hk => hk.2) (.int .i64 ((rd_T41 t259 x80_1).f0))) (fun _ hk => hk.2) (.int .i64 ((rd_T41 t259 x80_1).f1))) (fun _ hk => hk.2) (.int .i64 ((rd_T41 t259 x80_1).f2))) (fun _ hk => hk.1)⟩
                     have n2_ : Aside0 (Kd.R k41 41 (((w56.setCell ⟨gb263, 0, none⟩ (.int .i64 ((rd_T41 t259 x80_1).f0))).setCell ⟨gb263, 1, none⟩ (.int .i64 ((rd_T41 t259 x80_1).f1))).setCell ⟨gb263, 2, none⟩ (.int .i64 ((rd_T41 t259 x80_1).f2))) w.heap.size (fun k_ => (w.heap.size ≤ k_) ∧ k_ ≠ gb263) (.slice (some ad262) t259.length co42) t259) := ⟨by (with_reducible repeat (first | apply Kd.R_alloc | apply Kd.R_drewN | apply Kd.R_drew)); exact Kd.R_mono (Kd.R_far (p := ⟨gb263, 2, none⟩) (Kd.R_far (p := ⟨gb263, 1, none⟩) (Kd.R_far (p := ⟨gb263, 0, none⟩) (Kd.R_mono HO_78.out (fun k_ hk => (⟨hk, hk.2⟩ : _ ∧ k_ ≠ gb263))) (fun _ hk => hk.2) (.int .i64 ((rd_T41 t259 x80_1).f0))) (fun _ hk => hk.2) (.int .i64 ((rd_T41 t259 x80_1).f1))) (fun _ hk => hk.2) (.int .i64 ((rd_T41 t259 x80_1).f2))) (fun _ hk => by first | exact ⟨hk.1.1, hk.1.2⟩ | (go_split_ands; and_intros <;> assumption))⟩
                     have n3_ : Aside0 (Kd.S k28 28 (((w56.setCell ⟨gb263, 0, none⟩ (.int .i64 ((rd_T41 t259 x80_1).f0))).setCell ⟨gb263, 1, none⟩ (.int .i64 ((rd_T41 t259 x80_1).f1))).setCell ⟨gb263, 2, none⟩ (.int .i64 ((rd_T41 t259 x80_1).f2))) w.heap.size (fun k_ => (w.heap.size ≤ k_)) (.slice (some ⟨go20, 0, none⟩) y258.length co33) y258) := ⟨by (with_reducible repeat (first | apply Kd.S_alloc | apply Kd.S_drewN | apply Kd.S_drew)); exact Kd.S_mono (Kd.S_far (p := ⟨gb263, 2, none⟩) (Kd.S_far (p := ⟨gb263, 1, none⟩) (Kd.S_far (p := ⟨gb263, 0, none⟩) (Kd.S_types HO_256000.out BK263.out (by decide)) (fun _ hk => hk.2) (.int .i64 ((rd_T41 t259 x80_1).f0))) (fun _ hk => hk.2) (.int .i64 ((rd_T41 t259 x80_1).f1))) (fun _ hk => hk.2) (.int .i64 ((rd_T41 t259 x80_1).f2))) (fun _ hk => hk.1)⟩
                     have n4_ : Aside0 ((((w56.setCell ⟨gb263, 0, none⟩ (.int .i64 ((rd_T41 t259 x80_1).f0))).setCell ⟨gb263, 1, none⟩ (.int .i64 ((rd_T41 t259 x80_1).f1))).setCell ⟨gb263, 2, none⟩ (.int .i64 ((rd_T41 t259 x80_1).f2))).heap[gb242]? = some (.cells #[.slice (some ad250) l0_0.length c0_0] 24 (0, 0))) := ⟨by (with_reducible repeat (first | refine bN ?_ _ | refine bD ?_ | refine bA ?_ _)); refine bF ?_ NB242_263.out _; (with_reducible repeat (first | refine bN ?_ _ | refine bD ?_ | refine bA ?_ _)); refine bF ?_ NB242_263.out _; (with_reducible repeat (first | refine bN ?_ _ | refine bD ?_ | refine bA ?_ _)); refine bF ?_ NB242_263.out _; (with_reducible repeat (first | refine bN ?_ _ | refine bD ?_ | refine bA ?_ _)); exact BK242.out⟩
                     have n5_ : Aside0 ((((w56.setCell ⟨gb263, 0, none⟩ (.int .i64 ((rd_T41 t259 x80_1).f0))).setCell ⟨gb263, 1, none⟩ (.int .i64 ((rd_T41 t259 x80_1).f1))).setCell ⟨gb263, 2, none⟩ (.int .i64 ((rd_T41 t259 x80_1).f2))).heap[gb243]? = some (.cells #[.slice none 0 0] 24 (0, 0))) := ⟨by (with_reducible repeat (first | refine bN ?_ _ | refine bD ?_ | refine bA ?_ _)); refine bF ?_ NB243_263.out _; (with_reducible repeat (first | refine bN ?_ _ | refine bD ?_ | refine bA ?_ _)); refine bF ?_ NB243_263.out _; (with_reducible repeat (first | refine bN ?_ _ | refine bD ?_ | refine bA ?_ _)); refine bF ?_ NB243_263.out _; (with_reducible repeat (first | refine bN ?_ _ | refine bD ?_ | refine bA ?_ _)); exact BK243.out⟩
                     have n6_ : Aside0 ((((w56.setCell ⟨gb263, 0, none⟩ (.int .i64 ((rd_T41 t259 x80_1).f0))).setCell ⟨gb263, 1, none⟩ (.int .i64 ((rd_T41 t259 x80_1).f1))).setCell ⟨gb263, 2, none⟩ (.int .i64 ((rd_T41 t259 x80_1).f2))).heap[gb255]? = some (.cells #[.slice (some ⟨go20, 0, none⟩) y258.length co33] 24 (0, 0))) := ⟨by (with_reducible repeat (first | refine bN ?_ _ | refine bD ?_ | refine bA ?_ _)); refine bF ?_ NB255_263.out _; (with_reducible repeat (first | refine bN ?_ _ | refine bD ?_ | refine bA ?_ _)); refine bF ?_ NB255_263.out _; (with_reducible repeat (first | refine bN ?_ _ | refine bD ?_ | refine bA ?_ _)); refine bF ?_ NB255_263.out _; (with_reducible repeat (first | refine bN ?_ _ | refine bD ?_ | refine bA ?_ _)); exact BK255.out⟩
                     have n7_ : Aside0 ((((w56.setCell ⟨gb263, 0, none⟩ (.int .i64 ((rd_T41 t259 x80_1).f0))).setCell ⟨gb263, 1, none⟩ (.int .i64 ((rd_T41 t259 x80_1).f1))).setCell ⟨gb263, 2, none⟩ (.int .i64 ((rd_T41 t259 x80_1).f2))).heap[gb263]? = some (.cells #[.int .i64 ((rd_T41 t259 x80_1).f0), .int .i64 ((rd_T41 t259 x80_1).f1), .int .i64 ((rd_T41 t259 x80_1).f2)] 41 (0, 0))) := ⟨by (with_reducible repeat (first | refine bN ?_ _ | refine bD ?_ | refine bA ?_ _)); refine blk_put (cs := #[.int .i64 ((rd_T41 t259 x80_1).f0), .int .i64 ((rd_T41 t259 x80_1).f1), .int .i64 0]) ?_ 2 _ rfl; (with_reducible repeat (first | refine bN ?_ _ | refine bD ?_ | refine bA ?_ _)); refine blk_put (cs := #[.int .i64 ((rd_T41 t259 x80_1).f0), .int .i64 0, .int .i64 0]) ?_ 1 _ rfl; (with_reducible repeat (first | refine bN ?_ _ | refine bD ?_ | refine bA ?_ _)); refine blk_put (cs := #[.int .i64 0, .int .i64 0, .int .i64 0]) ?_ 0 _ rfl; (with_reducible repeat (first | refine bN ?_ _ | refine bD ?_ | refine bA ?_ _)); exact BK263.out⟩
                     have n8_ : Aside0 (Below w.heap.size w (((w56.setCell ⟨gb263, 0, none⟩ (.int .i64 ((rd_T41 t259 x80_1).f0))).setCell ⟨gb263, 1, none⟩ (.int .i64 ((rd_T41 t259 x80_1).f1))).setCell ⟨gb263, 2, none⟩ (.int .i64 ((rd_T41 t259 x80_1).f2)))) := ⟨by repeat (first | (with_reducible first | exact HB.out | apply wA | apply wN | apply wD | refine wS ?_ GE242.out | refine wS ?_ GE243.out | refine wS ?_ GE255.out | refine wS ?_ GE263.out) | exact HB.out)⟩
                     (try clear HO_4)
                     (try clear HO_15)
                     (try clear HO_78)
                     (try clear HO_256000)
                     (try clear BK242)
                     (try clear BK243)
                     (try clear BK255)
                     (try clear BK263)
                     (try clear HB)
                     generalize (((w56.setCell ⟨gb263, 0, none⟩ (.int .i64 ((rd_T41 t259 x80_1).f0))).setCell ⟨gb263, 1, none⟩ (.int .i64 ((rd_T41 t259 x80_1).f1))).setCell ⟨gb263, 2, none⟩ (.int .i64 ((rd_T41 t259 x80_1).f2))) = w61 at n0_ n1_ n2_ n3_ n4_ n5_ n6_ n7_ n8_ ⊢; have HO_4 := n0_; have HO_15 := n1_; have HO_78 := n2_; have HO_256000 := n3_; have BK242 := n4_; have BK243 := n5_; have BK255 := n6_; have BK263 := n7_; have HB := n8_; clear n0_ n1_ n2_ n3_ n4_ n5_ n6_ n7_ n8_; have n0_ := Aside0.mk (Kd.V_drew HO_4.out); have n1_ := Aside0.mk (Kd.S_drew HO_15.out); have n2_ := Aside0.mk (Kd.R_drew HO_78.out); have n3_ := Aside0.mk (Kd.S_drew HO_256000.out); have n4_ := Aside0.mk (bD BK242.out); have n5_ := Aside0.mk (bD BK243.out); have n6_ := Aside0.mk (bD BK255.out); have n7_ := Aside0.mk (bD BK263.out); have n8_ := Aside0.mk (wD HB.out); clear HO_4; clear HO_15; clear HO_78; clear HO_256000; clear BK242; clear BK243; clear BK255; clear BK263; clear HB; have HO_4 := n0_; have HO_15 := n1_; have HO_78 := n2_; have HO_256000 := n3_; have BK242 := n4_; have BK243 := n5_; have BK255 := n6_; have BK263 := n7_; have HB := n8_; clear n0_ n1_ n2_ n3_ n4_ n5_ n6_ n7_ n8_; have p264 : 0 ≤ (a2 : Int) := of_decide_eq_true (by first | (with_reducible assumption) | assumption); have q264 : a2 < (y258.length : Int) := of_decide_eq_true (by first | (with_reducible assumption) | assumption); obtain ⟨ad264, A264_3, c264_3, A264_4, c264_4, e264, hx264_0, hx264_1, hx264_2, hx264_3, hx264_4, hl264_3, hi264_3, hl264_4, hi264_4⟩ := at_T28 (Kd.S_reads' HO_256000.out).2.2 a2 p264 q264; obtain rfl : (⟨go20, 0, none⟩ : Addr) = ad264 := (by injection e264); obtain ⟨ce264, hce264, hMe264, hcc264⟩ := Kd.S_get HO_256000.out z28 a2 p264 (by first | exact q264 | exact of_decide_eq_true (by first | (with_reducible assumption) | assumption) | (have e_ := (Kd.S_reads' HO_256000.out).1; omega))
                     obtain ⟨ve264_3, ve264_4, rfl, ge264_3, ge264_4⟩ := k28_openM hMe264; have hv264_3 := hcc264 3 _ rfl; rw [add_field _ _ 3 (by omega)] at hv264_3; replace hv264_3 := Option.some.inj (hv264_3.symm.trans hx264_3); rw [hv264_3] at ge264_3; have HL264_3 := Aside0.mk (show Kd.R (Kd.int .i64) 3 _ _ _ _ ((rd_T28 y258 a2).f3) from ge264_3); clear hv264_3 ge264_3; have hv264_4 := hcc264 4 _ rfl; rw [add_field _ _ 4 (by omega)] at hv264_4; replace hv264_4 := Option.some.inj (hv264_4.symm.trans hx264_4); rw [hv264_4] at ge264_4; have HL264_4 := Aside0.mk (show Kd.R k78 78 _ _ _ _ ((rd_T28 y258 a2).f4) from ge264_4); clear hv264_4 ge264_4; clear hcc264 hce264
                     (first | simp only [add_plain] at hx264_0 | simp only [add_at] at hx264_0 | simp only [Addr.add, Nat.zero_add] at hx264_0 | skip)
                     (first | simp only [add_plain] at hx264_1 | simp only [add_at] at hx264_1 | simp only [Addr.add, Nat.zero_add] at hx264_1 | skip)
                     (first | simp only [add_plain] at hx264_2 | simp only [add_at] at hx264_2 | simp only [Addr.add, Nat.zero_add] at hx264_2 | skip)
                     (first | simp only [add_plain] at hx264_3 | simp only [add_at] at hx264_3 | simp only [Addr.add, Nat.zero_add] at hx264_3 | skip)
                     (first | simp only [add_plain] at hx264_4 | simp only [add_at] at hx264_4 | simp only [Addr.add, Nat.zero_add] at hx264_4 | skip)
                     have HR264_3 := Aside0.mk hi264_3; have HC264_3 := Aside0.mk hl264_3; clear hi264_3 hl264_3; have HR264_4 := Aside0.mk hi264_4; have HC264_4 := Aside0.mk hl264_4; clear hi264_4 hl264_4; replace p264 := eq_true p264; replace q264 := eq_true q264; have p265 : 0 ≤ (((rd_T41 t259 x80_1).f0) : Int) := of_decide_eq_true (by first | (with_reducible assumption) | assumption); have q265 : ((rd_T41 t259 x80_1).f0) < (((rd_T28 y258 a2).f3).length : Int) := of_decide_eq_true (by first | (with_reducible assumption) | assumption); obtain ⟨ad265, e265, hx265_0⟩ := Kd.at_int (by repeat (first | (with_reducible exact HR264_3.out) | (with_reducible refine Kd.C_alloc ?_ _) | (with_reducible refine Kd.C_drewN ?_ _) | (with_reducible refine Kd.C_drew ?_) | exact HR264_3.out)) ((rd_T41 t259 x80_1).f0) p265 q265
                     cases e265
                     replace p265 := eq_true p265; replace q265 := eq_true q265; obtain ⟨Ao64, co64, eo64⟩ := Kd.V_slice HO_4.out
                     (first | subst eo64 | (injection eo64 with f1_ f2_ f3_; have f4_ := f1_.symm; have f5_ := f3_.symm; clear f1_ f2_ f3_; subst f4_; subst f5_))
                     have q63 : (((rd_T41 t259 x80_1).f2) : Int) ≤ ((x4_1.length : Int) : Int) := of_decide_eq_true (by first | (with_reducible assumption) | assumption); obtain ⟨i063, hi063, _, hsz63, _⟩ := info_parts info5; have hroom63 : x4_1.length ≤ co64 := (Kd.V_reads' HO_4.out).2.1; have hC63 : Kd.F (Kd.int .u8) _ _ Ao64 x4_1.length x4_1 := (Kd.V_at (base := w.heap.size) HO_4.out).2.2; have hcut63 := cut_to (P := Try.prog) 50 5 .i64 Try.underlying50 hi063 Ao64 x4_1.length co64 ((rd_T41 t259 x80_1).f2) (of_decide_eq_true (by first | (with_reducible assumption) | assumption)) q63 hroom63; have hr63 := Kd.F_take (m := (((rd_T41 t259 x80_1).f2) : Int).toNat) hC63 (by omega); have hy63 : y266.length = (((rd_T41 t259 x80_1).f2) : Int).toNat := (by rw [Ny266.out, List.length_take]; omega)
                     rw [← Ny266.out] at hr63; rw [← hy63] at hcut63; have HO270 := Aside0.mk (show Kd.V (Kd.int .u8) 5 _ w.heap.size _ (.slice Ao64 y266.length co64) y266 from Kd.V_mk (by omega) hr63); have HC270 := Aside0.mk (show y266.length ≤ co64 from by omega); clear hr63 hC63 hroom63 hi063 hsz63; have KY63 := Aside0.mk hy63; clear hy63; replace q63 := eq_true q63; refine start_ (n := 23) (S := fun w' => w'.cell? ⟨gb263, 0, none⟩ = some (.int .i64 ((rd_T41 t259 x80_1).f0)) ∧ w'.cell? ⟨gb263, 1, none⟩ = some (.int .i64 ((rd_T41 t259 x80_1).f1)) ∧ w'.cell? ⟨gb263, 2, none⟩ = some (.int .i64 ((rd_T41 t259 x80_1).f2)) ∧ w'.cell? ⟨go20, (a2).toNat * 5, none⟩ = some (.int .i64 ((rd_T28 y258 a2).f0)) ∧ w'.cell? ⟨go20, (a2).toNat * 5 + 1, none⟩ = some (.int .i64 ((rd_T28 y258 a2).f1)) ∧ w'.cell? ⟨go20, (a2).toNat * 5 + 2, none⟩ = some (.int .i64 ((rd_T28 y258 a2).f2)) ∧ w'.cell? ⟨go20, (a2).toNat * 5 + 3, none⟩ = some (.slice (some ad265) ((rd_T28 y258 a2).f3).length c264_3) ∧ w'.cell? ⟨go20, (a2).toNat * 5 + 4, none⟩ = some (.slice A264_4 ((rd_T28 y258 a2).f4).length c264_4) ∧ w'.cell? (ad265.add (((rd_T41 t259 x80_1).f0)).toNat) = some (.int .i64 (rd ((rd_T28 y258 a2).f3) ((rd_T41 t259 x80_1).f0)))) (ds := [20, 21]) B15_16 (by kernel_rfl) rfl rfl ⟨(bC BK263.out 0).trans rfl, (bC BK263.out 1).trans rfl, (bC BK263.out 2).trans rfl, hx264_0, hx264_1, hx264_2, hx264_3, hx264_4, hx265_0⟩ (fun hHeld => ?_); refine with_tabW file_Write.tab16 file_Write.bits16 (fun HT_ HW_ => ?_); generalize w61.drew = w62 at HO_4 HO_15 HO_78 HO_256000 BK242 BK243 BK255 BK263 HB HL264_3 HL264_4 HO270 HR264_3 HR264_4 hx264_0 hx264_1 hx264_2 hx264_3 hx264_4 hx265_0 hHeld ⊢; refine pure_ (i := 0) (N := some 84) (v := ?_) (a' := ?_) B15_17 rfl rfl (any_of HT_.out (by kernel_rfl)) (fun _ _ _ h => h) (Or.inl ⟨by rfl, ?_⟩) ?_ ?_; rotate_left
                     ·
                      intro w'; go_simp; with_reducible rfl
                     rotate_left
                     ·
                      simp only [Act.put, lT, l0_, lS, i64_w, i32_w]; rfl
                     refine pure_ (i := 1) (N := some 85) (v := ?_) (a' := ?_) B15_18 rfl rfl (any_of HT_.out (by kernel_rfl)) (fun _ _ _ h => h) (Or.inl ⟨by rfl, ?_⟩) ?_ ?_; rotate_left
                     ·
                      intro w'; go_simp; with_reducible rfl
                     rotate_left
                     ·
                      simp only [Act.put, lT, l0_, lS, i64_w, i32_w]; rfl
                     refine pure_ (i := 2) (N := some 86) (v := ?_) (a' := ?_) B15_19 rfl rfl (any_of HT_.out (by kernel_rfl)) (fun _ _ _ h => h) (Or.inl ⟨by rfl, ?_⟩) ?_ ?_; rotate_left
                     ·
                      intro w'; go_simp; with_reducible rfl
                     rotate_left
                     ·
                      simp only [Act.put, lT, l0_, lS, i64_w, i32_w]; rfl
                     refine pure_ (i := 4) (N := some 88) (v := ?_) (a' := ?_) B15_20 rfl rfl (any_of HT_.out (by kernel_rfl)) (fun _ _ _ h => h) (Or.inl ⟨by rfl, ?_⟩) ?_ ?_; rotate_left
                     ·
                      intro w'; go_simp; with_reducible rfl
                     rotate_left
                     ·
                      simp only [Act.put, lT, l0_, lS, i64_w, i32_w]; rfl
                     refine pure_ (i := 5) (N := some 89) (v := ?_) (a' := ?_) B15_21 rfl rfl (any_of HT_.out (by kernel_rfl)) (fun _ _ _ h => h) (Or.inl ⟨by rfl, ?_⟩) ?_ ?_; rotate_left
                     ·
                      intro w'; go_simp; with_reducible rfl
                     rotate_left
                     ·
                      simp only [Act.put, lT, l0_, lS, i64_w, i32_w]; rfl
                     refine pure_ (i := 6) (N := some 90) (v := ?_) (a' := ?_) B15_22 rfl rfl (any_of HT_.out (by kernel_rfl)) (fun _ _ _ h => h) (Or.inl ⟨by rfl, ?_⟩) ?_ ?_; rotate_left
                     ·
                      intro w'; go_simp; with_reducible rfl
                     rotate_left
                     ·
                      simp only [Act.put, lT, l0_, lS, i64_w, i32_w]; rfl
                     refine pure_ (i := 8) (N := some 92) (v := ?_) (a' := ?_) B15_23 rfl rfl (any_of HT_.out (by kernel_rfl)) (fun _ _ _ h => h) (Or.inl ⟨by rfl, ?_⟩) ?_ ?_; rotate_left
                     ·
                      intro w'; go_simp; with_reducible rfl
                     rotate_left
                     ·
                      simp only [Act.put, lT, l0_, lS, i64_w, i32_w]; rfl
                     refine pure_ (i := 12) (N := some 96) (v := ?_) (a' := ?_) B15_24 rfl rfl (any_of HT_.out (by kernel_rfl)) (fun _ _ _ h => h) (Or.inl ⟨by rfl, ?_⟩) ?_ ?_; rotate_left
                     ·
                      intro w'; go_simp; with_reducible rfl
                     rotate_left
                     ·
                      simp only [Act.put, lT, l0_, lS, i64_w, i32_w]; rfl
                     refine pure_ (i := 14) (N := some 98) (v := ?_) (a' := ?_) B15_25 rfl rfl (any_of HT_.out (by kernel_rfl)) (fun _ _ _ h => h) (Or.inl ⟨by rfl, ?_⟩) ?_ ?_; rotate_left
                     ·
                      intro w'; go_simp; with_reducible rfl
                     rotate_left
                     ·
                      simp only [Act.put, lT, l0_, lS, i64_w, i32_w]; rfl
                     refine pure_ (i := 15) (N := some 99) (v := ?_) (a' := ?_) B15_26 rfl rfl (any_of HT_.out (by kernel_rfl)) (fun _ _ _ h => h) (Or.inl ⟨by rfl, ?_⟩) ?_ ?_; rotate_left
                     ·
                      intro w'; go_simp; with_reducible rfl
                     rotate_left
                     ·
                      simp only [Act.put, lT, l0_, lS, i64_w, i32_w]; rfl
                     refine take_ (i := 3) (N := some 87) (v := ?_) (a' := ?_) B15_27 rfl rfl (take_ofW HT_.out HW_.out (by kernel_rfl)) (fun _ _ _ h => h) (Or.inl ⟨by rfl, ?_⟩) hHeld ?_ ?_; rotate_left
                     ·
                      rintro w' ⟨s0, s1, s2, s3, s4, s5, s6, s7, s8⟩; go_simp; with_reducible rfl
                     rotate_left
                     ·
                      simp only [Act.put, lT, l0_, lS, i64_w, i32_w]; rfl
                     refine take_ (i := 7) (N := some 91) (v := ?_) (a' := ?_) B15_28 rfl rfl (take_ofW HT_.out HW_.out (by kernel_rfl)) (fun _ _ _ h => h) (Or.inl ⟨by rfl, ?_⟩) hHeld ?_ ?_; rotate_left
                     ·
                      rintro w' ⟨s0, s1, s2, s3, s4, s5, s6, s7, s8⟩; go_simp; with_reducible rfl
                     rotate_left
                     ·
                      simp only [Act.put, lT, l0_, lS, i64_w, i32_w]; rfl
                     refine take_ (i := 9) (N := some 93) (v := ?_) (a' := ?_) B15_29 rfl rfl (take_ofW HT_.out HW_.out (by kernel_rfl)) (fun _ _ _ h => h) (Or.inl ⟨by rfl, ?_⟩) hHeld ?_ ?_; rotate_left
                     ·
                      rintro w' ⟨s0, s1, s2, s3, s4, s5, s6, s7, s8⟩; go_simp; with_reducible rfl
                     rotate_left
                     ·
                      simp only [Act.put, lT, l0_, lS, i64_w, i32_w]; rfl
                     refine pure_ (i := 10) (N := some 94) (v := ?_) (a' := ?_) B15_30 rfl rfl (any_of HT_.out (by kernel_rfl)) (fun _ _ _ h => h) (Or.inl ⟨by rfl, ?_⟩) ?_ ?_; rotate_left
                     ·
                      intro w'; go_simp; with_reducible rfl
                     rotate_left
                     ·
                      simp only [Act.put, lT, l0_, lS, i64_w, i32_w]; rfl
                     refine take_ (i := 11) (N := some 95) (v := ?_) (a' := ?_) B15_31 rfl rfl (take_ofW HT_.out HW_.out (by kernel_rfl)) (fun _ _ _ h => h) (Or.inl ⟨by rfl, ?_⟩) hHeld ?_ ?_; rotate_left
                     ·
                      rintro w' ⟨s0, s1, s2, s3, s4, s5, s6, s7, s8⟩; go_simp; with_reducible rfl
                     rotate_left
                     ·
                      simp only [Act.put, lT, l0_, lS, i64_w, i32_w]; rfl
                     refine take_ (i := 13) (N := some 97) (v := ?_) (a' := ?_) B15_32 rfl rfl (take_ofW HT_.out HW_.out (by kernel_rfl)) (fun _ _ _ h => h) (Or.inl ⟨by rfl, ?_⟩) hHeld ?_ ?_; rotate_left
                     ·
                      rintro w' ⟨s0, s1, s2, s3, s4, s5, s6, s7, s8⟩; go_simp; with_reducible rfl
                     rotate_left
                     ·
                      simp only [Act.put, lT, l0_, lS, i64_w, i32_w]; rfl
                     refine take_ (i := 16) (N := some 100) (v := ?_) (a' := ?_) B15_33 rfl rfl (take_ofW HT_.out HW_.out (by kernel_rfl)) (fun _ _ _ h => h) (Or.inl ⟨by rfl, ?_⟩) hHeld ?_ ?_; rotate_left
                     ·
                      rintro w' ⟨s0, s1, s2, s3, s4, s5, s6, s7, s8⟩; go_simp; with_reducible rfl
                     rotate_left
                     ·
                      simp only [Act.put, lT, l0_, lS, i64_w, i32_w]; rfl
                     refine pure_ (i := 17) (N := some 101) (v := ?_) (a' := ?_) B15_34 rfl rfl (any_of HT_.out (by kernel_rfl)) (fun _ _ _ h => h) (Or.inl ⟨by rfl, ?_⟩) ?_ ?_; rotate_left
                     ·
                      intro w'; go_simp; with_reducible rfl
                     rotate_left
                     ·
                      simp only [Act.put, lT, l0_, lS, i64_w, i32_w]; rfl
                     refine one_ (i := 18) (N := some 102) B15_35 rfl rfl (one_of HT_.out (by kernel_rfl)) (by decide) (fun K hK => ?_); refine goes_ Try.func59 (by kernel_rfl) rfl #[.slice Ao64 y266.length co64] (by rfl) rfl rfl (by (try simp only [List.map_toArray, List.map_cons, List.map_nil]); first | done | rfl | (simp only [List.length_drop, List.length_take]; rfl)) ?_
                     with_reducible refine (slices_Clone_byte_byte.calls _ _ y266 t271 _ ?side1 ?side2 A52.out).mono ?_
                     (case side1 => repeat (first | exact (Kd.V_reads' HO270.out).2.2 | (with_reducible refine Kd.C_alloc ?_ _) | (with_reducible refine Kd.C_drewN ?_ _) | (with_reducible refine Kd.C_drew ?_)))
                     (case side2 => exact (Kd.V_reads' HO270.out).2.1)
                     rintro e w65 ⟨v272, rfl, ho0, hb⟩; have HS3_ := (hb.cell (World.block_lt_of_cell? _ _ (hHeld.2.2.2.1))).trans (hHeld.2.2.2.1); have HS4_ := (hb.cell (World.block_lt_of_cell? _ _ (hHeld.2.2.2.2.1))).trans (hHeld.2.2.2.2.1); have HS5_ := (hb.cell (World.block_lt_of_cell? _ _ (hHeld.2.2.2.2.2.1))).trans (hHeld.2.2.2.2.2.1); have HS6_ := (hb.cell (World.block_lt_of_cell? _ _ (hHeld.2.2.2.2.2.2.1))).trans (hHeld.2.2.2.2.2.2.1); have HS7_ := (hb.cell (World.block_lt_of_cell? _ _ (hHeld.2.2.2.2.2.2.2.1))).trans (hHeld.2.2.2.2.2.2.2.1); have HS8_ := (hb.cell (World.block_lt_of_cell? _ _ (hHeld.2.2.2.2.2.2.2.2))).trans (hHeld.2.2.2.2.2.2.2.2); refine ⟨_, rfl, ?_⟩; have n0_ := Aside0.mk (Kd.V_elder' (by (with_reducible repeat (first | apply Kd.V_alloc | apply Kd.V_drewN | apply Kd.V_drew)); exact HO_4.out) (Kd.R_base ho0) hb)
                     have n1_ := Aside0.mk (Kd.S_elder' (by (with_reducible repeat (first | apply Kd.S_alloc | apply Kd.S_drewN | apply Kd.S_drew)); exact HO_15.out) (Kd.R_base ho0) hb)
                     have n2_ := Aside0.mk (Kd.R_below (by (with_reducible repeat (first | apply Kd.R_alloc | apply Kd.R_drewN | apply Kd.R_drew)); exact HO_78.out) hb)
                     have n3_ := Aside0.mk (Kd.S_below (by (with_reducible repeat (first | apply Kd.S_alloc | apply Kd.S_drewN | apply Kd.S_drew)); exact HO_256000.out) hb)
                     have n4_ := Aside0.mk (Kd.R_below (by (with_reducible repeat (first | apply Kd.R_alloc | apply Kd.R_drewN | apply Kd.R_drew)); exact HL264_3.out) hb)
                     have n5_ := Aside0.mk (Kd.R_below (by (with_reducible repeat (first | apply Kd.R_alloc | apply Kd.R_drewN | apply Kd.R_drew)); exact HL264_4.out) hb)
                     have n6_ := Aside0.mk (Kd.V_elder' (by (with_reducible repeat (first | apply Kd.V_alloc | apply Kd.V_drewN | apply Kd.V_drew)); exact HO270.out) (Kd.R_base ho0) hb)
                     have n7_ := Aside0.mk (Kd.R_lower (Kd.R_newM (M := fun k_ => (w.heap.size ≤ k_)) ho0 (below_size (by repeat (first | (with_reducible first | exact HB.out | apply wA | apply wN | apply wD | refine wS ?_ GE242.out | refine wS ?_ GE243.out | refine wS ?_ GE255.out | refine wS ?_ GE263.out) | exact HB.out))) (fun k_ h_ => h_)) (below_size (by repeat (first | (with_reducible first | exact HB.out | apply wA | apply wN | apply wD | refine wS ?_ GE242.out | refine wS ?_ GE243.out | refine wS ?_ GE255.out | refine wS ?_ GE263.out) | exact HB.out)))); have n8_ := Aside0.mk (bB (g := gb242) (o := .cells #[.slice (some ad250) l0_0.length c0_0] 24 (0, 0)) (by (with_reducible repeat (first | refine bN ?_ _ | refine bD ?_ | refine bA ?_ _)); exact BK242.out) hb)
                     have n9_ := Aside0.mk (bB (g := gb243) (o := .cells #[.slice none 0 0] 24 (0, 0)) (by (with_reducible repeat (first | refine bN ?_ _ | refine bD ?_ | refine bA ?_ _)); exact BK243.out) hb)
                     have n10_ := Aside0.mk (bB (g := gb255) (o := .cells #[.slice (some ⟨go20, 0, none⟩) y258.length co33] 24 (0, 0)) (by (with_reducible repeat (first | refine bN ?_ _ | refine bD ?_ | refine bA ?_ _)); exact BK255.out) hb)
                     have n11_ := Aside0.mk (bB (g := gb263) (o := .cells #[.int .i64 ((rd_T41 t259 x80_1).f0), .int .i64 ((rd_T41 t259 x80_1).f1), .int .i64 ((rd_T41 t259 x80_1).f2)] 41 (0, 0)) (by (with_reducible repeat (first | refine bN ?_ _ | refine bD ?_ | refine bA ?_ _)); exact BK263.out) hb)
                     have n12_ := Aside0.mk (Kd.C_below (by repeat (first | (with_reducible exact HR264_3.out) | (with_reducible refine Kd.C_alloc ?_ _) | (with_reducible refine Kd.C_drewN ?_ _) | (with_reducible refine Kd.C_drew ?_) | exact HR264_3.out)) hb); have n13_ := Aside0.mk (Kd.C_below (by repeat (first | (with_reducible exact HR264_4.out) | (with_reducible refine Kd.C_alloc ?_ _) | (with_reducible refine Kd.C_drewN ?_ _) | (with_reducible refine Kd.C_drew ?_) | exact HR264_4.out)) hb); have n14_ := Aside0.mk (below_step (by repeat (first | (with_reducible first | exact HB.out | apply wA | apply wN | apply wD | refine wS ?_ GE242.out | refine wS ?_ GE243.out | refine wS ?_ GE255.out | refine wS ?_ GE263.out) | exact HB.out)) hb); clear HO_4; clear HO_15; clear HO_78; clear HO_256000; clear HL264_3; clear HL264_4; clear HO270; clear BK242; clear BK243; clear BK255; clear BK263; clear HR264_3; clear HR264_4; clear HB; have HO_4 := n0_; have HO_15 := n1_; have HO_78 := n2_; have HO_256000 := n3_; have HL264_3 := n4_; have HL264_4 := n5_; have HO270 := n6_; have HO273 := n7_; have BK242 := n8_; have BK243 := n9_; have BK255 := n10_; have BK263 := n11_; have HR264_3 := n12_; have HR264_4 := n13_; have HB := n14_; clear n0_ n1_ n2_ n3_ n4_ n5_ n6_ n7_ n8_ n9_ n10_ n11_ n12_ n13_ n14_
                     (try clear hb)
                     (try clear hb2)
                     (try clear hk)
                     (try clear hi)
                     (try clear ho0)
                     obtain ⟨Ao66, co66, eo66⟩ := Kd.R_slice HO273.out
                     (first | subst eo66 | (injection eo66 with f1_ f2_ f3_; have f4_ := f1_.symm; have f5_ := f3_.symm; clear f1_ f2_ f3_; subst f4_; subst f5_))
                     refine hK.out _ _ ⟨(bC BK263.out 0).trans rfl, (bC BK263.out 1).trans rfl, (bC BK263.out 2).trans rfl, HS3_, HS4_, HS5_, HS6_, HS7_, HS8_⟩ (fun hHeld => ?_); clear hK K; refine norm_ (a' := ?_) ?_ ?_; rotate_left
                     ·
                      show Act.put _ (some 102) _ = _
                      simp only [Act.put, lT, l0_, lS, i64_w, i32_w]; rfl
                     refine pure_ (i := 19) (N := some 103) (v := ?_) (a' := ?_) B15_36 rfl rfl (any_of HT_.out (by kernel_rfl)) (fun _ _ _ h => h) (Or.inl ⟨by rfl, ?_⟩) ?_ ?_; rotate_left
                     ·
                      intro w'; go_simp; with_reducible rfl
                     rotate_left
                     ·
                      simp only [Act.put, lT, l0_, lS, i64_w, i32_w]; rfl
                     refine last_ (i := 20) (N := some 104) B15_37 rfl rfl (one_of HT_.out (by kernel_rfl)) (by decide) (fun K hK => ?_); refine value_ (w1 := ?_) (v := ?_) (by rfl) rfl ?_ ?_; rotate_left 2
                     ·
                      go_simp
                      constructor
                      ·
                       rfl
                      ·
                       rfl
                     refine hK.out _ _ ?_; clear hK K; refine norm_ (a' := ?_) ?_ ?_; rotate_left
                     ·
                      show Act.put _ (some 104) _ = _
                      simp only [Act.put, lT, l0_, lS, i64_w, i32_w]; rfl
                     refine last_ (i := 21) (N := some 105) B15_38 rfl rfl (one_of HT_.out (by kernel_rfl)) (by decide) (fun K hK => ?_); refine Kd.S_append_step k60 (w0 := w) w.heap.size (by rfl) (.tmp 84) (.tmp 104) 51 60 (.agg #[(.int .i64 0), (.int .i64 0), (.int .i64 0), (.int .i64 0), (.int .i64 0), (.slice none 0 0)]) 64 rfl Try.underlying51 info60 rfl (by decide) (by omega) u15 x15_1 (⟨a2, (rd_T41 t259 x80_1).f0, rd ((rd_T28 y258 a2).f3) ((rd_T41 t259 x80_1).f0), 16, (rd_T41 t259 x80_1).f1, t271⟩ : S60) [.int .i64 a2, .int .i64 ((rd_T41 t259 x80_1).f0), .int .i64 (rd ((rd_T28 y258 a2).f3) ((rd_T41 t259 x80_1).f0)), .int .i64 16, .int .i64 ((rd_T41 t259 x80_1).f1), .slice Ao66 t271.length co66] (fun k_ => (w.heap.size ≤ k_)) (fun k_ => some k_ = (.slice Ao66 t271.length co66 : Value).ownBlock) rfl rfl ?aP (fun k_ hk_ => ((Kd.R_mono (ok' := fun k_ => ((fun k_ => (w.heap.size ≤ k_))) k_ ∧ some k_ ≠ (u15 : Value).ownBlock) (Kd.R_apart' (HO273.out) (Kd.S_typed HO_15.out) (by decide)) (fun k_ hk => by first | exact ⟨hk.1.1, hk.2⟩ | (go_split_ands; and_intros <;> assumption)))).1 k_ hk_.symm) ?aF ?aO ?aB ?aS ?aL ?_
                     (case aP => exact k60_mkM _ _ _ (⟨a2, (rd_T41 t259 x80_1).f0, rd ((rd_T28 y258 a2).f3) ((rd_T41 t259 x80_1).f0), 16, (rd_T41 t259 x80_1).f1, t271⟩ : S60) (Kd.R_mono (Kd.R_tight rfl (Kd.R_mono (ok' := fun k_ => ((fun k_ => (w.heap.size ≤ k_))) k_ ∧ some k_ ≠ (u15 : Value).ownBlock) (Kd.R_apart' (HO273.out) (Kd.S_typed HO_15.out) (by decide)) (fun k_ hk => by first | exact ⟨hk.1.1, hk.2⟩ | (go_split_ands; and_intros <;> assumption)))) (fun _ h_ => h_)))
                     (case aB => exact (by repeat (first | (with_reducible first | exact HB.out | apply wA | apply wN | apply wD | refine wS ?_ GE242.out | refine wS ?_ GE243.out | refine wS ?_ GE255.out | refine wS ?_ GE263.out) | exact HB.out)))
                     (case aF => exact (fun k_ hk => (Nat.le_trans (below_size (by repeat (first | (with_reducible first | exact HB.out | apply wA | apply wN | apply wD | refine wS ?_ GE242.out | refine wS ?_ GE243.out | refine wS ?_ GE255.out | refine wS ?_ GE263.out) | exact HB.out))) hk)))
                     (case aO => exact (by (with_reducible repeat (first | apply Kd.S_alloc | apply Kd.S_drewN | apply Kd.S_drew)); exact Kd.S_mono HO_15.out (fun k_ hk => ⟨hk.1, fun e_ => hk.2 e_⟩)))
                     (case aS => exact (below_size (by repeat (first | (with_reducible first | exact HB.out | apply wA | apply wN | apply wD | refine wS ?_ GE242.out | refine wS ?_ GE243.out | refine wS ?_ GE255.out | refine wS ?_ GE263.out) | exact HB.out))))
                     (case aL => have := LMc53.out; omega)
                     intro v275 w67 ho hb hg hat; rw [← Ny274.out] at ho; have n0_ := Aside0.mk (Kd.V_afterv (ok := (fun k_ => (P4_ k_ ∨ w.heap.size ≤ k_) ∧ some k_ ≠ (.slice (some ad262) t259.length co42 : Value).ownBlock ∧ some k_ ≠ (.slice (some ⟨go20, 0, none⟩) y258.length co33 : Value).ownBlock ∧ some k_ ≠ (.slice Ao66 t271.length co66 : Value).ownBlock ∧ k_ ≠ gb242 ∧ k_ ≠ gb243 ∧ k_ ≠ gb255 ∧ k_ ≠ gb263)) (by (with_reducible repeat (first | apply Kd.V_alloc | apply Kd.V_drewN | apply Kd.V_drew)); exact Kd.V_mono HO_4.out (fun _ hk => by first | exact ⟨⟨hk.1.1, ⟨hk.1.2.2.1, ⟨hk.1.2.2.2.1, ⟨hk.2, ⟨hk.1.2.2.2.2.1, ⟨hk.1.2.2.2.2.2.1, ⟨hk.1.2.2.2.2.2.2.1, hk.1.2.2.2.2.2.2.2⟩⟩⟩⟩⟩⟩⟩, hk.1.2.1⟩ | (go_split_ands; and_intros <;> assumption))) hg hat)
                     have n1_ := Aside0.mk (Kd.R_over' (by (with_reducible repeat (first | apply Kd.R_alloc | apply Kd.R_drewN | apply Kd.R_drew)); exact HO_78.out) (Kd.S_typed (by (with_reducible repeat (first | apply Kd.S_alloc | apply Kd.S_drewN | apply Kd.S_drew)); exact HO_15.out)) (by decide) hg)
                     have n2_ := Aside0.mk (Kd.S_over' (by (with_reducible repeat (first | apply Kd.S_alloc | apply Kd.S_drewN | apply Kd.S_drew)); exact HO_256000.out) (Kd.S_typed (by (with_reducible repeat (first | apply Kd.S_alloc | apply Kd.S_drewN | apply Kd.S_drew)); exact HO_15.out)) (by decide) hg)
                     have n3_ := Aside0.mk (blk_grown (g := gb242) (o := .cells #[.slice (some ad250) l0_0.length c0_0] 24 (0, 0)) (by (with_reducible repeat (first | refine bN ?_ _ | refine bD ?_ | refine bA ?_ _)); exact BK242.out) hg (Kd.S_ne HO_15.out BK242.out (by decide)))
                     have n4_ := Aside0.mk (blk_grown (g := gb243) (o := .cells #[.slice none 0 0] 24 (0, 0)) (by (with_reducible repeat (first | refine bN ?_ _ | refine bD ?_ | refine bA ?_ _)); exact BK243.out) hg (Kd.S_ne HO_15.out BK243.out (by decide)))
                     have n5_ := Aside0.mk (blk_grown (g := gb255) (o := .cells #[.slice (some ⟨go20, 0, none⟩) y258.length co33] 24 (0, 0)) (by (with_reducible repeat (first | refine bN ?_ _ | refine bD ?_ | refine bA ?_ _)); exact BK255.out) hg (Kd.S_ne HO_15.out BK255.out (by decide)))
                     have n6_ := Aside0.mk (blk_grown (g := gb263) (o := .cells #[.int .i64 ((rd_T41 t259 x80_1).f0), .int .i64 ((rd_T41 t259 x80_1).f1), .int .i64 ((rd_T41 t259 x80_1).f2)] 41 (0, 0)) (by (with_reducible repeat (first | refine bN ?_ _ | refine bD ?_ | refine bA ?_ _)); exact BK263.out) hg (Kd.S_ne HO_15.out BK263.out (by decide)))
                     have n7_ := Aside0.mk (Kd.R_over' (by (with_reducible repeat (first | apply Kd.R_alloc | apply Kd.R_drewN | apply Kd.R_drew)); exact HL264_3.out) (Kd.S_typed (by (with_reducible repeat (first | apply Kd.S_alloc | apply Kd.S_drewN | apply Kd.S_drew)); exact HO_15.out)) (by decide) hg)
                     have n8_ := Aside0.mk (Kd.R_over' (by (with_reducible repeat (first | apply Kd.R_alloc | apply Kd.R_drewN | apply Kd.R_drew)); exact HL264_4.out) (Kd.S_typed (by (with_reducible repeat (first | apply Kd.S_alloc | apply Kd.S_drewN | apply Kd.S_drew)); exact HO_15.out)) (by decide) hg)
                     have n9_ := Aside0.mk (Kd.V_afterv (ok := (fun k_ => (P4_ k_ ∨ w.heap.size ≤ k_) ∧ some k_ ≠ (.slice (some ad262) t259.length co42 : Value).ownBlock ∧ some k_ ≠ (.slice (some ⟨go20, 0, none⟩) y258.length co33 : Value).ownBlock ∧ some k_ ≠ (.slice Ao66 t271.length co66 : Value).ownBlock ∧ k_ ≠ gb242 ∧ k_ ≠ gb243 ∧ k_ ≠ gb255 ∧ k_ ≠ gb263)) (by (with_reducible repeat (first | apply Kd.V_alloc | apply Kd.V_drewN | apply Kd.V_drew)); exact Kd.V_mono HO270.out (fun _ hk => by first | exact ⟨⟨hk.1.1, ⟨hk.1.2.2.1, ⟨hk.1.2.2.2.1, ⟨hk.2, ⟨hk.1.2.2.2.2.1, ⟨hk.1.2.2.2.2.2.1, ⟨hk.1.2.2.2.2.2.2.1, hk.1.2.2.2.2.2.2.2⟩⟩⟩⟩⟩⟩⟩, hk.1.2.1⟩ | (go_split_ands; and_intros <;> assumption))) hg hat)
                     have n10_ := Aside0.mk (hb); have n11_ := Aside0.mk (ho); clear HO_4; clear HO_78; clear HO_256000; clear BK242; clear BK243; clear BK255; clear BK263; clear HL264_3; clear HL264_4; clear HO270; clear HB; clear HO_15; clear HO273; have HO_4 := n0_; have HO_78 := n1_; have HO_256000 := n2_; have BK242 := n3_; have BK243 := n4_; have BK255 := n5_; have BK263 := n6_; have HL264_3 := n7_; have HL264_4 := n8_; have HO270 := n9_; have HB := n10_; have HO276 := n11_; clear n0_ n1_ n2_ n3_ n4_ n5_ n6_ n7_ n8_ n9_ n10_ n11_; clear ho hb hg hat; refine hK.out _ _ ?_; clear hK K; refine norm_ (a' := ?_) ?_ ?_; rotate_left
                     ·
                      show Act.put _ (some 105) _ = _
                      simp only [Act.put, lT, l0_, lS, i64_w, i32_w]; rfl
                     refine pure_ (i := 22) (N := some 15) (v := ?_) (a' := ?_) B15_39 rfl rfl (any_of HT_.out (by kernel_rfl)) (fun _ _ _ h => h) (Or.inl ⟨by rfl, ?_⟩) ?_ ?_; rotate_left
                     ·
                      intro w'; go_simp; with_reducible rfl
                     rotate_left
                     ·
                      simp only [Act.put, lT, l0_, lS, i64_w, i32_w]; rfl
                     refine done_ (done_of HT_.out (by kernel_rfl)) ?_; have hcz68_0 : w67.cell? ⟨gb263, 0, none⟩ = some (.int .i64 ((rd_T41 t259 x80_1).f0)) := (bC BK263.out 0).trans rfl; have hcz68_1 : w67.cell? ⟨gb263, 1, none⟩ = some (.int .i64 ((rd_T41 t259 x80_1).f1)) := (bC BK263.out 1).trans rfl; have hcz68_2 : w67.cell? ⟨gb263, 2, none⟩ = some (.int .i64 ((rd_T41 t259 x80_1).f2)) := (bC BK263.out 2).trans rfl; have hfz68_0 := bZ BK263.out 0; have hfz68_1 := bZ BK263.out 1; have hfz68_2 := bZ BK263.out 2; have q69 : (((rd_T41 t259 x80_1).f2) : Int) ≤ ((x4_1.length : Int) : Int) := of_decide_eq_true (by first | (with_reducible assumption) | assumption); obtain ⟨i069, hi069, _, hsz69, _⟩ := info_parts info5; have hroom69 : x4_1.length ≤ co64 := (Kd.V_reads' HO_4.out).2.1; have hC69 : Kd.F (Kd.int .u8) _ _ Ao64 x4_1.length x4_1 := (Kd.V_at (base := w.heap.size) HO_4.out).2.2; have q069 : (0 : Int) ≤ (((rd_T41 t259 x80_1).f2) : Int) := of_decide_eq_true (by first | (with_reducible assumption) | assumption); have hcut69 := cut_from (P := Try.prog) 50 5 .i64 Try.underlying50 hi069 1 hsz69 Ao64 x4_1.length co64 ((rd_T41 t259 x80_1).f2) q069 q69; have hr69 := Kd.F_cut (m := (((rd_T41 t259 x80_1).f2) : Int).toNat) (c := co64) hC69 (by omega) hroom69; obtain ⟨A69, hA69⟩ : ∃ A1, A1 = (if co64 = (((rd_T41 t259 x80_1).f2) : Int).toNat then Ao64 else (Ao64 : Option Addr).map (·.add ((((rd_T41 t259 x80_1).f2) : Int).toNat * 1))) := ⟨_, rfl⟩; obtain ⟨c69, hc69⟩ : ∃ c1, c1 = co64 - (((rd_T41 t259 x80_1).f2) : Int).toNat := ⟨_, rfl⟩; have hy69 : y277.length = x4_1.length - (((rd_T41 t259 x80_1).f2) : Int).toNat := (by rw [Ny277.out, List.length_drop] <;> omega); rw [show (x4_1).drop (((rd_T41 t259 x80_1).f2) : Int).toNat = y277 from Ny277.out.symm] at hr69; replace hr69 : Kd.F (Kd.int .u8) _ _ A69 y277.length y277 := (by rw [hA69]; exact hr69)
                     rw [← hy69, ← hA69, ← hc69] at hcut69; have HO281 := Aside0.mk (show Kd.V (Kd.int .u8) 5 _ w.heap.size _ (.slice A69 y277.length c69) y277 from Kd.V_mk (by rw [hy69, hc69]; exact Nat.sub_le_sub_right hroom69 _) hr69)
                     have HC281 := Aside0.mk (show y277.length ≤ c69 from by rw [hy69, hc69]; exact Nat.sub_le_sub_right hroom69 _)
                     clear hr69 hC69 hroom69 hi069 hsz69 hc69; have KY69 := Aside0.mk hy69; have KA69 := Aside0.mk hA69; clear hy69 hA69; replace q69 := eq_true q69
                     try go_wp2
                     (try simp only [← hl256000_1])
                     go_roundg k1
                     case measure => have := HK1.out; omega
                     case rel => exact ⟨(y277), (y274), (wrap64 (x80_1 + 1)), (by first | rfl | (simp; done) | (simp [*]; done)), H', ⟨by have := HK1.out; omega⟩, ⟨by (try simp only [hl256000_1]); (with_reducible repeat (first | apply Kd.V_alloc | apply Kd.V_drewN | apply Kd.V_drew)); exact Kd.V_mono HO281.out (fun _ hk => by first | exact ⟨hk.1.1, ⟨hk.2, ⟨hk.1.2.1, ⟨hk.1.2.2.1, ⟨hk.1.2.2.2.2.1, ⟨hk.1.2.2.2.2.2.1, hk.1.2.2.2.2.2.2.1⟩⟩⟩⟩⟩⟩ | (go_split_ands; and_intros <;> assumption))⟩, ⟨by (try simp only [hl256000_1]); (with_reducible repeat (first | apply Kd.S_alloc | apply Kd.S_drewN | apply Kd.S_drew)); exact HO276.out⟩, ⟨by (try simp only [hl256000_1]); (with_reducible repeat (first | apply Kd.R_alloc | apply Kd.R_drewN | apply Kd.R_drew)); exact Kd.R_mono HO_78.out (fun _ hk => hk.1)⟩, ⟨by (try simp only [hl256000_1]); (with_reducible repeat (first | apply Kd.S_alloc | apply Kd.S_drewN | apply Kd.S_drew)); exact HO_256000.out⟩, ⟨by (try simp only [hl256000_1]); (with_reducible repeat (first | refine bN ?_ _ | refine bD ?_ | refine bA ?_ _)); exact BK242.out⟩, ⟨by (try simp only [hl256000_1]); (with_reducible repeat (first | refine bN ?_ _ | refine bD ?_ | refine bA ?_ _)); exact BK243.out⟩, ⟨by (try simp only [hl256000_1]); (with_reducible repeat (first | refine bN ?_ _ | refine bD ?_ | refine bA ?_ _)); exact BK255.out⟩, ⟨by repeat (first | (with_reducible first | exact HB.out | apply wA | apply wN | apply wD | refine wS ?_ GE242.out | refine wS ?_ GE243.out | refine wS ?_ GE255.out | refine wS ?_ GE263.out) | exact HB.out)⟩⟩
                    ·
                     rw [if_neg c53] at H; exact absurd H (by simp)
                   ·
                    rw [if_neg c51] at H; exact absurd H (by simp)
                  ·
                   rw [if_neg c50] at H; exact absurd H (by simp)
                 ·
                  rw [if_neg c49] at H; exact absurd H (by simp)
                ·
                 rw [if_neg c48] at H; exact absurd H (by simp)
               ·
                rw [if_neg c47] at H; exact absurd H (by simp)
              ·
               rw [if_neg c46] at H; exact absurd H (by simp)
             ·
              rw [if_neg c45] at H; exact absurd H (by simp)
            ·
             rw [if_neg c44] at H; exact absurd H (by simp)
           ·
            rw [if_neg c43] at H; have c43b0 : decide (x80_1 < (t259.length : Int)) = false := decide_eq_false c43; clear c43; simp only [Option.some.injEq, Prod.mk.injEq] at H; obtain ⟨rfl, rfl, rfl⟩ := H; have hnb70 := NB255_242.out; have hnc70 := NB242_255.out; have hnb71 := NB255_243.out; have hnc71 := NB243_255.out; have hcz72_0 : wr.cell? ⟨gb255, 0, none⟩ = some (.slice (some ⟨go20, 0, none⟩) y258.length co33) := (bC BK255.out 0).trans rfl; have hfz72_0 := bZ BK255.out 0; have hnb73 := NB243_242.out; have hnc73 := NB242_243.out; have hcz74_0 : wr.cell? ⟨gb243, 0, none⟩ = some (.slice none 0 0) := (bC BK243.out 0).trans rfl; have hfz74_0 := bZ BK243.out 0
            go_wp2
            refine bodyPost_ret (results_ctt rfl _ _ gb243 24 #[.slice (some ⟨go20, 0, none⟩) y258.length co33] (0, 0) _ rfl (by (with_reducible repeat (first | refine bN ?_ _ | refine bD ?_ | refine bA ?_ _)); refine blk_put (cs := #[.slice none 0 0]) ?_ 0 _ rfl; (with_reducible repeat (first | refine bN ?_ _ | refine bD ?_ | refine bA ?_ _)); exact BK243.out) Try.underlying24 rfl (by kernel_rfl)) rfl ?_
            exact ⟨_, _, by first | rfl | exact congrArg (fun b_ => Ending.returned (Value.bool b_)) HRET.out | (rw [HRET.out]) | (simp [errW_none, errW_some] <;> rfl) | (simp only [← hji19]; first | rfl | (simp [errW_none, errW_some] <;> rfl)) | (simp [*, errW_none, errW_some] <;> rfl), by (with_reducible repeat (first | apply Kd.S_alloc | apply Kd.S_drewN | apply Kd.S_drew)); exact Kd.S_mono (Kd.S_far (p := ⟨gb243, 0, none⟩) (Kd.S_types HO_256000.out BK243.out (by decide)) (fun _ hk => hk.2) (.slice (some ⟨go20, 0, none⟩) y258.length co33)) (fun _ hk => hk.1), by (with_reducible repeat (first | apply Kd.S_alloc | apply Kd.S_drewN | apply Kd.S_drew)); exact Kd.S_mono (Kd.S_far (p := ⟨gb243, 0, none⟩) (Kd.S_types HO_15.out BK243.out (by decide)) (fun _ hk => hk.2) (.slice (some ⟨go20, 0, none⟩) y258.length co33)) (fun _ hk => hk.1), by repeat (first | (with_reducible first | exact HB.out | apply wA | apply wN | apply wD | refine wS ?_ GE242.out | refine wS ?_ GE243.out | refine wS ?_ GE255.out) | exact HB.out)⟩
        ·
         rw [if_neg c18] at H; exact absurd H (by simp)
      ·
       rw [if_neg c14] at H; exact absurd H (by simp)
     ·
      rw [if_neg c13] at H; exact absurd H (by simp)
    ·
     replace c11 := Bool.eq_false_iff.mpr c11; subst c11
     have H1 : (none) = some (r1, r2, r3) := by rw [if_neg (show ¬ (false = true) by decide)] at H; exact H
     clear H; have H := H1; clear H1; exact absurd H (by simp)
 ·
  replace c7 := Bool.eq_false_iff.mpr c7; subst c7
  have H1 : (none) = some (r1, r2, r3) := by rw [if_neg (show ¬ (false = true) by decide)] at H; exact H
  clear H; have H := H1; clear H1; exact absurd H (by simp)
end Go.Proofs.Ytkigiehkckjlhaa.PMakes
