/- The Go functions that these laws reach, each as a Lean function with the same answers (a law itself where it answers true), and the proof that the code comes to them; conditions: those of each theorem. Laid by a program of this session over the print. -/
import Derived.Test.YtkigiehkckjlhaaZMakesPMakesx0
import Derived.Test.YtkigiehkckjlhaaZMakesPMakesx7
import Derived.Test.YtkigiehkckjlhaaZMakesPMakesx20
namespace Go.Proofs.Ytkigiehkckjlhaa.PMakes
open Go.RowKit Go.Proofs.YtkigiehkckjlhaaW.PrintWords Go.Proofs.YtkigiehkckjlhaaW.PrintLast Go.Proofs.YtkigiehkckjlhaaW.PrintMore
attribute [local go_sem] max2_int min2_int max_two min_two max_three min_three max_four min_four   -- for this text's walks alone
set_option linter.unusedVariables false
set_option linter.unusedSimpArgs false
open Go.Proofs.YtkigiehkckjlhaaW.PrintWords renaming blk_drewN → bN, blk_drew → bD, blk_alloc → bA, below_set → wS, below_alloc → wA, pw_below_drewN → wN, below_drew1 → wD, blk_below → bB, blk_far → bF, blk_cell → bC, blk_frozen → bZ
open List renaming setIfInBounds_toArray → lT, set_cons_zero → l0_, set_cons_succ → lS
abbrev B22_0 : Array Bool := #[false, false, false, false, false, false, false, false, false, false, false, false, false, false, false]
abbrev B22_1 : Array Bool := #[true, false, false, false, false, false, false, false, false, false, false, false, false, false, false]
abbrev B22_2 : Array Bool := #[true, true, false, false, false, false, false, false, false, false, false, false, false, false, false]
abbrev B22_3 : Array Bool := #[true, true, true, false, false, false, false, false, false, false, false, false, false, false, false]
abbrev B22_4 : Array Bool := #[true, true, true, false, true, false, false, false, false, false, false, false, false, false, false]
abbrev B22_5 : Array Bool := #[true, true, true, false, true, true, false, false, false, false, false, false, false, false, false]
abbrev B22_6 : Array Bool := #[true, true, true, false, true, true, true, false, false, false, false, false, false, false, false]
abbrev B22_7 : Array Bool := #[true, true, true, false, true, true, true, false, false, true, false, false, false, false, false]
abbrev B22_8 : Array Bool := #[true, true, true, false, true, true, true, false, false, true, true, false, false, false, false]
abbrev B22_9 : Array Bool := #[true, true, true, false, true, true, true, false, false, true, true, true, false, false, false]
abbrev B22_10 : Array Bool := #[true, true, true, true, true, true, true, true, false, true, true, true, false, false, false]
abbrev B22_11 : Array Bool := #[true, true, true, true, true, true, true, false, false, true, true, true, false, false, false]
abbrev B22_12 : Array Bool := #[true, true, true, false, true, true, true, true, false, true, true, true, false, false, false]
abbrev B22_13 : Array Bool := #[true, true, true, true, true, true, true, true, true, true, true, true, false, false, false]
abbrev B22_14 : Array Bool := #[true, true, true, true, true, true, true, true, true, true, true, true, true, false, false]
abbrev B22_15 : Array Bool := #[true, true, true, true, true, true, true, true, true, true, true, true, true, true, false]
abbrev B22_16 : Array Bool := #[true, true, true, true, true, true, true, true, true, true, true, true, true, true, true]
def potsherdref12_With.l0 : Nat → List (S78) → ByteArray → Int → Int → Option ((List (S78)) × Int)
 | 0, _, _, _, _ => none
 | k + 1, x0, x1, x2, x8 => if x8 < (x0.length : Int) then (none) else (if 0 ≤ x8 then (if x8 ≤ (x0.length : Int) then ((some (x0.take (x8 : Int).toNat : List (S78))).bind fun y411 => (if ([] : List (S78)).length + y411.length < 5864062014805 then ((some (([] : List (S78)) ++ y411 : List (S78))).bind fun y415 => ((some (([(⟨x1, x2⟩ : S78)] : List (S78)) : List (S78))).bind fun y418 => (if y415.length + y418.length < 5864062014805 then ((some (y415 ++ y418 : List (S78))).bind fun y421 => ((some (x0.drop (x8 : Int).toNat : List (S78))).bind fun y424 => (if y421.length + y424.length < 5864062014805 then (some ((y421 ++ y424), 0)) else (none)))) else (none)))) else (none))) else (none)) else (none))
def potsherdref12_With.f (k : Nat) (l0 : List (S78)) (a1 : ByteArray) (a2 : Int) : Option ((List (S78)) × Int) := (potsherdref12_MayEntries.f k l0).bind fun t387 => (if t387 = true then ((potsherdref12_Name.f k a1).bind fun t388 => (if t388 = true then (if a2 < 1 then (none) else (if a2 ≥ 12 then (none) else ((potsherdref12_At.f k l0 a1).bind fun t389 => (if t389 ≥ 0 then (none) else (if (l0.length : Int) ≥ 10 then (none) else (potsherdref12_With.l0 k l0 a1 a2 0)))))) else (none))) else (none))
theorem potsherdref12_With.mono_l : ∀ k, (∀ y0 y1 y2 y3, LeO (potsherdref12_With.l0 k y0 y1 y2 y3) (potsherdref12_With.l0 (k + 1) y0 y1 y2 y3))
 | 0 => fun _ _ _ _ r h => by simp [potsherdref12_With.l0] at h
 | k + 1 => by
  have ih0 := potsherdref12_With.mono_l k
  ·
   intro y0 y1 y2 y3
   unfold potsherdref12_With.l0
   repeat' first
   | (with_reducible exact ih0 _ _ _ _)
   | (with_reducible exact potsherdref12_At.mono _ _ _)
   | (with_reducible exact potsherdref12_MayEntries.mono _ _)
   | (with_reducible exact potsherdref12_Name.mono _ _)
   | (with_reducible exact LeO.refl _)
   | (with_reducible exact LeO.none _)
   | (with_reducible refine LeO.ite ?_ ?_)
   | (with_reducible refine LeO.bind ?_ (fun _ => ?_))
   | exact ih0 _ _ _ _
   | exact potsherdref12_At.mono _ _ _
   | exact potsherdref12_MayEntries.mono _ _
   | exact potsherdref12_Name.mono _ _
   | exact LeO.none _
   | refine LeO.ite ?_ ?_
   | refine LeO.bind ?_ (fun _ => ?_)
theorem potsherdref12_With.mono : ∀ a0 a1 a2 k, LeO (potsherdref12_With.f k a0 a1 a2) (potsherdref12_With.f (k + 1) a0 a1 a2) := by
 intro a0 a1 a2 k; have ih0 := potsherdref12_With.mono_l k
 unfold potsherdref12_With.f
 repeat' first
  | (with_reducible exact ih0 _ _ _ _)
  | (with_reducible exact potsherdref12_At.mono _ _ _)
  | (with_reducible exact potsherdref12_MayEntries.mono _ _)
  | (with_reducible exact potsherdref12_Name.mono _ _)
  | (with_reducible exact LeO.refl _)
  | (with_reducible exact LeO.none _)
  | (with_reducible refine LeO.ite ?_ ?_)
  | (with_reducible refine LeO.bind ?_ (fun _ => ?_))
  | exact ih0 _ _ _ _
  | exact potsherdref12_At.mono _ _ _
  | exact potsherdref12_MayEntries.mono _ _
  | exact potsherdref12_Name.mono _ _
  | exact LeO.none _
  | refine LeO.ite ?_ ?_
  | refine LeO.bind ?_ (fun _ => ?_)
def potsherdref12_With.T10 : Bool × List (List Nat × List Nat) := (true, [([], []), ([], []), ([0, 1], [0, 1]), ([2], [2]), ([], []), ([], []), ([4, 5], [4, 5]), ([6], [6]), ([3, 7, 3], [3, 7]), ([], []), ([], []), ([9, 10], [9, 10]), ([8, 11, 8], [8, 11]), ([12, 12, 0, 1, 2, 3, 4, 5, 6, 7, 8, 9, 10, 11, 12], [12]), ([13, 0, 1, 2, 3, 4, 5, 6, 7, 8, 9, 10, 11, 12, 13], [])])
def potsherdref12_With.B10 : List Nat := [0, 0, 3, 7, 0, 0, 48, 112, 255, 0, 0, 1536, 4095, 8191, 16383]
theorem potsherdref12_With.tab10 : rtab .any (opsOf Try.f88 10) = potsherdref12_With.T10 := by kernel_rfl
theorem potsherdref12_With.bits10 : waitsOk potsherdref12_With.T10.2 potsherdref12_With.B10 = true := by kernel_rfl
set_option maxHeartbeats 8000000 in
set_option maxRecDepth 100000 in
theorem potsherdref12_With.calls (k : Nat) (A0 : Option Addr) (c0 : Nat) (l0 : List (S78)) (a1 : ByteArray) (a2 : Int) (r1 : List (S78)) (r2 : Int) (w : World) (hr0 : Kd.C k78 w A0 l0.length l0) (hc0 : l0.length ≤ c0) (h : potsherdref12_With.f k l0 a1 a2 = some (r1, r2)) :
 Calls Try.prog 88 #[.slice A0 l0.length c0, .string a1, .int .i64 a2] w fun e w' => ∃ v0_ : Value, e = .returned (.tuple #[v0_, .int .i64 r2]) ∧ Kd.R k78 78 w' w.heap.size (fun _ => True) v0_ r1 ∧ Below w.heap.size w w' := by
 have hu78 := Try.underlying78; have HR0 := Aside0.mk hr0; have HC0 := Aside0.mk hc0; clear hr0 hc0; have HB := Aside0.mk (Below.refl w.heap.size w); have H : ((potsherdref12_MayEntries.f k l0).bind fun t387 => (if t387 = true then ((potsherdref12_Name.f k a1).bind fun t388 => (if t388 = true then (if a2 < 1 then (none) else (if a2 ≥ 12 then (none) else ((potsherdref12_At.f k l0 a1).bind fun t389 => (if t389 ≥ 0 then (none) else (if (l0.length : Int) ≥ 10 then (none) else (potsherdref12_With.l0 k l0 a1 a2 0)))))) else (none))) else (none))) = some (r1, r2) := h; clear h; replace H := Option.bind_eq_some_iff.mp H; obtain ⟨t387, A40, H⟩ := H; replace H : (if t387 = true then ((potsherdref12_Name.f k a1).bind fun t388 => (if t388 = true then (if a2 < 1 then (none) else (if a2 ≥ 12 then (none) else ((potsherdref12_At.f k l0 a1).bind fun t389 => (if t389 ≥ 0 then (none) else (if (l0.length : Int) ≥ 10 then (none) else (potsherdref12_With.l0 k l0 a1 a2 0)))))) else (none))) else (none)) = some (r1, r2) := H; have A4 := Aside0.mk A40; clear A40
 by_cases c5 : t387 = true
 ·
  subst c5
  have H1 : ((potsherdref12_Name.f k a1).bind fun t388 => (if t388 = true then (if a2 < 1 then (none) else (if a2 ≥ 12 then (none) else ((potsherdref12_At.f k l0 a1).bind fun t389 => (if t389 ≥ 0 then (none) else (if (l0.length : Int) ≥ 10 then (none) else (potsherdref12_With.l0 k l0 a1 a2 0)))))) else (none))) = some (r1, r2) := by rw [if_pos rfl] at H; exact H
  clear H; have H := H1; clear H1; replace H := Option.bind_eq_some_iff.mp H; obtain ⟨t388, A60, H⟩ := H; replace H : (if t388 = true then (if a2 < 1 then (none) else (if a2 ≥ 12 then (none) else ((potsherdref12_At.f k l0 a1).bind fun t389 => (if t389 ≥ 0 then (none) else (if (l0.length : Int) ≥ 10 then (none) else (potsherdref12_With.l0 k l0 a1 a2 0)))))) else (none)) = some (r1, r2) := H; have A6 := Aside0.mk A60; clear A60
  by_cases c7 : t388 = true
  ·
   subst c7
   have H1 : (if a2 < 1 then (none) else (if a2 ≥ 12 then (none) else ((potsherdref12_At.f k l0 a1).bind fun t389 => (if t389 ≥ 0 then (none) else (if (l0.length : Int) ≥ 10 then (none) else (potsherdref12_With.l0 k l0 a1 a2 0)))))) = some (r1, r2) := by rw [if_pos rfl] at H; exact H
   clear H; have H := H1; clear H1
   by_cases c8 : a2 < 1
   ·
    rw [if_pos c8] at H; exact absurd H (by simp)
   ·
    rw [if_neg c8] at H; have c8b0 : decide (a2 < 1) = false := decide_eq_false c8; clear c8
    by_cases c9 : a2 ≥ 12
    ·
     rw [if_pos c9] at H; exact absurd H (by simp)
    ·
     rw [if_neg c9] at H; have c9b0 : decide (12 ≤ a2) = false := decide_eq_false c9; clear c9; replace H := Option.bind_eq_some_iff.mp H; obtain ⟨t389, A100, H⟩ := H; replace H : (if t389 ≥ 0 then (none) else (if (l0.length : Int) ≥ 10 then (none) else (potsherdref12_With.l0 k l0 a1 a2 0))) = some (r1, r2) := H; have A10 := Aside0.mk A100; clear A100
     by_cases c11 : t389 ≥ 0
     ·
      rw [if_pos c11] at H; exact absurd H (by simp)
     ·
      rw [if_neg c11] at H; have c11b0 : decide (0 ≤ t389) = false := decide_eq_false c11; clear c11
      by_cases c12 : (l0.length : Int) ≥ 10
      ·
       rw [if_pos c12] at H; exact absurd H (by simp)
      ·
       rw [if_neg c12] at H; have c12b0 : decide (10 ≤ (l0.length : Int)) = false := decide_eq_false c12; have c12b1 : decide (10 ≤ l0.length) = false := decide_eq_false (by omega); clear c12; have H' := Aside0.mk H; clear H
       go_enter Try.func88, Try.ntmps88
       go_wp2_with (first | ((with_reducible refine gate_callee (f := 50) rfl ?_); refine goesL_ (some 11) rfl rfl Try.func50 (by kernel_rfl) rfl #[.slice A0 l0.length c0] rfl (by (try simp only [List.map_toArray, List.map_cons, List.map_nil]); first | done | rfl | (simp only [List.length_drop, List.length_take]; rfl)) ?_; (with_reducible refine (potsherdref12_MayEntries.calls k _ _ l0 true _ ?side1 ?side2 A4.out).mono ?_); (case side1 => repeat (first | exact HR0.out | (with_reducible refine Kd.C_alloc ?_ _) | (with_reducible refine Kd.C_drewN ?_ _) | (with_reducible refine Kd.C_drew ?_))); (case side2 => exact HC0.out); rintro e w13 ⟨rfl, hb⟩; refine ⟨_, rfl, ?_⟩; have n0_ := Aside0.mk (below_step (by repeat (first | (with_reducible first | exact HB.out | apply wA | apply wN | apply wD) | exact HB.out)) hb); clear HB; have HB := n0_; clear n0_; (try clear hb); (try clear hb2); (try clear hk); (try clear hi)) | (go_at_call 69; (with_reducible refine (potsherdref12_Name.calls k a1 true _ A6.out).mono ?_); rintro e w' ⟨rfl, ⟨nd, rfl⟩⟩) | ((with_reducible refine gate_callee (f := 86) rfl ?_); refine goesL_ (some 29) rfl rfl Try.func86 (by kernel_rfl) rfl #[.slice A0 l0.length c0, .string a1] rfl (by (try simp only [List.map_toArray, List.map_cons, List.map_nil]); first | done | rfl | (simp only [List.length_drop, List.length_take]; rfl)) ?_; (with_reducible refine (potsherdref12_At.calls k _ _ l0 a1 t389 _ ?side1 ?side2 A10.out).mono ?_); (case side1 => repeat (first | exact (Kd.C_below HR0.out (by repeat (first | (with_reducible first | exact HB.out | apply wA | apply wN | apply wD) | exact HB.out))) | (with_reducible refine Kd.C_alloc ?_ _) | (with_reducible refine Kd.C_drewN ?_ _) | (with_reducible refine Kd.C_drew ?_))); (case side2 => exact HC0.out); rintro e w14 ⟨rfl, hb⟩; refine ⟨_, rfl, ?_⟩; have n0_ := Aside0.mk (below_step (by repeat (first | (with_reducible first | exact HB.out | apply wA | apply wN | apply wD) | exact HB.out)) hb); clear HB; have HB := n0_; clear n0_; (try clear hb); (try clear hb2); (try clear hk); (try clear hi)))
       go_loopg [8] k (fun kq v8 w' => ∃ (x8_1 : Int), v8 = .int .i64 x8_1 ∧ Aside0 (potsherdref12_With.l0 kq l0 a1 a2 x8_1 = some (r1, r2)) ∧ Aside0 (kq ≤ k) ∧ Aside0 (Below w.heap.size w w'))
       case atStart => exact ⟨(0), (by first | rfl | (simp; done) | (simp [*]; done)), H', ⟨Nat.le_refl _⟩, ⟨by repeat (first | (with_reducible first | exact HB.out | apply wA | apply wN | apply wD) | exact HB.out)⟩⟩
       case round =>
        clear H'
        try clear c1
        try clear p2
        try clear c5
        try clear c7
        try clear c8
        try clear c8b0
        try clear c9
        try clear c9b0
        try clear c11
        try clear c11b0
        try clear c12
        try clear c12b0
        try clear c12b1
        obtain ⟨x8_1, rfl, HA, HK1, HB⟩ := hrel
        cases gk with
        | zero => exact absurd HA.out (by simp [potsherdref12_With.l0])
        | succ k1 =>
         have H := HA.out; clear HA; simp only [potsherdref12_With.l0] at H
         by_cases c15 : x8_1 < (l0.length : Int)
         ·
          rw [if_pos c15] at H; exact absurd H (by simp)
         ·
          rw [if_neg c15] at H; have c15b0 : decide (x8_1 < (l0.length : Int)) = false := decide_eq_false c15; clear c15
          by_cases c16 : 0 ≤ x8_1
          ·
           rw [if_pos c16] at H; have c16b0 := eq_true c16; have c16b1 : decide (0 ≤ x8_1) = true := decide_eq_true c16; clear c16
           by_cases c17 : x8_1 ≤ (l0.length : Int)
           ·
            rw [if_pos c17] at H; have c17b0 := eq_true c17; have c17b1 : decide (x8_1 ≤ (l0.length : Int)) = true := decide_eq_true c17; clear c17; obtain ⟨y411, hy411⟩ : ∃ y_ : List (S78), y_ = (l0.take (x8_1 : Int).toNat) := ⟨_, rfl⟩
            replace H : (if ([] : List (S78)).length + y411.length < 5864062014805 then ((some (([] : List (S78)) ++ y411 : List (S78))).bind fun y415 => ((some (([(⟨a1, a2⟩ : S78)] : List (S78)) : List (S78))).bind fun y418 => (if y415.length + y418.length < 5864062014805 then ((some (y415 ++ y418 : List (S78))).bind fun y421 => ((some (l0.drop (x8_1 : Int).toNat : List (S78))).bind fun y424 => (if y421.length + y424.length < 5864062014805 then (some ((y421 ++ y424), 0)) else (none)))) else (none)))) else (none)) = some (r1, r2) := by first | (rw [hy411]; with_reducible exact H) | (have H2_ := (Option.bind_some _ _).symm.trans H; rw [hy411]; with_reducible exact H2_) | (have H2_ := (Option.bind_some _ _).symm.trans H; with_reducible exact H2_) | with_reducible exact H | (rw [hy411]; exact H) | exact H
            have Ny411 := Aside0.mk hy411; clear hy411
            by_cases c18 : ([] : List (S78)).length + y411.length < 5864062014805
            ·
             rw [if_pos c18] at H; have LMc18 := Aside0.mk c18; clear c18; obtain ⟨y415, hy415⟩ : ∃ y_ : List (S78), y_ = (([] : List (S78)) ++ y411) := ⟨_, rfl⟩
             replace H : ((some (([(⟨a1, a2⟩ : S78)] : List (S78)) : List (S78))).bind fun y418 => (if y415.length + y418.length < 5864062014805 then ((some (y415 ++ y418 : List (S78))).bind fun y421 => ((some (l0.drop (x8_1 : Int).toNat : List (S78))).bind fun y424 => (if y421.length + y424.length < 5864062014805 then (some ((y421 ++ y424), 0)) else (none)))) else (none))) = some (r1, r2) := by first | (rw [hy415]; with_reducible exact H) | (have H2_ := (Option.bind_some _ _).symm.trans H; rw [hy415]; with_reducible exact H2_) | (have H2_ := (Option.bind_some _ _).symm.trans H; with_reducible exact H2_) | with_reducible exact H | (rw [hy415]; exact H) | exact H
             have Ny415 := Aside0.mk hy415; clear hy415; obtain ⟨y418, hy418⟩ : ∃ y_ : List (S78), y_ = (([(⟨a1, a2⟩ : S78)] : List (S78))) := ⟨_, rfl⟩
             replace H : (if y415.length + y418.length < 5864062014805 then ((some (y415 ++ y418 : List (S78))).bind fun y421 => ((some (l0.drop (x8_1 : Int).toNat : List (S78))).bind fun y424 => (if y421.length + y424.length < 5864062014805 then (some ((y421 ++ y424), 0)) else (none)))) else (none)) = some (r1, r2) := by first | (rw [hy418]; with_reducible exact H) | (have H2_ := (Option.bind_some _ _).symm.trans H; rw [hy418]; with_reducible exact H2_) | (have H2_ := (Option.bind_some _ _).symm.trans H; with_reducible exact H2_) | with_reducible exact H | (rw [hy418]; exact H) | exact H
             have Ny418 := Aside0.mk hy418; clear hy418
             by_cases c19 : y415.length + y418.length < 5864062014805
             ·
              rw [if_pos c19] at H; have LMc19 := Aside0.mk c19; clear c19; obtain ⟨y421, hy421⟩ : ∃ y_ : List (S78), y_ = (y415 ++ y418) := ⟨_, rfl⟩
              replace H : ((some (l0.drop (x8_1 : Int).toNat : List (S78))).bind fun y424 => (if y421.length + y424.length < 5864062014805 then (some ((y421 ++ y424), 0)) else (none))) = some (r1, r2) := by first | (rw [hy421]; with_reducible exact H) | (have H2_ := (Option.bind_some _ _).symm.trans H; rw [hy421]; with_reducible exact H2_) | (have H2_ := (Option.bind_some _ _).symm.trans H; with_reducible exact H2_) | with_reducible exact H | (rw [hy421]; exact H) | exact H
              have Ny421 := Aside0.mk hy421; clear hy421; have c20b0 := eq_true (of_decide_eq_true (by first | (with_reducible assumption) | assumption) : 0 ≤ x8_1); have c21b0 := eq_true (of_decide_eq_true (by first | (with_reducible assumption) | assumption) : x8_1 ≤ (l0.length : Int)); obtain ⟨y424, hy424⟩ : ∃ y_ : List (S78), y_ = (l0.drop (x8_1 : Int).toNat) := ⟨_, rfl⟩
              replace H : (if y421.length + y424.length < 5864062014805 then (some ((y421 ++ y424), 0)) else (none)) = some (r1, r2) := by first | (rw [hy424]; with_reducible exact H) | (have H2_ := (Option.bind_some _ _).symm.trans H; rw [hy424]; with_reducible exact H2_) | (have H2_ := (Option.bind_some _ _).symm.trans H; with_reducible exact H2_) | with_reducible exact H | (rw [hy424]; exact H) | exact H
              have Ny424 := Aside0.mk hy424; clear hy424
              by_cases c22 : y421.length + y424.length < 5864062014805
              ·
               rw [if_pos c22] at H; have LMc22 := Aside0.mk c22; clear c22; obtain ⟨y428, hy428⟩ : ∃ y_ : List (S78), y_ = (y421 ++ y424) := ⟨_, rfl⟩
               replace H : (some (y428, 0)) = some (r1, r2) := by first | (rw [hy428]; with_reducible exact H) | (have H2_ := (Option.bind_some _ _).symm.trans H; rw [hy428]; with_reducible exact H2_) | (have H2_ := (Option.bind_some _ _).symm.trans H; with_reducible exact H2_) | with_reducible exact H | (rw [hy428]; exact H) | exact H
               have Ny428 := Aside0.mk hy428; clear hy428; simp only [Option.some.injEq, Prod.mk.injEq] at H; obtain ⟨rfl, rfl⟩ := H
               try go_wp2
               have n0_ := Aside0.mk (wD HB.out); clear HB; have HB := n0_; clear n0_; have q24 : (x8_1 : Int) ≤ ((l0.length : Int) : Int) := of_decide_eq_true (by first | (with_reducible assumption) | assumption); obtain ⟨i024, hi024, _, hsz24, _⟩ := info_parts info78; have hroom24 : l0.length ≤ c0 := HC0.out; have hC24 : Kd.C k78 _ A0 l0.length l0 := HR0.out; have hcut24 := cut_to (P := Try.prog) 26 78 .i64 Try.underlying26 hi024 A0 l0.length c0 x8_1 (of_decide_eq_true (by first | (with_reducible assumption) | assumption)) q24 hroom24; have hr24 := Kd.C_take (m := (x8_1 : Int).toNat) hC24 (by omega); have hy24 : y411.length = (x8_1 : Int).toNat := (by rw [Ny411.out, List.length_take]; omega)
               rw [← Ny411.out] at hr24; rw [← hy24] at hcut24; have HR414 := Aside0.mk hr24; have HC414 := Aside0.mk (show y411.length ≤ c0 from by omega); clear hr24 hC24 hroom24 hi024 hsz24; have KY24 := Aside0.mk hy24; clear hy24; replace q24 := eq_true q24; have q25 : (x8_1 : Int) ≤ ((l0.length : Int) : Int) := of_decide_eq_true (by first | (with_reducible assumption) | assumption); obtain ⟨i025, hi025, _, hsz25, _⟩ := info_parts info78; have hroom25 : l0.length ≤ c0 := HC0.out; have hC25 : Kd.C k78 _ A0 l0.length l0 := HR0.out; have q025 : (0 : Int) ≤ (x8_1 : Int) := of_decide_eq_true (by first | (with_reducible assumption) | assumption); have hcut25 := cut_from (P := Try.prog) 26 78 .i64 Try.underlying26 hi025 2 hsz25 A0 l0.length c0 x8_1 q025 q25; have hr25 := Kd.C_drop (m := (x8_1 : Int).toNat) (c := c0) hC25 (by omega) hroom25; obtain ⟨A25, hA25⟩ : ∃ A1, A1 = (if c0 = (x8_1 : Int).toNat then A0 else (A0 : Option Addr).map (·.add ((x8_1 : Int).toNat * 2))) := ⟨_, rfl⟩; obtain ⟨c25, hc25⟩ : ∃ c1, c1 = c0 - (x8_1 : Int).toNat := ⟨_, rfl⟩; have hy25 : y424.length = l0.length - (x8_1 : Int).toNat := (by rw [Ny424.out, List.length_drop] <;> omega); rw [show (l0).drop (x8_1 : Int).toNat = y424 from Ny424.out.symm] at hr25; replace hr25 : Kd.C k78 _ A25 y424.length y424 := (by rw [hA25]; exact hr25)
               rw [← hy25, ← hA25, ← hc25] at hcut25; have HR427 := Aside0.mk hr25; have HC427 := Aside0.mk (show y424.length ≤ c25 from by rw [hy25, hc25]; exact Nat.sub_le_sub_right hroom25 _)
               clear hr25 hC25 hroom25 hi025 hsz25 hc25; have KY25 := Aside0.mk hy25; have KA25 := Aside0.mk hA25; clear hy25 hA25; replace q25 := eq_true q25; refine start_ (n := 15) (S := fun w' => True) (ds := []) B22_0 (by kernel_rfl) rfl rfl trivial (fun hHeld => ?_); refine with_tabW potsherdref12_With.tab10 potsherdref12_With.bits10 (fun HT_ HW_ => ?_); generalize wr.drew = w23 at HB HR414 HR427 hHeld ⊢; refine pure_ (i := 0) (N := some 50) (v := ?_) (a' := ?_) B22_1 rfl rfl (any_of HT_.out (by kernel_rfl)) (fun _ _ _ h => h) (Or.inl ⟨by rfl, ?_⟩) ?_ ?_; rotate_left
               ·
                intro w'; go_simp; with_reducible rfl
               rotate_left
               ·
                simp only [Act.put, lT, l0_, lS, i64_w, i32_w]; rfl
               refine pure_ (i := 1) (N := some 51) (v := ?_) (a' := ?_) B22_2 rfl rfl (any_of HT_.out (by kernel_rfl)) (fun _ _ _ h => h) (Or.inl ⟨by rfl, ?_⟩) ?_ ?_; rotate_left
               ·
                intro w'; go_simp; with_reducible rfl
               rotate_left
               ·
                simp only [Act.put, lT, l0_, lS, i64_w, i32_w]; rfl
               refine pure_ (i := 2) (N := some 52) (v := ?_) (a' := ?_) B22_3 rfl rfl (any_of HT_.out (by kernel_rfl)) (fun _ _ _ h => h) (Or.inl ⟨by rfl, ?_⟩) ?_ ?_; rotate_left
               ·
                intro w'; go_simp; with_reducible rfl
               rotate_left
               ·
                simp only [Act.put, lT, l0_, lS, i64_w, i32_w]; rfl
               refine pure_ (i := 4) (N := some 54) (v := ?_) (a' := ?_) B22_4 rfl rfl (any_of HT_.out (by kernel_rfl)) (fun _ _ _ h => h) (Or.inl ⟨by rfl, ?_⟩) ?_ ?_; rotate_left
               ·
                intro w'; go_simp; with_reducible rfl
               rotate_left
               ·
                simp only [Act.put, lT, l0_, lS, i64_w, i32_w]; rfl
               refine pure_ (i := 5) (N := some 55) (v := ?_) (a' := ?_) B22_5 rfl rfl (any_of HT_.out (by kernel_rfl)) (fun _ _ _ h => h) (Or.inl ⟨by rfl, ?_⟩) ?_ ?_; rotate_left
               ·
                intro w'; go_simp; with_reducible rfl
               rotate_left
               ·
                simp only [Act.put, lT, l0_, lS, i64_w, i32_w]; rfl
               refine pure_ (i := 6) (N := some 56) (v := ?_) (a' := ?_) B22_6 rfl rfl (any_of HT_.out (by kernel_rfl)) (fun _ _ _ h => h) (Or.inl ⟨by rfl, ?_⟩) ?_ ?_; rotate_left
               ·
                intro w'; go_simp; with_reducible rfl
               rotate_left
               ·
                simp only [Act.put, lT, l0_, lS, i64_w, i32_w]; rfl
               refine pure_ (i := 9) (N := some 59) (v := ?_) (a' := ?_) B22_7 rfl rfl (any_of HT_.out (by kernel_rfl)) (fun _ _ _ h => h) (Or.inl ⟨by rfl, ?_⟩) ?_ ?_; rotate_left
               ·
                intro w'; go_simp; with_reducible rfl
               rotate_left
               ·
                simp only [Act.put, lT, l0_, lS, i64_w, i32_w]; rfl
               refine pure_ (i := 10) (N := some 60) (v := ?_) (a' := ?_) B22_8 rfl rfl (any_of HT_.out (by kernel_rfl)) (fun _ _ _ h => h) (Or.inl ⟨by rfl, ?_⟩) ?_ ?_; rotate_left
               ·
                intro w'; go_simp; with_reducible rfl
               rotate_left
               ·
                simp only [Act.put, lT, l0_, lS, i64_w, i32_w]; rfl
               refine pure_ (i := 11) (N := some 61) (v := ?_) (a' := ?_) B22_9 rfl rfl (any_of HT_.out (by kernel_rfl)) (fun _ _ _ h => h) (Or.inl ⟨by rfl, ?_⟩) ?_ ?_; rotate_left
               ·
                intro w'; go_simp; with_reducible rfl
               rotate_left
               ·
                simp only [Act.put, lT, l0_, lS, i64_w, i32_w]; rfl
               refine join_ (σ := Value × Value) 4 B22_10 (fun s_ => [(53, s_.1), (57, s_.2)]) (fun s_ w' => (Kd.R k78 78 w' w.heap.size (fun k_ => some k_ ≠ (s_.2 : Value).ownBlock) s_.1 y415) ∧ (Kd.R k78 78 w' w.heap.size (fun k_ => some k_ ≠ (s_.1 : Value).ownBlock) s_.2 y418) ∧ (Below w.heap.size w w')) ?_ ?_; rotate_left
               ·
                intro hCont; refine two_ (i := 3) (j := 7) (Ni := some 53) (Nj := some 57) B22_11 B22_12 rfl rfl rfl rfl (two_of HT_.out (by kernel_rfl)) (by decide) (by decide) (fun K hK => ?_) (fun K hK => ?_)
                ·
                 skip
                 refine Kd.R_append_rows_step k78 (w0 := w) w.heap.size rfl (.const (.slice none 0 0)) (.tmp 52) 26 78 (.agg #[(.string ⟨#[]⟩), (.int .i64 0)]) 24 rfl Try.underlying26 info78 rfl (by decide) (by omega) (.slice none 0 0) ([] : List (S78)) y411 _ _ _ (fun _ => True) (fun _ => False) rfl rfl ?aO ?aR (fun _ _ h => h) (fun _ h => h.elim) ?aF ?aB ?aS ?aL ?_
                 (case aR => repeat (first | exact (Kd.C_below HR414.out HB.out) | (with_reducible refine Kd.C_alloc ?_ _) | (with_reducible refine Kd.C_drewN ?_ _) | (with_reducible refine Kd.C_drew ?_)))
                 (case aB => exact (by repeat (first | (with_reducible first | exact HB.out | apply wA | apply wN | apply wD) | exact HB.out)))
                 (case aF => exact (fun _ _ => trivial))
                 (case aO => exact ((Kd.R_nil _ _ _ _ (fun _ => True))))
                 (case aS => exact (below_size (by repeat (first | (with_reducible first | exact HB.out | apply wA | apply wN | apply wD) | exact HB.out))))
                 (case aL => have := LMc18.out; omega)
                 intro v416 w26 ho hb hg hat; rw [← Ny415.out] at ho; have n0_ := Aside0.mk (hb); have n1_ := Aside0.mk (ho); clear HB; have HB := n0_; have HO417 := n1_; clear n0_ n1_; clear ho hb hg hat; refine hK.out _ _ trivial (fun hHeld => ?_); clear hK K; refine norm_ (a' := ?_) ?_ ?_; rotate_left
                 ·
                  show Act.put _ (some 53) _ = _
                  simp only [Act.put, lT, l0_, lS, i64_w, i32_w]; rfl
                 refine one_ (i := 7) (N := some 57) B22_10 rfl rfl (one_of HT_.out (by kernel_rfl)) (by decide) (fun K hK => ?_); refine Kd.R_lit_step k78 _ 78 ?hg (N := 57) ?hd (xs := ([(⟨a1, a2⟩ : S78)] : List (S78))) (inner := [.string a1, .int .i64 a2]) (ok := fun _ => True) (okp := fun _ => True) ?hr ?hp (fun _ hk => hk) trivial (Below.refl _ _) (Nat.le_refl _) (by simp) ?_; (case hd => rfl); (case hg => rfl); (case hr => first | (go_simp; done) | (go_simp; rfl)); (case hp => exact (Reps.c2 (show Kd.M k78 _ _ _ (⟨a1, a2⟩ : S78) [.string a1, .int .i64 a2] from (k78_mkM _ _ _ (⟨a1, a2⟩ : S78) )) (Reps.none _ _)))
                 intro v419 w27 ho28 hb hg_ hnew_; clear hg_ hnew_
                 (first | rw [← Ny418.out] at ho28 | (simp only [Int.reduceToNat] at ho28; rw [← Ny418.out] at ho28))
                 have n0_ := Aside0.mk (Kd.R_elder' (by (with_reducible repeat (first | apply Kd.R_alloc | apply Kd.R_drewN | apply Kd.R_drew)); exact HO417.out) (Kd.R_base ho28) hb)
                 have n1_ := Aside0.mk (Kd.R_lower (Kd.R_new' ho28 (Kd.R_lt (by (with_reducible repeat (first | apply Kd.R_alloc | apply Kd.R_drewN | apply Kd.R_drew)); exact HO417.out))) (below_size (by repeat (first | (with_reducible first | exact HB.out | apply wA | apply wN | apply wD) | exact HB.out))))
                 have n2_ := Aside0.mk (below_step (by repeat (first | (with_reducible first | exact HB.out | apply wA | apply wN | apply wD) | exact HB.out)) hb); clear HO417; clear HB; have HO417 := n0_; have HO420 := n1_; have HB := n2_; clear n0_ n1_ n2_; clear hb ho28; refine hK.out _ _ trivial (fun hHeld => ?_); clear hK K; refine norm_ (a' := ?_) ?_ ?_; rotate_left
                 ·
                  show Act.put _ (some 57) _ = _
                  simp only [Act.put, lT, l0_, lS, i64_w, i32_w]; rfl
                 exact norm_ (by simp only [putAll, Act.put, lT, l0_, lS]) (hCont (v416, v419) _ ⟨(by (with_reducible repeat (first | apply Kd.R_alloc | apply Kd.R_drewN | apply Kd.R_drew)); exact Kd.R_mono HO417.out (fun _ hk => hk.2)), (by (with_reducible repeat (first | apply Kd.R_alloc | apply Kd.R_drewN | apply Kd.R_drew)); exact Kd.R_mono HO420.out (fun _ hk => hk.2)), (by repeat (first | (with_reducible first | exact HB.out | apply wA | apply wN | apply wD) | exact HB.out))⟩)
                ·
                 skip
                 refine Kd.R_lit_step k78 _ 78 ?hg (N := 57) ?hd (xs := ([(⟨a1, a2⟩ : S78)] : List (S78))) (inner := [.string a1, .int .i64 a2]) (ok := fun _ => True) (okp := fun _ => True) ?hr ?hp (fun _ hk => hk) trivial (Below.refl _ _) (Nat.le_refl _) (by simp) ?_; (case hd => rfl); (case hg => rfl); (case hr => first | (go_simp; done) | (go_simp; rfl)); (case hp => exact (Reps.c2 (show Kd.M k78 _ _ _ (⟨a1, a2⟩ : S78) [.string a1, .int .i64 a2] from (k78_mkM _ _ _ (⟨a1, a2⟩ : S78) )) (Reps.none _ _)))
                 intro v419 w26 ho27 hb hg_ hnew_; clear hg_ hnew_
                 (first | rw [← Ny418.out] at ho27 | (simp only [Int.reduceToNat] at ho27; rw [← Ny418.out] at ho27))
                 have n0_ := Aside0.mk (Kd.R_lower ho27 (below_size (by repeat (first | (with_reducible first | exact HB.out | apply wA | apply wN | apply wD) | exact HB.out)))); have n1_ := Aside0.mk (below_step (by repeat (first | (with_reducible first | exact HB.out | apply wA | apply wN | apply wD) | exact HB.out)) hb); clear HB; have HO420 := n0_; have HB := n1_; clear n0_ n1_; clear hb ho27; refine hK.out _ _ trivial (fun hHeld => ?_); clear hK K; refine norm_ (a' := ?_) ?_ ?_; rotate_left
                 ·
                  show Act.put _ (some 57) _ = _
                  simp only [Act.put, lT, l0_, lS, i64_w, i32_w]; rfl
                 refine one_ (i := 3) (N := some 53) B22_10 rfl rfl (one_of HT_.out (by kernel_rfl)) (by decide) (fun K hK => ?_); refine Kd.R_append_rows_step k78 (w0 := w) w.heap.size rfl (.const (.slice none 0 0)) (.tmp 52) 26 78 (.agg #[(.string ⟨#[]⟩), (.int .i64 0)]) 24 rfl Try.underlying26 info78 rfl (by decide) (by omega) (.slice none 0 0) ([] : List (S78)) y411 _ _ _ (fun k_ => some k_ ≠ (v419 : Value).ownBlock) (fun _ => False) rfl rfl ?aO ?aR (fun _ _ h => h) (fun _ h => h.elim) ?aF ?aB ?aS ?aL ?_
                 (case aR => repeat (first | exact (Kd.C_below HR414.out HB.out) | (with_reducible refine Kd.C_alloc ?_ _) | (with_reducible refine Kd.C_drewN ?_ _) | (with_reducible refine Kd.C_drew ?_)))
                 (case aB => exact (by repeat (first | (with_reducible first | exact HB.out | apply wA | apply wN | apply wD) | exact HB.out)))
                 (case aF => exact (fun k_ hk => Kd.fresh' (Kd.R_lt (by (with_reducible repeat (first | apply Kd.R_alloc | apply Kd.R_drewN | apply Kd.R_drew)); exact HO420.out)) k_ hk))
                 (case aO => exact ((Kd.R_nil _ _ _ _ (fun k_ => some k_ ≠ (v419 : Value).ownBlock))))
                 (case aS => exact (below_size (by repeat (first | (with_reducible first | exact HB.out | apply wA | apply wN | apply wD) | exact HB.out))))
                 (case aL => have := LMc18.out; omega)
                 intro v416 w28 ho hb hg hat; rw [← Ny415.out] at ho; have n0_ := Aside0.mk (Kd.R_after (Kd.R_apart_nil (by (with_reducible repeat (first | apply Kd.R_alloc | apply Kd.R_drewN | apply Kd.R_drew)); exact HO420.out)) hg hat)
                 have n1_ := Aside0.mk (hb); have n2_ := Aside0.mk (ho); clear HO420; clear HB; have HO420 := n0_; have HB := n1_; have HO417 := n2_; clear n0_ n1_ n2_; clear ho hb hg hat; refine hK.out _ _ trivial (fun hHeld => ?_); clear hK K; refine norm_ (a' := ?_) ?_ ?_; rotate_left
                 ·
                  show Act.put _ (some 53) _ = _
                  simp only [Act.put, lT, l0_, lS, i64_w, i32_w]; rfl
                 exact norm_ (by simp only [putAll, Act.put, lT, l0_, lS]) (hCont (v416, v419) _ ⟨(by (with_reducible repeat (first | apply Kd.R_alloc | apply Kd.R_drewN | apply Kd.R_drew)); exact HO417.out), (by (with_reducible repeat (first | apply Kd.R_alloc | apply Kd.R_drewN | apply Kd.R_drew)); exact Kd.R_mono HO420.out (fun _ hk => hk.2)), (by repeat (first | (with_reducible first | exact HB.out | apply wA | apply wN | apply wD) | exact HB.out))⟩)
               rintro ⟨v416, v419⟩ w29 ⟨h0_, h1_, h2_⟩; have n0_ : Aside0 (Kd.R k78 78 w29 w.heap.size (fun k_ => some k_ ≠ (v419 : Value).ownBlock) v416 y415) := ⟨h0_⟩; have n1_ : Aside0 (Kd.R k78 78 w29 w.heap.size (fun k_ => some k_ ≠ (v416 : Value).ownBlock) v419 y418) := ⟨h1_⟩; have n2_ : Aside0 (Below w.heap.size w w29) := ⟨h2_⟩; clear HB; clear h0_ h1_ h2_; have HO417 := n0_; have HO420 := n1_; have HB := n2_; clear n0_ n1_ n2_; have hHeld := trivial; obtain ⟨Ao31, co31, eo31⟩ := Kd.R_slice HO420.out
               (first | subst eo31 | (injection eo31 with f1_ f2_ f3_; have f4_ := f1_.symm; have f5_ := f3_.symm; clear f1_ f2_ f3_; subst f4_; subst f5_))
               refine norm_ (a' := ?_) ?_ ?_; rotate_left
               ·
                simp only [putAll, Act.put, lT, l0_, lS]; rfl
               refine one_ (i := 8) (N := some 58) B22_13 rfl rfl (one_of HT_.out (by kernel_rfl)) (by decide) (fun K hK => ?_); refine Kd.R_append_rows_step k78 (w0 := w) w.heap.size (by rfl) (.tmp 53) (.tmp 57) 26 78 (.agg #[(.string ⟨#[]⟩), (.int .i64 0)]) 24 rfl Try.underlying26 info78 rfl (by decide) (by omega) v416 y415 y418 _ _ _ (fun k_ => some k_ ≠ (.slice Ao31 y418.length co31 : Value).ownBlock) (fun _ => False) rfl rfl ?aO ?aR (fun _ _ h => h) (fun _ h => h.elim) ?aF ?aB ?aS ?aL ?_
               (case aR => repeat (first | exact (Kd.R_reads' HO420.out).2.2 | (with_reducible refine Kd.C_alloc ?_ _) | (with_reducible refine Kd.C_drewN ?_ _) | (with_reducible refine Kd.C_drew ?_)))
               (case aB => exact (by repeat (first | (with_reducible first | exact HB.out | apply wA | apply wN | apply wD) | exact HB.out)))
               (case aF => exact (fun k_ hk => Kd.fresh' (Kd.R_lt (by (with_reducible repeat (first | apply Kd.R_alloc | apply Kd.R_drewN | apply Kd.R_drew)); exact HO420.out)) k_ hk))
               (case aO => exact (by (with_reducible repeat (first | apply Kd.R_alloc | apply Kd.R_drewN | apply Kd.R_drew)); exact HO417.out))
               (case aS => exact (below_size (by repeat (first | (with_reducible first | exact HB.out | apply wA | apply wN | apply wD) | exact HB.out))))
               (case aL => have := LMc19.out; omega)
               intro v422 w30 ho hb hg hat; rw [← Ny421.out] at ho; have n0_ := Aside0.mk (Kd.R_after (ok := (fun _ => True)) (by (with_reducible repeat (first | apply Kd.R_alloc | apply Kd.R_drewN | apply Kd.R_drew)); exact Kd.R_mono HO420.out (fun _ hk => ⟨trivial, hk⟩)) hg hat)
               have n1_ := Aside0.mk (hb); have n2_ := Aside0.mk (ho); clear HO420; clear HB; clear HO417; have HO420 := n0_; have HB := n1_; have HO423 := n2_; clear n0_ n1_ n2_; clear ho hb hg hat; refine hK.out _ _ trivial (fun hHeld => ?_); clear hK K; refine norm_ (a' := ?_) ?_ ?_; rotate_left
               ·
                show Act.put _ (some 58) _ = _
                simp only [Act.put, lT, l0_, lS, i64_w, i32_w]; rfl
               refine one_ (i := 12) (N := some 62) B22_14 rfl rfl (one_of HT_.out (by kernel_rfl)) (by decide) (fun K hK => ?_); refine Kd.R_append_rows_step k78 (w0 := w) w.heap.size (by rfl) (.tmp 58) (.tmp 61) 26 78 (.agg #[(.string ⟨#[]⟩), (.int .i64 0)]) 24 rfl Try.underlying26 info78 rfl (by decide) (by omega) v422 y421 y424 _ _ _ (fun k_ => some k_ ≠ (.slice Ao31 y418.length co31 : Value).ownBlock) (fun _ => False) rfl rfl ?aO ?aR (fun _ _ h => h) (fun _ h => h.elim) ?aF ?aB ?aS ?aL ?_
               (case aR => repeat (first | exact (Kd.C_below HR427.out HB.out) | (with_reducible refine Kd.C_alloc ?_ _) | (with_reducible refine Kd.C_drewN ?_ _) | (with_reducible refine Kd.C_drew ?_)))
               (case aB => exact (by repeat (first | (with_reducible first | exact HB.out | apply wA | apply wN | apply wD) | exact HB.out)))
               (case aF => exact (fun k_ hk => Kd.fresh' (Kd.R_lt (by (with_reducible repeat (first | apply Kd.R_alloc | apply Kd.R_drewN | apply Kd.R_drew)); exact HO420.out)) k_ hk))
               (case aO => exact (by (with_reducible repeat (first | apply Kd.R_alloc | apply Kd.R_drewN | apply Kd.R_drew)); exact HO423.out))
               (case aS => exact (below_size (by repeat (first | (with_reducible first | exact HB.out | apply wA | apply wN | apply wD) | exact HB.out))))
               (case aL => have := LMc22.out; omega)
               intro v429 w32 ho hb hg hat; rw [← Ny428.out] at ho; have n0_ := Aside0.mk (Kd.R_after (ok := (fun _ => True)) (by (with_reducible repeat (first | apply Kd.R_alloc | apply Kd.R_drewN | apply Kd.R_drew)); exact HO420.out) hg hat)
               have n1_ := Aside0.mk (hb); have n2_ := Aside0.mk (ho); clear HO420; clear HB; clear HO423; have HO420 := n0_; have HB := n1_; have HO430 := n2_; clear n0_ n1_ n2_; clear ho hb hg hat; refine hK.out _ _ trivial (fun hHeld => ?_); clear hK K; refine norm_ (a' := ?_) ?_ ?_; rotate_left
               ·
                show Act.put _ (some 62) _ = _
                simp only [Act.put, lT, l0_, lS, i64_w, i32_w]; rfl
               refine pure_ (i := 13) (N := some 6) (v := ?_) (a' := ?_) B22_15 rfl rfl (any_of HT_.out (by kernel_rfl)) (fun _ _ _ h => h) (Or.inl ⟨by rfl, ?_⟩) ?_ ?_; rotate_left
               ·
                intro w'; go_simp; with_reducible rfl
               rotate_left
               ·
                simp only [Act.put, lT, l0_, lS, i64_w, i32_w]; rfl
               refine pure_ (i := 14) (N := some 7) (v := ?_) (a' := ?_) B22_16 rfl rfl (any_of HT_.out (by kernel_rfl)) (fun _ _ _ h => h) (Or.inl ⟨by rfl, ?_⟩) ?_ ?_; rotate_left
               ·
                intro w'; go_simp; with_reducible rfl
               rotate_left
               ·
                simp only [Act.put, lT, l0_, lS, i64_w, i32_w]; rfl
               refine done_ (done_of HT_.out (by kernel_rfl)) ?_
               try go_wp2
               go_ret2
               exact ⟨_, by first | rfl | exact congrArg (fun b_ => Ending.returned (Value.bool b_)) HRET.out | (rw [HRET.out]) | (simp [errW_none, errW_some] <;> rfl) | (simp [*, errW_none, errW_some] <;> rfl), by (with_reducible repeat (first | apply Kd.R_alloc | apply Kd.R_drewN | apply Kd.R_drew)); exact Kd.R_mono HO430.out (fun _ hk => trivial), by repeat (first | (with_reducible first | exact HB.out | apply wA | apply wN | apply wD) | exact HB.out)⟩
              ·
               rw [if_neg c22] at H; exact absurd H (by simp)
             ·
              rw [if_neg c19] at H; exact absurd H (by simp)
            ·
             rw [if_neg c18] at H; exact absurd H (by simp)
           ·
            rw [if_neg c17] at H; exact absurd H (by simp)
          ·
           rw [if_neg c16] at H; exact absurd H (by simp)
  ·
   replace c7 := Bool.eq_false_iff.mpr c7; subst c7
   have H1 : (none) = some (r1, r2) := by rw [if_neg (show ¬ (false = true) by decide)] at H; exact H
   clear H; have H := H1; clear H1; exact absurd H (by simp)
 ·
  replace c5 := Bool.eq_false_iff.mpr c5; subst c5
  have H1 : (none) = some (r1, r2) := by rw [if_neg (show ¬ (false = true) by decide)] at H; exact H
  clear H; have H := H1; clear H1; exact absurd H (by simp)
end Go.Proofs.Ytkigiehkckjlhaa.PMakes
