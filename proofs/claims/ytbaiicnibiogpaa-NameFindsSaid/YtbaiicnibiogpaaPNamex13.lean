/- The Go functions that these laws reach, each as a Lean function with the same answers (a law itself where it answers true), and the proof that the code comes to them; conditions: those of each theorem. Laid by a program of this session over the print. -/
import Derived.Test.YtbaiicnibiogpaaPNamex0
import Derived.Test.YtbaiicnibiogpaaPNamex8
import Derived.Test.YtbaiicnibiogpaaPNamex11
import Derived.Test.YtbaiicnibiogpaaPNamex12
namespace Go.Proofs.Ytbaiicnibiogpaa.PName
open Go.RowKit Go.Proofs.YtbaiicnibiogpaaW.PrintWords Go.Proofs.YtbaiicnibiogpaaW.PrintLast Go.Proofs.YtbaiicnibiogpaaW.PrintMore
attribute [local go_sem] max2_int min2_int max_two min_two max_three min_three max_four min_four   -- for this text's walks alone
set_option linter.unusedVariables false
set_option linter.unusedSimpArgs false
open Go.Proofs.YtbaiicnibiogpaaW.PrintWords renaming blk_drewN → bN, blk_drew → bD, blk_alloc → bA, below_set → wS, below_alloc → wA, pw_below_drewN → wN, below_drew1 → wD, blk_below → bB, blk_far → bF, blk_cell → bC, blk_frozen → bZ
open List renaming setIfInBounds_toArray → lT, set_cons_zero → l0_, set_cons_succ → lS
abbrev B13_0 : Array Bool := #[false, false, false, false, false, false, false, false, false, false, false, false, false, false, false]
abbrev B13_1 : Array Bool := #[true, false, false, false, false, false, false, false, false, false, false, false, false, false, false]
abbrev B13_2 : Array Bool := #[true, true, false, false, false, false, false, false, false, false, false, false, false, false, false]
abbrev B13_3 : Array Bool := #[true, true, true, false, false, false, false, false, false, false, false, false, false, false, false]
abbrev B13_4 : Array Bool := #[true, true, true, false, true, false, false, false, false, false, false, false, false, false, false]
abbrev B13_5 : Array Bool := #[true, true, true, false, true, true, false, false, false, false, false, false, false, false, false]
abbrev B13_6 : Array Bool := #[true, true, true, false, true, true, true, false, false, false, false, false, false, false, false]
abbrev B13_7 : Array Bool := #[true, true, true, false, true, true, true, false, false, true, false, false, false, false, false]
abbrev B13_8 : Array Bool := #[true, true, true, false, true, true, true, false, false, true, true, false, false, false, false]
abbrev B13_9 : Array Bool := #[true, true, true, false, true, true, true, false, false, true, true, true, false, false, false]
abbrev B13_10 : Array Bool := #[true, true, true, true, true, true, true, true, false, true, true, true, false, false, false]
abbrev B13_11 : Array Bool := #[true, true, true, true, true, true, true, false, false, true, true, true, false, false, false]
abbrev B13_12 : Array Bool := #[true, true, true, false, true, true, true, true, false, true, true, true, false, false, false]
abbrev B13_13 : Array Bool := #[true, true, true, true, true, true, true, true, true, true, true, true, false, false, false]
abbrev B13_14 : Array Bool := #[true, true, true, true, true, true, true, true, true, true, true, true, true, false, false]
abbrev B13_15 : Array Bool := #[true, true, true, true, true, true, true, true, true, true, true, true, true, true, false]
abbrev B13_16 : Array Bool := #[true, true, true, true, true, true, true, true, true, true, true, true, true, true, true]

/-! ### potsherdref12_With: function 19 -/
mutual
def potsherdref12_With.j0 : Nat → List (S38) → ByteArray → Int → Bool → Option ((List (S38)) × Int)
 | 0, _, _, _, _ => none
 | k + 1, x0, x1, x2, x9 => if x9 = true then (some (([] : List (S38)), 1)) else ((potsherdref12_At.f k x0 x1).bind fun t218 => (if t218 ≥ 0 then (some (([] : List (S38)), 9)) else (if (x0.length : Int) ≥ 10 then (some (([] : List (S38)), 14)) else (potsherdref12_With.l0 k x0 x1 x2 0))))
def potsherdref12_With.l0 : Nat → List (S38) → ByteArray → Int → Int → Option ((List (S38)) × Int)
 | 0, _, _, _, _ => none
 | k + 1, x0, x1, x2, x8 => if x8 < (x0.length : Int) then (if 0 ≤ x8 then (if (Op.bytesLess (((rd_T38 x0 x8).f0).toList) x1.toList) = true then (potsherdref12_With.l0 k x0 x1 x2 (wrap64 (x8 + 1))) else (if x8 ≤ (x0.length : Int) then ((some (x0.take (x8 : Int).toNat : List (S38))).bind fun y220 => (if ([] : List (S38)).length + y220.length < 5864062014805 then ((some (([] : List (S38)) ++ y220 : List (S38))).bind fun y224 => ((some (([(⟨x1, x2⟩ : S38)] : List (S38)) : List (S38))).bind fun y227 => (if y224.length + y227.length < 5864062014805 then ((some (y224 ++ y227 : List (S38))).bind fun y230 => ((some (x0.drop (x8 : Int).toNat : List (S38))).bind fun y233 => (if y230.length + y233.length < 5864062014805 then (some ((y230 ++ y233), 0)) else (none)))) else (none)))) else (none))) else (none))) else (none)) else (if 0 ≤ x8 then (if x8 ≤ (x0.length : Int) then ((some (x0.take (x8 : Int).toNat : List (S38))).bind fun y240 => (if ([] : List (S38)).length + y240.length < 5864062014805 then ((some (([] : List (S38)) ++ y240 : List (S38))).bind fun y244 => ((some (([(⟨x1, x2⟩ : S38)] : List (S38)) : List (S38))).bind fun y247 => (if y244.length + y247.length < 5864062014805 then ((some (y244 ++ y247 : List (S38))).bind fun y250 => ((some (x0.drop (x8 : Int).toNat : List (S38))).bind fun y253 => (if y250.length + y253.length < 5864062014805 then (some ((y250 ++ y253), 0)) else (none)))) else (none)))) else (none))) else (none)) else (none))
end
def potsherdref12_With.f (k : Nat) (l0 : List (S38)) (a1 : ByteArray) (a2 : Int) : Option ((List (S38)) × Int) := (potsherdref12_MayEntries.f k l0).bind fun t216 => (if t216 = true then ((potsherdref12_Name.f k a1).bind fun t217 => (if t217 = true then (if a2 < 1 then (potsherdref12_With.j0 k l0 a1 a2 true) else (potsherdref12_With.j0 k l0 a1 a2 (decide (a2 ≥ 12)))) else (potsherdref12_With.j0 k l0 a1 a2 true))) else (potsherdref12_With.j0 k l0 a1 a2 true))
theorem potsherdref12_With.mono_l : ∀ k, (∀ y0 y1 y2 y3, LeO (potsherdref12_With.j0 k y0 y1 y2 y3) (potsherdref12_With.j0 (k + 1) y0 y1 y2 y3)) ∧ (∀ y0 y1 y2 y3, LeO (potsherdref12_With.l0 k y0 y1 y2 y3) (potsherdref12_With.l0 (k + 1) y0 y1 y2 y3))
 | 0 => ⟨fun _ _ _ _ r h => by simp [potsherdref12_With.j0] at h, fun _ _ _ _ r h => by simp [potsherdref12_With.l0] at h⟩
 | k + 1 => by
  obtain ⟨ih0, ih1⟩ := potsherdref12_With.mono_l k; refine ⟨?_, ?_⟩
  ·
   intro y0 y1 y2 y3
   unfold potsherdref12_With.j0
   repeat' first
   | (with_reducible exact ih0 _ _ _ _)
   | (with_reducible exact ih1 _ _ _ _)
   | (with_reducible exact potsherdref12_At.mono _ _ _)
   | (with_reducible exact potsherdref12_MayEntries.mono _ _)
   | (with_reducible exact potsherdref12_Name.mono _ _)
   | (with_reducible exact LeO.refl _)
   | (with_reducible exact LeO.none _)
   | (with_reducible refine LeO.ite ?_ ?_)
   | (with_reducible refine LeO.bind ?_ (fun _ => ?_))
   | exact ih0 _ _ _ _
   | exact ih1 _ _ _ _
   | exact potsherdref12_At.mono _ _ _
   | exact potsherdref12_MayEntries.mono _ _
   | exact potsherdref12_Name.mono _ _
   | exact LeO.none _
   | refine LeO.ite ?_ ?_
   | refine LeO.bind ?_ (fun _ => ?_)
  ·
   intro y0 y1 y2 y3
   unfold potsherdref12_With.l0
   repeat' first
   | (with_reducible exact ih0 _ _ _ _)
   | (with_reducible exact ih1 _ _ _ _)
   | (with_reducible exact potsherdref12_At.mono _ _ _)
   | (with_reducible exact potsherdref12_MayEntries.mono _ _)
   | (with_reducible exact potsherdref12_Name.mono _ _)
   | (with_reducible exact LeO.refl _)
   | (with_reducible exact LeO.none _)
   | (with_reducible refine LeO.ite ?_ ?_)
   | (with_reducible refine LeO.bind ?_ (fun _ => ?_))
   | exact ih0 _ _ _ _
   | exact ih1 _ _ _ _
   | exact potsherdref12_At.mono _ _ _
   | exact potsherdref12_MayEntries.mono _ _
   | exact potsherdref12_Name.mono _ _
   | exact LeO.none _
   | refine LeO.ite ?_ ?_
   | refine LeO.bind ?_ (fun _ => ?_)
theorem potsherdref12_With.mono : ∀ a0 a1 a2 k, LeO (potsherdref12_With.f k a0 a1 a2) (potsherdref12_With.f (k + 1) a0 a1 a2) := by
 intro a0 a1 a2 k; obtain ⟨ih0, ih1⟩ := potsherdref12_With.mono_l k
 unfold potsherdref12_With.f
 repeat' first
  | (with_reducible exact ih0 _ _ _ _)
  | (with_reducible exact ih1 _ _ _ _)
  | (with_reducible exact potsherdref12_At.mono _ _ _)
  | (with_reducible exact potsherdref12_MayEntries.mono _ _)
  | (with_reducible exact potsherdref12_Name.mono _ _)
  | (with_reducible exact LeO.refl _)
  | (with_reducible exact LeO.none _)
  | (with_reducible refine LeO.ite ?_ ?_)
  | (with_reducible refine LeO.bind ?_ (fun _ => ?_))
  | exact ih0 _ _ _ _
  | exact ih1 _ _ _ _
  | exact potsherdref12_At.mono _ _ _
  | exact potsherdref12_MayEntries.mono _ _
  | exact potsherdref12_Name.mono _ _
  | exact LeO.none _
  | refine LeO.ite ?_ ?_
  | refine LeO.bind ?_ (fun _ => ?_)
def potsherdref12_With.T10 : Bool × List (List Nat × List Nat) := (true, [([], []), ([], []), ([0, 1], [0, 1]), ([2], [2]), ([], []), ([], []), ([4, 5], [4, 5]), ([6], [6]), ([3, 7, 3], [3, 7]), ([], []), ([], []), ([9, 10], [9, 10]), ([8, 11, 8], [8, 11]), ([12, 12, 0, 1, 2, 3, 4, 5, 6, 7, 8, 9, 10, 11, 12], [12]), ([13, 0, 1, 2, 3, 4, 5, 6, 7, 8, 9, 10, 11, 12, 13], [])])
def potsherdref12_With.B10 : List Nat := [0, 0, 3, 7, 0, 0, 48, 112, 255, 0, 0, 1536, 4095, 8191, 16383]
theorem potsherdref12_With.tab10 : rtab .any (opsOf Try.f19 10) = potsherdref12_With.T10 := by kernel_rfl
theorem potsherdref12_With.bits10 : waitsOk potsherdref12_With.T10.2 potsherdref12_With.B10 = true := by kernel_rfl
set_option maxHeartbeats 8000000 in
set_option maxRecDepth 100000 in
theorem potsherdref12_With.calls (k : Nat) (A0 : Option Addr) (c0 : Nat) (l0 : List (S38)) (a1 : ByteArray) (a2 : Int) (r1 : List (S38)) (r2 : Int) (w : World) (hr0 : Kd.C k38 w A0 l0.length l0) (hc0 : l0.length ≤ c0) (h : potsherdref12_With.f k l0 a1 a2 = some (r1, r2)) :
 Calls Try.prog 19 #[.slice A0 l0.length c0, .string a1, .int .i64 a2] w fun e w' => ∃ v0_ : Value, e = .returned (.tuple #[v0_, .int .i64 r2]) ∧ Kd.R k38 38 w' w.heap.size (fun _ => True) v0_ r1 ∧ Below w.heap.size w w' := by
 have hu38 := Try.underlying38; have HR0 := Aside0.mk hr0; have HC0 := Aside0.mk hc0; clear hr0 hc0; have HB := Aside0.mk (Below.refl w.heap.size w); have H : ((potsherdref12_MayEntries.f k l0).bind fun t216 => (if t216 = true then ((potsherdref12_Name.f k a1).bind fun t217 => (if t217 = true then (if a2 < 1 then (potsherdref12_With.j0 k l0 a1 a2 true) else (potsherdref12_With.j0 k l0 a1 a2 (decide (a2 ≥ 12)))) else (potsherdref12_With.j0 k l0 a1 a2 true))) else (potsherdref12_With.j0 k l0 a1 a2 true))) = some (r1, r2) := h; clear h; have HC4 := Aside0.mk H; clear H
 go_enter Try.func19, Try.ntmps19
 go_upto_region 1 with (fail)
 go_cut [9] (fun v9 wc => ∃ (kq : Nat) (x9_3 : Bool), v9 = .bool x9_3 ∧ Aside0 (potsherdref12_With.j0 kq l0 a1 a2 x9_3 = some (r1, r2)) ∧ Aside0 (kq ≤ k) ∧ Aside0 (Below w.heap.size w wc))
 case first =>
  have H := HC4.out; clear HC4; replace H := Option.bind_eq_some_iff.mp H; obtain ⟨t216, A50, H⟩ := H; replace H : (if t216 = true then ((potsherdref12_Name.f k a1).bind fun t217 => (if t217 = true then (if a2 < 1 then (potsherdref12_With.j0 k l0 a1 a2 true) else (potsherdref12_With.j0 k l0 a1 a2 (decide (a2 ≥ 12)))) else (potsherdref12_With.j0 k l0 a1 a2 true))) else (potsherdref12_With.j0 k l0 a1 a2 true)) = some (r1, r2) := H; have A5 := Aside0.mk A50; clear A50
  by_cases c6 : t216 = true
  ·
   subst c6
   have H1 : ((potsherdref12_Name.f k a1).bind fun t217 => (if t217 = true then (if a2 < 1 then (potsherdref12_With.j0 k l0 a1 a2 true) else (potsherdref12_With.j0 k l0 a1 a2 (decide (a2 ≥ 12)))) else (potsherdref12_With.j0 k l0 a1 a2 true))) = some (r1, r2) := by rw [if_pos rfl] at H; exact H
   clear H; have H := H1; clear H1; replace H := Option.bind_eq_some_iff.mp H; obtain ⟨t217, A70, H⟩ := H; replace H : (if t217 = true then (if a2 < 1 then (potsherdref12_With.j0 k l0 a1 a2 true) else (potsherdref12_With.j0 k l0 a1 a2 (decide (a2 ≥ 12)))) else (potsherdref12_With.j0 k l0 a1 a2 true)) = some (r1, r2) := H; have A7 := Aside0.mk A70; clear A70
   by_cases c8 : t217 = true
   ·
    subst c8
    have H1 : (if a2 < 1 then (potsherdref12_With.j0 k l0 a1 a2 true) else (potsherdref12_With.j0 k l0 a1 a2 (decide (a2 ≥ 12)))) = some (r1, r2) := by rw [if_pos rfl] at H; exact H
    clear H; have H := H1; clear H1
    by_cases c9 : a2 < 1
    ·
     rw [if_pos c9] at H; have c9b0 : decide (a2 < 1) = true := decide_eq_true c9; clear c9
     (first | rw [c9b0] | (simp only [i64_w, i32_w]; rw [c9b0]) | skip)
     have H' := Aside0.mk H; clear H
     go_wp2_with (first | ((with_reducible refine gate_callee (f := 23) rfl ?_); refine goesL_ (some 11) rfl rfl Try.func23 (by kernel_rfl) rfl #[.slice A0 l0.length c0] rfl (by (try simp only [List.map_toArray, List.map_cons, List.map_nil]); first | done | rfl | (simp only [List.length_drop, List.length_take]; rfl)) ?_; (with_reducible refine (potsherdref12_MayEntries.calls k _ _ l0 true _ ?side1 ?side2 A5.out).mono ?_); (case side1 => repeat (first | exact (Kd.C_below HR0.out HB.out) | (with_reducible refine Kd.C_alloc ?_ _) | (with_reducible refine Kd.C_drewN ?_ _) | (with_reducible refine Kd.C_drew ?_))); (case side2 => exact HC0.out); rintro e w10 ⟨rfl, hb⟩; refine ⟨_, rfl, ?_⟩; have n0_ := Aside0.mk (below_step (by repeat (first | (with_reducible first | exact HB.out | apply wA | apply wN | apply wD) | exact HB.out)) hb); clear HB; have HB := n0_; clear n0_; (try clear hb); (try clear hb2); (try clear hk); (try clear hi)) | (go_at_call 13; (with_reducible refine (potsherdref12_Name.calls k a1 true _ A7.out).mono ?_); rintro e w' ⟨rfl, ⟨nd, rfl⟩⟩))
     go_meet
     case rel => exact ⟨_, (true), (by first | rfl | (simp; done) | (simp [*]; done)), H', ⟨by first | omega | exact Nat.le_refl _⟩, ⟨by repeat (first | (with_reducible first | exact HB.out | apply wA | apply wN | apply wD) | exact HB.out)⟩⟩
    ·
     rw [if_neg c9] at H; have c9b0 : decide (a2 < 1) = false := decide_eq_false c9; clear c9
     (first | rw [c9b0] | (simp only [i64_w, i32_w]; rw [c9b0]) | skip)
     have H' := Aside0.mk H; clear H
     go_wp2_with (first | ((with_reducible refine gate_callee (f := 23) rfl ?_); refine goesL_ (some 11) rfl rfl Try.func23 (by kernel_rfl) rfl #[.slice A0 l0.length c0] rfl (by (try simp only [List.map_toArray, List.map_cons, List.map_nil]); first | done | rfl | (simp only [List.length_drop, List.length_take]; rfl)) ?_; (with_reducible refine (potsherdref12_MayEntries.calls k _ _ l0 true _ ?side1 ?side2 A5.out).mono ?_); (case side1 => repeat (first | exact (Kd.C_below HR0.out HB.out) | (with_reducible refine Kd.C_alloc ?_ _) | (with_reducible refine Kd.C_drewN ?_ _) | (with_reducible refine Kd.C_drew ?_))); (case side2 => exact HC0.out); rintro e w11 ⟨rfl, hb⟩; refine ⟨_, rfl, ?_⟩; have n0_ := Aside0.mk (below_step (by repeat (first | (with_reducible first | exact HB.out | apply wA | apply wN | apply wD) | exact HB.out)) hb); clear HB; have HB := n0_; clear n0_; (try clear hb); (try clear hb2); (try clear hk); (try clear hi)) | (go_at_call 13; (with_reducible refine (potsherdref12_Name.calls k a1 true _ A7.out).mono ?_); rintro e w' ⟨rfl, ⟨nd, rfl⟩⟩))
     go_meet
     case rel => exact ⟨_, (decide (a2 ≥ 12)), (by first | rfl | (simp; done) | (simp [*]; done)), H', ⟨by first | omega | exact Nat.le_refl _⟩, ⟨by repeat (first | (with_reducible first | exact HB.out | apply wA | apply wN | apply wD) | exact HB.out)⟩⟩
   ·
    replace c8 := Bool.eq_false_iff.mpr c8; subst c8
    have H1 : (potsherdref12_With.j0 k l0 a1 a2 true) = some (r1, r2) := by rw [if_neg (show ¬ (false = true) by decide)] at H; exact H
    clear H; have H := H1; clear H1; have H' := Aside0.mk H; clear H
    go_wp2_with (first | ((with_reducible refine gate_callee (f := 23) rfl ?_); refine goesL_ (some 11) rfl rfl Try.func23 (by kernel_rfl) rfl #[.slice A0 l0.length c0] rfl (by (try simp only [List.map_toArray, List.map_cons, List.map_nil]); first | done | rfl | (simp only [List.length_drop, List.length_take]; rfl)) ?_; (with_reducible refine (potsherdref12_MayEntries.calls k _ _ l0 true _ ?side1 ?side2 A5.out).mono ?_); (case side1 => repeat (first | exact (Kd.C_below HR0.out HB.out) | (with_reducible refine Kd.C_alloc ?_ _) | (with_reducible refine Kd.C_drewN ?_ _) | (with_reducible refine Kd.C_drew ?_))); (case side2 => exact HC0.out); rintro e w12 ⟨rfl, hb⟩; refine ⟨_, rfl, ?_⟩; have n0_ := Aside0.mk (below_step (by repeat (first | (with_reducible first | exact HB.out | apply wA | apply wN | apply wD) | exact HB.out)) hb); clear HB; have HB := n0_; clear n0_; (try clear hb); (try clear hb2); (try clear hk); (try clear hi)) | (go_at_call 13; (with_reducible refine (potsherdref12_Name.calls k a1 false _ A7.out).mono ?_); rintro e w' ⟨rfl, ⟨nd, rfl⟩⟩))
    go_meet
    case rel => exact ⟨_, (true), (by first | rfl | (simp; done) | (simp [*]; done)), H', ⟨by first | omega | exact Nat.le_refl _⟩, ⟨by repeat (first | (with_reducible first | exact HB.out | apply wA | apply wN | apply wD) | exact HB.out)⟩⟩
  ·
   replace c6 := Bool.eq_false_iff.mpr c6; subst c6
   have H1 : (potsherdref12_With.j0 k l0 a1 a2 true) = some (r1, r2) := by rw [if_neg (show ¬ (false = true) by decide)] at H; exact H
   clear H; have H := H1; clear H1; have H' := Aside0.mk H; clear H
   go_wp2_with (first | ((with_reducible refine gate_callee (f := 23) rfl ?_); refine goesL_ (some 11) rfl rfl Try.func23 (by kernel_rfl) rfl #[.slice A0 l0.length c0] rfl (by (try simp only [List.map_toArray, List.map_cons, List.map_nil]); first | done | rfl | (simp only [List.length_drop, List.length_take]; rfl)) ?_; (with_reducible refine (potsherdref12_MayEntries.calls k _ _ l0 false _ ?side1 ?side2 A5.out).mono ?_); (case side1 => repeat (first | exact (Kd.C_below HR0.out HB.out) | (with_reducible refine Kd.C_alloc ?_ _) | (with_reducible refine Kd.C_drewN ?_ _) | (with_reducible refine Kd.C_drew ?_))); (case side2 => exact HC0.out); rintro e w13 ⟨rfl, hb⟩; refine ⟨_, rfl, ?_⟩; have n0_ := Aside0.mk (below_step (by repeat (first | (with_reducible first | exact HB.out | apply wA | apply wN | apply wD) | exact HB.out)) hb); clear HB; have HB := n0_; clear n0_; (try clear hb); (try clear hb2); (try clear hk); (try clear hi)))
   go_meet
   case rel => exact ⟨_, (true), (by first | rfl | (simp; done) | (simp [*]; done)), H', ⟨by first | omega | exact Nat.le_refl _⟩, ⟨by repeat (first | (with_reducible first | exact HB.out | apply wA | apply wN | apply wD) | exact HB.out)⟩⟩
 case rest =>
  clear HC4
  try clear c1
  try clear c2
  try clear p2
  try clear c6
  try clear c8
  try clear c9
  try clear c9b0
  obtain ⟨kq, x9_3, rfl, HA, HJ3, HB⟩ := hcut
  cases kq with
  | zero => exact absurd HA.out (by simp [potsherdref12_With.j0])
  | succ kj3 =>
   have H := HA.out; clear HA; simp only [potsherdref12_With.j0] at H
   by_cases c14 : x9_3 = true
   ·
    subst c14
    have H1 : (some (([] : List (S38)), 1)) = some (r1, r2) := by rw [if_pos rfl] at H; exact H
    clear H; have H := H1; clear H1; simp only [Option.some.injEq, Prod.mk.injEq] at H; obtain ⟨rfl, rfl⟩ := H
    go_wp2
    go_ret2
    exact ⟨_, by first | rfl | exact congrArg (fun b_ => Ending.returned (Value.bool b_)) HRET.out | (rw [HRET.out]) | (simp [errW_none, errW_some] <;> rfl) | (simp [*, errW_none, errW_some] <;> rfl), by first | exact Kd.R_nil _ _ _ _ _ | exact Kd.N_nil _ _ _ _ _ | exact Kd.V_nil _ _ _ _ _ | exact Kd.Q_nil _ _ _ _ _ | exact Kd.S_nil _ _ _ _ _, by repeat (first | (with_reducible first | exact HB.out | apply wA | apply wN | apply wD) | exact HB.out)⟩
   ·
    replace c14 := Bool.eq_false_iff.mpr c14; subst c14
    have H1 : ((potsherdref12_At.f kj3 l0 a1).bind fun t218 => (if t218 ≥ 0 then (some (([] : List (S38)), 9)) else (if (l0.length : Int) ≥ 10 then (some (([] : List (S38)), 14)) else (potsherdref12_With.l0 kj3 l0 a1 a2 0)))) = some (r1, r2) := by rw [if_neg (show ¬ (false = true) by decide)] at H; exact H
    clear H; have H := H1; clear H1; replace H := Option.bind_eq_some_iff.mp H; obtain ⟨t218, A150, H⟩ := H; replace H : (if t218 ≥ 0 then (some (([] : List (S38)), 9)) else (if (l0.length : Int) ≥ 10 then (some (([] : List (S38)), 14)) else (potsherdref12_With.l0 kj3 l0 a1 a2 0))) = some (r1, r2) := H; have A15 := Aside0.mk A150; clear A150
    by_cases c16 : t218 ≥ 0
    ·
     rw [if_pos c16] at H; have c16b0 : decide (0 ≤ t218) = true := decide_eq_true c16; clear c16; simp only [Option.some.injEq, Prod.mk.injEq] at H; obtain ⟨rfl, rfl⟩ := H
     go_wp2_with (first | ((with_reducible refine gate_callee (f := 24) rfl ?_); refine goesL_ (some 29) rfl rfl Try.func24 (by kernel_rfl) rfl #[.slice A0 l0.length c0, .string a1] rfl (by (try simp only [List.map_toArray, List.map_cons, List.map_nil]); first | done | rfl | (simp only [List.length_drop, List.length_take]; rfl)) ?_; (with_reducible refine (potsherdref12_At.calls kj3 _ _ l0 a1 t218 _ ?side1 ?side2 A15.out).mono ?_); (case side1 => repeat (first | exact (Kd.C_below HR0.out HB.out) | (with_reducible refine Kd.C_alloc ?_ _) | (with_reducible refine Kd.C_drewN ?_ _) | (with_reducible refine Kd.C_drew ?_))); (case side2 => exact HC0.out); rintro e w17 ⟨rfl, hb⟩; refine ⟨_, rfl, ?_⟩; have n0_ := Aside0.mk (below_step (by repeat (first | (with_reducible first | exact HB.out | apply wA | apply wN | apply wD) | exact HB.out)) hb); clear HB; have HB := n0_; clear n0_; (try clear hb); (try clear hb2); (try clear hk); (try clear hi)))
     go_ret2
     exact ⟨_, by first | rfl | exact congrArg (fun b_ => Ending.returned (Value.bool b_)) HRET.out | (rw [HRET.out]) | (simp [errW_none, errW_some] <;> rfl) | (simp [*, errW_none, errW_some] <;> rfl), by first | exact Kd.R_nil _ _ _ _ _ | exact Kd.N_nil _ _ _ _ _ | exact Kd.V_nil _ _ _ _ _ | exact Kd.Q_nil _ _ _ _ _ | exact Kd.S_nil _ _ _ _ _, by repeat (first | (with_reducible first | exact HB.out | apply wA | apply wN | apply wD) | exact HB.out)⟩
    ·
     rw [if_neg c16] at H; have c16b0 : decide (0 ≤ t218) = false := decide_eq_false c16; clear c16
     by_cases c18 : (l0.length : Int) ≥ 10
     ·
      rw [if_pos c18] at H; have c18b0 : decide (10 ≤ (l0.length : Int)) = true := decide_eq_true c18; have c18b1 : decide (10 ≤ l0.length) = true := decide_eq_true (by omega); clear c18; simp only [Option.some.injEq, Prod.mk.injEq] at H; obtain ⟨rfl, rfl⟩ := H
      go_wp2_with (first | ((with_reducible refine gate_callee (f := 24) rfl ?_); refine goesL_ (some 29) rfl rfl Try.func24 (by kernel_rfl) rfl #[.slice A0 l0.length c0, .string a1] rfl (by (try simp only [List.map_toArray, List.map_cons, List.map_nil]); first | done | rfl | (simp only [List.length_drop, List.length_take]; rfl)) ?_; (with_reducible refine (potsherdref12_At.calls kj3 _ _ l0 a1 t218 _ ?side1 ?side2 A15.out).mono ?_); (case side1 => repeat (first | exact (Kd.C_below HR0.out HB.out) | (with_reducible refine Kd.C_alloc ?_ _) | (with_reducible refine Kd.C_drewN ?_ _) | (with_reducible refine Kd.C_drew ?_))); (case side2 => exact HC0.out); rintro e w19 ⟨rfl, hb⟩; refine ⟨_, rfl, ?_⟩; have n0_ := Aside0.mk (below_step (by repeat (first | (with_reducible first | exact HB.out | apply wA | apply wN | apply wD) | exact HB.out)) hb); clear HB; have HB := n0_; clear n0_; (try clear hb); (try clear hb2); (try clear hk); (try clear hi)))
      go_ret2
      exact ⟨_, by first | rfl | exact congrArg (fun b_ => Ending.returned (Value.bool b_)) HRET.out | (rw [HRET.out]) | (simp [errW_none, errW_some] <;> rfl) | (simp [*, errW_none, errW_some] <;> rfl), by first | exact Kd.R_nil _ _ _ _ _ | exact Kd.N_nil _ _ _ _ _ | exact Kd.V_nil _ _ _ _ _ | exact Kd.Q_nil _ _ _ _ _ | exact Kd.S_nil _ _ _ _ _, by repeat (first | (with_reducible first | exact HB.out | apply wA | apply wN | apply wD) | exact HB.out)⟩
     ·
      rw [if_neg c18] at H; have c18b0 : decide (10 ≤ (l0.length : Int)) = false := decide_eq_false c18; have c18b1 : decide (10 ≤ l0.length) = false := decide_eq_false (by omega); clear c18; have H' := Aside0.mk H; clear H
      go_wp2_with (first | ((with_reducible refine gate_callee (f := 24) rfl ?_); refine goesL_ (some 29) rfl rfl Try.func24 (by kernel_rfl) rfl #[.slice A0 l0.length c0, .string a1] rfl (by (try simp only [List.map_toArray, List.map_cons, List.map_nil]); first | done | rfl | (simp only [List.length_drop, List.length_take]; rfl)) ?_; (with_reducible refine (potsherdref12_At.calls kj3 _ _ l0 a1 t218 _ ?side1 ?side2 A15.out).mono ?_); (case side1 => repeat (first | exact (Kd.C_below HR0.out HB.out) | (with_reducible refine Kd.C_alloc ?_ _) | (with_reducible refine Kd.C_drewN ?_ _) | (with_reducible refine Kd.C_drew ?_))); (case side2 => exact HC0.out); rintro e w20 ⟨rfl, hb⟩; refine ⟨_, rfl, ?_⟩; have n0_ := Aside0.mk (below_step (by repeat (first | (with_reducible first | exact HB.out | apply wA | apply wN | apply wD) | exact HB.out)) hb); clear HB; have HB := n0_; clear n0_; (try clear hb); (try clear hb2); (try clear hk); (try clear hi)))
      go_loopg [8] kj3 (fun kq v8 w' => ∃ (x8_2 : Int), v8 = .int .i64 x8_2 ∧ Aside0 (potsherdref12_With.l0 kq l0 a1 a2 x8_2 = some (r1, r2)) ∧ Aside0 (kq ≤ kj3) ∧ Aside0 (Below w.heap.size w w'))
      case atStart => exact ⟨(0), (by first | rfl | (simp; done) | (simp [*]; done)), H', ⟨Nat.le_refl _⟩, ⟨by repeat (first | (with_reducible first | exact HB.out | apply wA | apply wN | apply wD) | exact HB.out)⟩⟩
      case round =>
       clear H'
       try clear c1
       try clear c2
       try clear p2
       try clear c6
       try clear c8
       try clear c9
       try clear c9b0
       try clear c14
       try clear c16
       try clear c16b0
       try clear c18
       try clear c18b0
       try clear c18b1
       try clear c19
       try clear p2
       obtain ⟨x8_2, rfl, HA, HK2, HB⟩ := hrel
       cases gk with
       | zero => exact absurd HA.out (by simp [potsherdref12_With.l0])
       | succ k2 =>
        have H := HA.out; clear HA; simp only [potsherdref12_With.l0] at H
        by_cases c21 : x8_2 < (l0.length : Int)
        ·
         rw [if_pos c21] at H; have c21b0 : decide (x8_2 < (l0.length : Int)) = true := decide_eq_true c21; clear c21
         by_cases c22 : 0 ≤ x8_2
         ·
          rw [if_pos c22] at H; have c22b0 : decide (0 ≤ x8_2) = true := decide_eq_true c22; clear c22
          by_cases c23 : (Op.bytesLess (((rd_T38 l0 x8_2).f0).toList) a1.toList) = true
          ·
           rw [if_pos c23] at H; have c23b0 : (Op.bytesLess (((rd_T38 l0 x8_2).f0).toList) a1.toList) = true := c23; clear c23; have H' := Aside0.mk H; clear H; have p219 : 0 ≤ (x8_2 : Int) := of_decide_eq_true (by first | (with_reducible assumption) | assumption); have q219 : x8_2 < (l0.length : Int) := of_decide_eq_true (by first | (with_reducible assumption) | assumption); obtain ⟨ad219, e219, hx219_0, hx219_1⟩ := at_T38 HR0.out x8_2 p219 q219
           cases e219
           replace hx219_0 := (HB.out.cell (World.block_lt_of_cell? w _ hx219_0)).trans hx219_0; replace hx219_1 := (HB.out.cell (World.block_lt_of_cell? w _ hx219_1)).trans hx219_1; replace p219 := eq_true p219; replace q219 := eq_true q219
           go_wp2
           go_roundg k2
           case measure => have := HJ3.out; have := HK2.out; omega
           case rel => exact ⟨(wrap64 (x8_2 + 1)), (by first | rfl | (simp; done) | (simp [*]; done)), H', ⟨by have := HJ3.out; have := HK2.out; omega⟩, ⟨by repeat (first | (with_reducible first | exact HB.out | apply wA | apply wN | apply wD) | exact HB.out)⟩⟩
          ·
           rw [if_neg c23] at H
           have c23b0 : (Op.bytesLess (((rd_T38 l0 x8_2).f0).toList) a1.toList) = false := by simpa using c23
           clear c23; have c24b0 := eq_true (of_decide_eq_true (by first | (with_reducible assumption) | assumption) : 0 ≤ x8_2)
           by_cases c25 : x8_2 ≤ (l0.length : Int)
           ·
            rw [if_pos c25] at H; have c25b0 := eq_true c25; have c25b1 : decide (x8_2 ≤ (l0.length : Int)) = true := decide_eq_true c25; clear c25; obtain ⟨y220, hy220⟩ : ∃ y_ : List (S38), y_ = (l0.take (x8_2 : Int).toNat) := ⟨_, rfl⟩
            replace H : (if ([] : List (S38)).length + y220.length < 5864062014805 then ((some (([] : List (S38)) ++ y220 : List (S38))).bind fun y224 => ((some (([(⟨a1, a2⟩ : S38)] : List (S38)) : List (S38))).bind fun y227 => (if y224.length + y227.length < 5864062014805 then ((some (y224 ++ y227 : List (S38))).bind fun y230 => ((some (l0.drop (x8_2 : Int).toNat : List (S38))).bind fun y233 => (if y230.length + y233.length < 5864062014805 then (some ((y230 ++ y233), 0)) else (none)))) else (none)))) else (none)) = some (r1, r2) := by first | (rw [hy220]; with_reducible exact H) | (have H2_ := (Option.bind_some _ _).symm.trans H; rw [hy220]; with_reducible exact H2_) | (have H2_ := (Option.bind_some _ _).symm.trans H; with_reducible exact H2_) | with_reducible exact H | (rw [hy220]; exact H) | exact H
            have Ny220 := Aside0.mk hy220; clear hy220
            by_cases c26 : ([] : List (S38)).length + y220.length < 5864062014805
            ·
             rw [if_pos c26] at H; have LMc26 := Aside0.mk c26; clear c26; obtain ⟨y224, hy224⟩ : ∃ y_ : List (S38), y_ = (([] : List (S38)) ++ y220) := ⟨_, rfl⟩
             replace H : ((some (([(⟨a1, a2⟩ : S38)] : List (S38)) : List (S38))).bind fun y227 => (if y224.length + y227.length < 5864062014805 then ((some (y224 ++ y227 : List (S38))).bind fun y230 => ((some (l0.drop (x8_2 : Int).toNat : List (S38))).bind fun y233 => (if y230.length + y233.length < 5864062014805 then (some ((y230 ++ y233), 0)) else (none)))) else (none))) = some (r1, r2) := by first | (rw [hy224]; with_reducible exact H) | (have H2_ := (Option.bind_some _ _).symm.trans H; rw [hy224]; with_reducible exact H2_) | (have H2_ := (Option.bind_some _ _).symm.trans H; with_reducible exact H2_) | with_reducible exact H | (rw [hy224]; exact H) | exact H
             have Ny224 := Aside0.mk hy224; clear hy224; obtain ⟨y227, hy227⟩ : ∃ y_ : List (S38), y_ = (([(⟨a1, a2⟩ : S38)] : List (S38))) := ⟨_, rfl⟩
             replace H : (if y224.length + y227.length < 5864062014805 then ((some (y224 ++ y227 : List (S38))).bind fun y230 => ((some (l0.drop (x8_2 : Int).toNat : List (S38))).bind fun y233 => (if y230.length + y233.length < 5864062014805 then (some ((y230 ++ y233), 0)) else (none)))) else (none)) = some (r1, r2) := by first | (rw [hy227]; with_reducible exact H) | (have H2_ := (Option.bind_some _ _).symm.trans H; rw [hy227]; with_reducible exact H2_) | (have H2_ := (Option.bind_some _ _).symm.trans H; with_reducible exact H2_) | with_reducible exact H | (rw [hy227]; exact H) | exact H
             have Ny227 := Aside0.mk hy227; clear hy227
             by_cases c27 : y224.length + y227.length < 5864062014805
             ·
              rw [if_pos c27] at H; have LMc27 := Aside0.mk c27; clear c27; obtain ⟨y230, hy230⟩ : ∃ y_ : List (S38), y_ = (y224 ++ y227) := ⟨_, rfl⟩
              replace H : ((some (l0.drop (x8_2 : Int).toNat : List (S38))).bind fun y233 => (if y230.length + y233.length < 5864062014805 then (some ((y230 ++ y233), 0)) else (none))) = some (r1, r2) := by first | (rw [hy230]; with_reducible exact H) | (have H2_ := (Option.bind_some _ _).symm.trans H; rw [hy230]; with_reducible exact H2_) | (have H2_ := (Option.bind_some _ _).symm.trans H; with_reducible exact H2_) | with_reducible exact H | (rw [hy230]; exact H) | exact H
              have Ny230 := Aside0.mk hy230; clear hy230; have c28b0 := eq_true (of_decide_eq_true (by first | (with_reducible assumption) | assumption) : 0 ≤ x8_2); have c29b0 := eq_true (of_decide_eq_true (by first | (with_reducible assumption) | assumption) : x8_2 ≤ (l0.length : Int)); obtain ⟨y233, hy233⟩ : ∃ y_ : List (S38), y_ = (l0.drop (x8_2 : Int).toNat) := ⟨_, rfl⟩
              replace H : (if y230.length + y233.length < 5864062014805 then (some ((y230 ++ y233), 0)) else (none)) = some (r1, r2) := by first | (rw [hy233]; with_reducible exact H) | (have H2_ := (Option.bind_some _ _).symm.trans H; rw [hy233]; with_reducible exact H2_) | (have H2_ := (Option.bind_some _ _).symm.trans H; with_reducible exact H2_) | with_reducible exact H | (rw [hy233]; exact H) | exact H
              have Ny233 := Aside0.mk hy233; clear hy233
              by_cases c30 : y230.length + y233.length < 5864062014805
              ·
               rw [if_pos c30] at H; have LMc30 := Aside0.mk c30; clear c30; obtain ⟨y237, hy237⟩ : ∃ y_ : List (S38), y_ = (y230 ++ y233) := ⟨_, rfl⟩
               replace H : (some (y237, 0)) = some (r1, r2) := by first | (rw [hy237]; with_reducible exact H) | (have H2_ := (Option.bind_some _ _).symm.trans H; rw [hy237]; with_reducible exact H2_) | (have H2_ := (Option.bind_some _ _).symm.trans H; with_reducible exact H2_) | with_reducible exact H | (rw [hy237]; exact H) | exact H
               have Ny237 := Aside0.mk hy237; clear hy237; simp only [Option.some.injEq, Prod.mk.injEq] at H; obtain ⟨rfl, rfl⟩ := H; have p219 : 0 ≤ (x8_2 : Int) := of_decide_eq_true (by first | (with_reducible assumption) | assumption); have q219 : x8_2 < (l0.length : Int) := of_decide_eq_true (by first | (with_reducible assumption) | assumption); obtain ⟨ad219, e219, hx219_0, hx219_1⟩ := at_T38 HR0.out x8_2 p219 q219
               cases e219
               replace hx219_0 := (HB.out.cell (World.block_lt_of_cell? w _ hx219_0)).trans hx219_0; replace hx219_1 := (HB.out.cell (World.block_lt_of_cell? w _ hx219_1)).trans hx219_1; replace p219 := eq_true p219; replace q219 := eq_true q219
               try go_wp2
               have n0_ := Aside0.mk (wD HB.out); clear HB; have HB := n0_; clear n0_; have q32 : (x8_2 : Int) ≤ ((l0.length : Int) : Int) := of_decide_eq_true (by first | (with_reducible assumption) | assumption); obtain ⟨i032, hi032, _, hsz32, _⟩ := info_parts info38; have hroom32 : l0.length ≤ c0 := HC0.out; have hC32 : Kd.C k38 _ (some ad219) l0.length l0 := HR0.out; have hcut32 := cut_to (P := Try.prog) 26 38 .i64 Try.underlying26 hi032 (some ad219) l0.length c0 x8_2 (of_decide_eq_true (by first | (with_reducible assumption) | assumption)) q32 hroom32; have hr32 := Kd.C_take (m := (x8_2 : Int).toNat) hC32 (by omega); have hy32 : y220.length = (x8_2 : Int).toNat := (by rw [Ny220.out, List.length_take]; omega)
               rw [← Ny220.out] at hr32; rw [← hy32] at hcut32; have HR223 := Aside0.mk hr32; have HC223 := Aside0.mk (show y220.length ≤ c0 from by omega); clear hr32 hC32 hroom32 hi032 hsz32; have KY32 := Aside0.mk hy32; clear hy32; replace q32 := eq_true q32; have q33 : (x8_2 : Int) ≤ ((l0.length : Int) : Int) := of_decide_eq_true (by first | (with_reducible assumption) | assumption); obtain ⟨i033, hi033, _, hsz33, _⟩ := info_parts info38; have hroom33 : l0.length ≤ c0 := HC0.out; have hC33 : Kd.C k38 _ (some ad219) l0.length l0 := HR0.out; have q033 : (0 : Int) ≤ (x8_2 : Int) := of_decide_eq_true (by first | (with_reducible assumption) | assumption); have hcut33 := cut_from (P := Try.prog) 26 38 .i64 Try.underlying26 hi033 2 hsz33 (some ad219) l0.length c0 x8_2 q033 q33; have hr33 := Kd.C_drop (m := (x8_2 : Int).toNat) (c := c0) hC33 (by omega) hroom33; obtain ⟨A33, hA33⟩ : ∃ A1, A1 = (if c0 = (x8_2 : Int).toNat then (some ad219) else ((some ad219) : Option Addr).map (·.add ((x8_2 : Int).toNat * 2))) := ⟨_, rfl⟩; obtain ⟨c33, hc33⟩ : ∃ c1, c1 = c0 - (x8_2 : Int).toNat := ⟨_, rfl⟩; have hy33 : y233.length = l0.length - (x8_2 : Int).toNat := (by rw [Ny233.out, List.length_drop] <;> omega); rw [show (l0).drop (x8_2 : Int).toNat = y233 from Ny233.out.symm] at hr33; replace hr33 : Kd.C k38 _ A33 y233.length y233 := (by rw [hA33]; exact hr33)
               rw [← hy33, ← hA33, ← hc33] at hcut33; have HR236 := Aside0.mk hr33; have HC236 := Aside0.mk (show y233.length ≤ c33 from by rw [hy33, hc33]; exact Nat.sub_le_sub_right hroom33 _)
               clear hr33 hC33 hroom33 hi033 hsz33 hc33; have KY33 := Aside0.mk hy33; have KA33 := Aside0.mk hA33; clear hy33 hA33; replace q33 := eq_true q33; refine start_ (n := 15) (S := fun w' => True) (ds := []) B13_0 (by kernel_rfl) rfl rfl trivial (fun hHeld => ?_); refine with_tabW potsherdref12_With.tab10 potsherdref12_With.bits10 (fun HT_ HW_ => ?_); generalize wr.drew = w31 at HB HR223 HR236 hHeld ⊢; refine pure_ (i := 0) (N := some 50) (v := ?_) (a' := ?_) B13_1 rfl rfl (any_of HT_.out (by kernel_rfl)) (fun _ _ _ h => h) (Or.inl ⟨by rfl, ?_⟩) ?_ ?_; rotate_left
               ·
                intro w'; go_simp; with_reducible rfl
               rotate_left
               ·
                simp only [Act.put, lT, l0_, lS, i64_w, i32_w]; rfl
               refine pure_ (i := 1) (N := some 51) (v := ?_) (a' := ?_) B13_2 rfl rfl (any_of HT_.out (by kernel_rfl)) (fun _ _ _ h => h) (Or.inl ⟨by rfl, ?_⟩) ?_ ?_; rotate_left
               ·
                intro w'; go_simp; with_reducible rfl
               rotate_left
               ·
                simp only [Act.put, lT, l0_, lS, i64_w, i32_w]; rfl
               refine pure_ (i := 2) (N := some 52) (v := ?_) (a' := ?_) B13_3 rfl rfl (any_of HT_.out (by kernel_rfl)) (fun _ _ _ h => h) (Or.inl ⟨by rfl, ?_⟩) ?_ ?_; rotate_left
               ·
                intro w'; go_simp; with_reducible rfl
               rotate_left
               ·
                simp only [Act.put, lT, l0_, lS, i64_w, i32_w]; rfl
               refine pure_ (i := 4) (N := some 54) (v := ?_) (a' := ?_) B13_4 rfl rfl (any_of HT_.out (by kernel_rfl)) (fun _ _ _ h => h) (Or.inl ⟨by rfl, ?_⟩) ?_ ?_; rotate_left
               ·
                intro w'; go_simp; with_reducible rfl
               rotate_left
               ·
                simp only [Act.put, lT, l0_, lS, i64_w, i32_w]; rfl
               refine pure_ (i := 5) (N := some 55) (v := ?_) (a' := ?_) B13_5 rfl rfl (any_of HT_.out (by kernel_rfl)) (fun _ _ _ h => h) (Or.inl ⟨by rfl, ?_⟩) ?_ ?_; rotate_left
               ·
                intro w'; go_simp; with_reducible rfl
               rotate_left
               ·
                simp only [Act.put, lT, l0_, lS, i64_w, i32_w]; rfl
               refine pure_ (i := 6) (N := some 56) (v := ?_) (a' := ?_) B13_6 rfl rfl (any_of HT_.out (by kernel_rfl)) (fun _ _ _ h => h) (Or.inl ⟨by rfl, ?_⟩) ?_ ?_; rotate_left
               ·
                intro w'; go_simp; with_reducible rfl
               rotate_left
               ·
                simp only [Act.put, lT, l0_, lS, i64_w, i32_w]; rfl
               refine pure_ (i := 9) (N := some 59) (v := ?_) (a' := ?_) B13_7 rfl rfl (any_of HT_.out (by kernel_rfl)) (fun _ _ _ h => h) (Or.inl ⟨by rfl, ?_⟩) ?_ ?_; rotate_left
               ·
                intro w'; go_simp; with_reducible rfl
               rotate_left
               ·
                simp only [Act.put, lT, l0_, lS, i64_w, i32_w]; rfl
               refine pure_ (i := 10) (N := some 60) (v := ?_) (a' := ?_) B13_8 rfl rfl (any_of HT_.out (by kernel_rfl)) (fun _ _ _ h => h) (Or.inl ⟨by rfl, ?_⟩) ?_ ?_; rotate_left
               ·
                intro w'; go_simp; with_reducible rfl
               rotate_left
               ·
                simp only [Act.put, lT, l0_, lS, i64_w, i32_w]; rfl
               refine pure_ (i := 11) (N := some 61) (v := ?_) (a' := ?_) B13_9 rfl rfl (any_of HT_.out (by kernel_rfl)) (fun _ _ _ h => h) (Or.inl ⟨by rfl, ?_⟩) ?_ ?_; rotate_left
               ·
                intro w'; go_simp; with_reducible rfl
               rotate_left
               ·
                simp only [Act.put, lT, l0_, lS, i64_w, i32_w]; rfl
               refine join_ (σ := Value × Value) 4 B13_10 (fun s_ => [(53, s_.1), (57, s_.2)]) (fun s_ w' => (Kd.R k38 38 w' w.heap.size (fun k_ => some k_ ≠ (s_.2 : Value).ownBlock) s_.1 y224) ∧ (Kd.R k38 38 w' w.heap.size (fun k_ => some k_ ≠ (s_.1 : Value).ownBlock) s_.2 y227) ∧ (Below w.heap.size w w')) ?_ ?_; rotate_left
               ·
                intro hCont; refine two_ (i := 3) (j := 7) (Ni := some 53) (Nj := some 57) B13_11 B13_12 rfl rfl rfl rfl (two_of HT_.out (by kernel_rfl)) (by decide) (by decide) (fun K hK => ?_) (fun K hK => ?_)
                ·
                 skip
                 refine Kd.R_append_rows_step k38 (w0 := w) w.heap.size rfl (.const (.slice none 0 0)) (.tmp 52) 26 38 (.agg #[(.string ⟨#[]⟩), (.int .i64 0)]) 24 rfl Try.underlying26 info38 rfl (by decide) (by omega) (.slice none 0 0) ([] : List (S38)) y220 _ _ _ (fun _ => True) (fun _ => False) rfl rfl ?aO ?aR (fun _ _ h => h) (fun _ h => h.elim) ?aF ?aB ?aS ?aL ?_
                 (case aR => repeat (first | exact (Kd.C_below HR223.out HB.out) | (with_reducible refine Kd.C_alloc ?_ _) | (with_reducible refine Kd.C_drewN ?_ _) | (with_reducible refine Kd.C_drew ?_)))
                 (case aB => exact (by repeat (first | (with_reducible first | exact HB.out | apply wA | apply wN | apply wD) | exact HB.out)))
                 (case aF => exact (fun _ _ => trivial))
                 (case aO => exact ((Kd.R_nil _ _ _ _ (fun _ => True))))
                 (case aS => exact (below_size (by repeat (first | (with_reducible first | exact HB.out | apply wA | apply wN | apply wD) | exact HB.out))))
                 (case aL => have := LMc26.out; omega)
                 intro v225 w34 ho hb hg hat; rw [← Ny224.out] at ho; have n0_ := Aside0.mk (hb); have n1_ := Aside0.mk (ho); clear HB; have HB := n0_; have HO226 := n1_; clear n0_ n1_; clear ho hb hg hat; refine hK.out _ _ trivial (fun hHeld => ?_); clear hK K; refine norm_ (a' := ?_) ?_ ?_; rotate_left
                 ·
                  show Act.put _ (some 53) _ = _
                  simp only [Act.put, lT, l0_, lS, i64_w, i32_w]; rfl
                 refine one_ (i := 7) (N := some 57) B13_10 rfl rfl (one_of HT_.out (by kernel_rfl)) (by decide) (fun K hK => ?_); refine Kd.R_lit_step k38 _ 38 ?hg (N := 57) ?hd (xs := ([(⟨a1, a2⟩ : S38)] : List (S38))) (inner := [.string a1, .int .i64 a2]) (ok := fun _ => True) (okp := fun _ => True) ?hr ?hp (fun _ hk => hk) trivial (Below.refl _ _) (Nat.le_refl _) (by simp) ?_; (case hd => rfl); (case hg => rfl); (case hr => first | (go_simp; done) | (go_simp; rfl)); (case hp => exact (Reps.c2 (show Kd.M k38 _ _ _ (⟨a1, a2⟩ : S38) [.string a1, .int .i64 a2] from (k38_mkM _ _ _ (⟨a1, a2⟩ : S38) )) (Reps.none _ _)))
                 intro v228 w35 ho36 hb hg_ hnew_; clear hg_ hnew_
                 (first | rw [← Ny227.out] at ho36 | (simp only [Int.reduceToNat] at ho36; rw [← Ny227.out] at ho36))
                 have n0_ := Aside0.mk (Kd.R_elder' (by (with_reducible repeat (first | apply Kd.R_alloc | apply Kd.R_drewN | apply Kd.R_drew)); exact HO226.out) (Kd.R_base ho36) hb)
                 have n1_ := Aside0.mk (Kd.R_lower (Kd.R_new' ho36 (Kd.R_lt (by (with_reducible repeat (first | apply Kd.R_alloc | apply Kd.R_drewN | apply Kd.R_drew)); exact HO226.out))) (below_size (by repeat (first | (with_reducible first | exact HB.out | apply wA | apply wN | apply wD) | exact HB.out))))
                 have n2_ := Aside0.mk (below_step (by repeat (first | (with_reducible first | exact HB.out | apply wA | apply wN | apply wD) | exact HB.out)) hb); clear HO226; clear HB; have HO226 := n0_; have HO229 := n1_; have HB := n2_; clear n0_ n1_ n2_; clear hb ho36; refine hK.out _ _ trivial (fun hHeld => ?_); clear hK K; refine norm_ (a' := ?_) ?_ ?_; rotate_left
                 ·
                  show Act.put _ (some 57) _ = _
                  simp only [Act.put, lT, l0_, lS, i64_w, i32_w]; rfl
                 exact norm_ (by simp only [putAll, Act.put, lT, l0_, lS]) (hCont (v225, v228) _ ⟨(by (with_reducible repeat (first | apply Kd.R_alloc | apply Kd.R_drewN | apply Kd.R_drew)); exact Kd.R_mono HO226.out (fun _ hk => hk.2)), (by (with_reducible repeat (first | apply Kd.R_alloc | apply Kd.R_drewN | apply Kd.R_drew)); exact Kd.R_mono HO229.out (fun _ hk => hk.2)), (by repeat (first | (with_reducible first | exact HB.out | apply wA | apply wN | apply wD) | exact HB.out))⟩)
                ·
                 skip
                 refine Kd.R_lit_step k38 _ 38 ?hg (N := 57) ?hd (xs := ([(⟨a1, a2⟩ : S38)] : List (S38))) (inner := [.string a1, .int .i64 a2]) (ok := fun _ => True) (okp := fun _ => True) ?hr ?hp (fun _ hk => hk) trivial (Below.refl _ _) (Nat.le_refl _) (by simp) ?_; (case hd => rfl); (case hg => rfl); (case hr => first | (go_simp; done) | (go_simp; rfl)); (case hp => exact (Reps.c2 (show Kd.M k38 _ _ _ (⟨a1, a2⟩ : S38) [.string a1, .int .i64 a2] from (k38_mkM _ _ _ (⟨a1, a2⟩ : S38) )) (Reps.none _ _)))
                 intro v228 w34 ho35 hb hg_ hnew_; clear hg_ hnew_
                 (first | rw [← Ny227.out] at ho35 | (simp only [Int.reduceToNat] at ho35; rw [← Ny227.out] at ho35))
                 have n0_ := Aside0.mk (Kd.R_lower ho35 (below_size (by repeat (first | (with_reducible first | exact HB.out | apply wA | apply wN | apply wD) | exact HB.out)))); have n1_ := Aside0.mk (below_step (by repeat (first | (with_reducible first | exact HB.out | apply wA | apply wN | apply wD) | exact HB.out)) hb); clear HB; have HO229 := n0_; have HB := n1_; clear n0_ n1_; clear hb ho35; refine hK.out _ _ trivial (fun hHeld => ?_); clear hK K; refine norm_ (a' := ?_) ?_ ?_; rotate_left
                 ·
                  show Act.put _ (some 57) _ = _
                  simp only [Act.put, lT, l0_, lS, i64_w, i32_w]; rfl
                 refine one_ (i := 3) (N := some 53) B13_10 rfl rfl (one_of HT_.out (by kernel_rfl)) (by decide) (fun K hK => ?_); refine Kd.R_append_rows_step k38 (w0 := w) w.heap.size rfl (.const (.slice none 0 0)) (.tmp 52) 26 38 (.agg #[(.string ⟨#[]⟩), (.int .i64 0)]) 24 rfl Try.underlying26 info38 rfl (by decide) (by omega) (.slice none 0 0) ([] : List (S38)) y220 _ _ _ (fun k_ => some k_ ≠ (v228 : Value).ownBlock) (fun _ => False) rfl rfl ?aO ?aR (fun _ _ h => h) (fun _ h => h.elim) ?aF ?aB ?aS ?aL ?_
                 (case aR => repeat (first | exact (Kd.C_below HR223.out HB.out) | (with_reducible refine Kd.C_alloc ?_ _) | (with_reducible refine Kd.C_drewN ?_ _) | (with_reducible refine Kd.C_drew ?_)))
                 (case aB => exact (by repeat (first | (with_reducible first | exact HB.out | apply wA | apply wN | apply wD) | exact HB.out)))
                 (case aF => exact (fun k_ hk => Kd.fresh' (Kd.R_lt (by (with_reducible repeat (first | apply Kd.R_alloc | apply Kd.R_drewN | apply Kd.R_drew)); exact HO229.out)) k_ hk))
                 (case aO => exact ((Kd.R_nil _ _ _ _ (fun k_ => some k_ ≠ (v228 : Value).ownBlock))))
                 (case aS => exact (below_size (by repeat (first | (with_reducible first | exact HB.out | apply wA | apply wN | apply wD) | exact HB.out))))
                 (case aL => have := LMc26.out; omega)
                 intro v225 w36 ho hb hg hat; rw [← Ny224.out] at ho; have n0_ := Aside0.mk (Kd.R_after (Kd.R_apart_nil (by (with_reducible repeat (first | apply Kd.R_alloc | apply Kd.R_drewN | apply Kd.R_drew)); exact HO229.out)) hg hat)
                 have n1_ := Aside0.mk (hb); have n2_ := Aside0.mk (ho); clear HO229; clear HB; have HO229 := n0_; have HB := n1_; have HO226 := n2_; clear n0_ n1_ n2_; clear ho hb hg hat; refine hK.out _ _ trivial (fun hHeld => ?_); clear hK K; refine norm_ (a' := ?_) ?_ ?_; rotate_left
                 ·
                  show Act.put _ (some 53) _ = _
                  simp only [Act.put, lT, l0_, lS, i64_w, i32_w]; rfl
                 exact norm_ (by simp only [putAll, Act.put, lT, l0_, lS]) (hCont (v225, v228) _ ⟨(by (with_reducible repeat (first | apply Kd.R_alloc | apply Kd.R_drewN | apply Kd.R_drew)); exact HO226.out), (by (with_reducible repeat (first | apply Kd.R_alloc | apply Kd.R_drewN | apply Kd.R_drew)); exact Kd.R_mono HO229.out (fun _ hk => hk.2)), (by repeat (first | (with_reducible first | exact HB.out | apply wA | apply wN | apply wD) | exact HB.out))⟩)
               rintro ⟨v225, v228⟩ w37 ⟨h0_, h1_, h2_⟩; have n0_ : Aside0 (Kd.R k38 38 w37 w.heap.size (fun k_ => some k_ ≠ (v228 : Value).ownBlock) v225 y224) := ⟨h0_⟩; have n1_ : Aside0 (Kd.R k38 38 w37 w.heap.size (fun k_ => some k_ ≠ (v225 : Value).ownBlock) v228 y227) := ⟨h1_⟩; have n2_ : Aside0 (Below w.heap.size w w37) := ⟨h2_⟩; clear HB; clear h0_ h1_ h2_; have HO226 := n0_; have HO229 := n1_; have HB := n2_; clear n0_ n1_ n2_; have hHeld := trivial; obtain ⟨Ao39, co39, eo39⟩ := Kd.R_slice HO229.out
               (first | subst eo39 | (injection eo39 with f1_ f2_ f3_; have f4_ := f1_.symm; have f5_ := f3_.symm; clear f1_ f2_ f3_; subst f4_; subst f5_))
               refine norm_ (a' := ?_) ?_ ?_; rotate_left
               ·
                simp only [putAll, Act.put, lT, l0_, lS]; rfl
               refine one_ (i := 8) (N := some 58) B13_13 rfl rfl (one_of HT_.out (by kernel_rfl)) (by decide) (fun K hK => ?_); refine Kd.R_append_rows_step k38 (w0 := w) w.heap.size (by rfl) (.tmp 53) (.tmp 57) 26 38 (.agg #[(.string ⟨#[]⟩), (.int .i64 0)]) 24 rfl Try.underlying26 info38 rfl (by decide) (by omega) v225 y224 y227 _ _ _ (fun k_ => some k_ ≠ (.slice Ao39 y227.length co39 : Value).ownBlock) (fun _ => False) rfl rfl ?aO ?aR (fun _ _ h => h) (fun _ h => h.elim) ?aF ?aB ?aS ?aL ?_
               (case aR => repeat (first | exact (Kd.R_reads' HO229.out).2.2 | (with_reducible refine Kd.C_alloc ?_ _) | (with_reducible refine Kd.C_drewN ?_ _) | (with_reducible refine Kd.C_drew ?_)))
               (case aB => exact (by repeat (first | (with_reducible first | exact HB.out | apply wA | apply wN | apply wD) | exact HB.out)))
               (case aF => exact (fun k_ hk => Kd.fresh' (Kd.R_lt (by (with_reducible repeat (first | apply Kd.R_alloc | apply Kd.R_drewN | apply Kd.R_drew)); exact HO229.out)) k_ hk))
               (case aO => exact (by (with_reducible repeat (first | apply Kd.R_alloc | apply Kd.R_drewN | apply Kd.R_drew)); exact HO226.out))
               (case aS => exact (below_size (by repeat (first | (with_reducible first | exact HB.out | apply wA | apply wN | apply wD) | exact HB.out))))
               (case aL => have := LMc27.out; omega)
               intro v231 w38 ho hb hg hat; rw [← Ny230.out] at ho; have n0_ := Aside0.mk (Kd.R_after (ok := (fun _ => True)) (by (with_reducible repeat (first | apply Kd.R_alloc | apply Kd.R_drewN | apply Kd.R_drew)); exact Kd.R_mono HO229.out (fun _ hk => ⟨trivial, hk⟩)) hg hat)
               have n1_ := Aside0.mk (hb); have n2_ := Aside0.mk (ho); clear HO229; clear HB; clear HO226; have HO229 := n0_; have HB := n1_; have HO232 := n2_; clear n0_ n1_ n2_; clear ho hb hg hat; refine hK.out _ _ trivial (fun hHeld => ?_); clear hK K; refine norm_ (a' := ?_) ?_ ?_; rotate_left
               ·
                show Act.put _ (some 58) _ = _
                simp only [Act.put, lT, l0_, lS, i64_w, i32_w]; rfl
               refine one_ (i := 12) (N := some 62) B13_14 rfl rfl (one_of HT_.out (by kernel_rfl)) (by decide) (fun K hK => ?_); refine Kd.R_append_rows_step k38 (w0 := w) w.heap.size (by rfl) (.tmp 58) (.tmp 61) 26 38 (.agg #[(.string ⟨#[]⟩), (.int .i64 0)]) 24 rfl Try.underlying26 info38 rfl (by decide) (by omega) v231 y230 y233 _ _ _ (fun k_ => some k_ ≠ (.slice Ao39 y227.length co39 : Value).ownBlock) (fun _ => False) rfl rfl ?aO ?aR (fun _ _ h => h) (fun _ h => h.elim) ?aF ?aB ?aS ?aL ?_
               (case aR => repeat (first | exact (Kd.C_below HR236.out HB.out) | (with_reducible refine Kd.C_alloc ?_ _) | (with_reducible refine Kd.C_drewN ?_ _) | (with_reducible refine Kd.C_drew ?_)))
               (case aB => exact (by repeat (first | (with_reducible first | exact HB.out | apply wA | apply wN | apply wD) | exact HB.out)))
               (case aF => exact (fun k_ hk => Kd.fresh' (Kd.R_lt (by (with_reducible repeat (first | apply Kd.R_alloc | apply Kd.R_drewN | apply Kd.R_drew)); exact HO229.out)) k_ hk))
               (case aO => exact (by (with_reducible repeat (first | apply Kd.R_alloc | apply Kd.R_drewN | apply Kd.R_drew)); exact HO232.out))
               (case aS => exact (below_size (by repeat (first | (with_reducible first | exact HB.out | apply wA | apply wN | apply wD) | exact HB.out))))
               (case aL => have := LMc30.out; omega)
               intro v238 w40 ho hb hg hat; rw [← Ny237.out] at ho; have n0_ := Aside0.mk (Kd.R_after (ok := (fun _ => True)) (by (with_reducible repeat (first | apply Kd.R_alloc | apply Kd.R_drewN | apply Kd.R_drew)); exact HO229.out) hg hat)
               have n1_ := Aside0.mk (hb); have n2_ := Aside0.mk (ho); clear HO229; clear HB; clear HO232; have HO229 := n0_; have HB := n1_; have HO239 := n2_; clear n0_ n1_ n2_; clear ho hb hg hat; refine hK.out _ _ trivial (fun hHeld => ?_); clear hK K; refine norm_ (a' := ?_) ?_ ?_; rotate_left
               ·
                show Act.put _ (some 62) _ = _
                simp only [Act.put, lT, l0_, lS, i64_w, i32_w]; rfl
               refine pure_ (i := 13) (N := some 6) (v := ?_) (a' := ?_) B13_15 rfl rfl (any_of HT_.out (by kernel_rfl)) (fun _ _ _ h => h) (Or.inl ⟨by rfl, ?_⟩) ?_ ?_; rotate_left
               ·
                intro w'; go_simp; with_reducible rfl
               rotate_left
               ·
                simp only [Act.put, lT, l0_, lS, i64_w, i32_w]; rfl
               refine pure_ (i := 14) (N := some 7) (v := ?_) (a' := ?_) B13_16 rfl rfl (any_of HT_.out (by kernel_rfl)) (fun _ _ _ h => h) (Or.inl ⟨by rfl, ?_⟩) ?_ ?_; rotate_left
               ·
                intro w'; go_simp; with_reducible rfl
               rotate_left
               ·
                simp only [Act.put, lT, l0_, lS, i64_w, i32_w]; rfl
               refine done_ (done_of HT_.out (by kernel_rfl)) ?_
               try go_wp2
               go_ret2
               exact ⟨_, by first | rfl | exact congrArg (fun b_ => Ending.returned (Value.bool b_)) HRET.out | (rw [HRET.out]) | (simp [errW_none, errW_some] <;> rfl) | (simp [*, errW_none, errW_some] <;> rfl), by (with_reducible repeat (first | apply Kd.R_alloc | apply Kd.R_drewN | apply Kd.R_drew)); exact Kd.R_mono HO239.out (fun _ hk => trivial), by repeat (first | (with_reducible first | exact HB.out | apply wA | apply wN | apply wD) | exact HB.out)⟩
              ·
               rw [if_neg c30] at H; exact absurd H (by simp)
             ·
              rw [if_neg c27] at H; exact absurd H (by simp)
            ·
             rw [if_neg c26] at H; exact absurd H (by simp)
           ·
            rw [if_neg c25] at H; exact absurd H (by simp)
         ·
          rw [if_neg c22] at H; exact absurd H (by simp)
        ·
         rw [if_neg c21] at H; have c21b0 : decide (x8_2 < (l0.length : Int)) = false := decide_eq_false c21; clear c21
         by_cases c41 : 0 ≤ x8_2
         ·
          rw [if_pos c41] at H; have c41b0 := eq_true c41; have c41b1 : decide (0 ≤ x8_2) = true := decide_eq_true c41; clear c41
          by_cases c42 : x8_2 ≤ (l0.length : Int)
          ·
           rw [if_pos c42] at H; have c42b0 := eq_true c42; have c42b1 : decide (x8_2 ≤ (l0.length : Int)) = true := decide_eq_true c42; clear c42; obtain ⟨y240, hy240⟩ : ∃ y_ : List (S38), y_ = (l0.take (x8_2 : Int).toNat) := ⟨_, rfl⟩
           replace H : (if ([] : List (S38)).length + y240.length < 5864062014805 then ((some (([] : List (S38)) ++ y240 : List (S38))).bind fun y244 => ((some (([(⟨a1, a2⟩ : S38)] : List (S38)) : List (S38))).bind fun y247 => (if y244.length + y247.length < 5864062014805 then ((some (y244 ++ y247 : List (S38))).bind fun y250 => ((some (l0.drop (x8_2 : Int).toNat : List (S38))).bind fun y253 => (if y250.length + y253.length < 5864062014805 then (some ((y250 ++ y253), 0)) else (none)))) else (none)))) else (none)) = some (r1, r2) := by first | (rw [hy240]; with_reducible exact H) | (have H2_ := (Option.bind_some _ _).symm.trans H; rw [hy240]; with_reducible exact H2_) | (have H2_ := (Option.bind_some _ _).symm.trans H; with_reducible exact H2_) | with_reducible exact H | (rw [hy240]; exact H) | exact H
           have Ny240 := Aside0.mk hy240; clear hy240
           by_cases c43 : ([] : List (S38)).length + y240.length < 5864062014805
           ·
            rw [if_pos c43] at H; have LMc43 := Aside0.mk c43; clear c43; obtain ⟨y244, hy244⟩ : ∃ y_ : List (S38), y_ = (([] : List (S38)) ++ y240) := ⟨_, rfl⟩
            replace H : ((some (([(⟨a1, a2⟩ : S38)] : List (S38)) : List (S38))).bind fun y247 => (if y244.length + y247.length < 5864062014805 then ((some (y244 ++ y247 : List (S38))).bind fun y250 => ((some (l0.drop (x8_2 : Int).toNat : List (S38))).bind fun y253 => (if y250.length + y253.length < 5864062014805 then (some ((y250 ++ y253), 0)) else (none)))) else (none))) = some (r1, r2) := by first | (rw [hy244]; with_reducible exact H) | (have H2_ := (Option.bind_some _ _).symm.trans H; rw [hy244]; with_reducible exact H2_) | (have H2_ := (Option.bind_some _ _).symm.trans H; with_reducible exact H2_) | with_reducible exact H | (rw [hy244]; exact H) | exact H
            have Ny244 := Aside0.mk hy244; clear hy244; obtain ⟨y247, hy247⟩ : ∃ y_ : List (S38), y_ = (([(⟨a1, a2⟩ : S38)] : List (S38))) := ⟨_, rfl⟩
            replace H : (if y244.length + y247.length < 5864062014805 then ((some (y244 ++ y247 : List (S38))).bind fun y250 => ((some (l0.drop (x8_2 : Int).toNat : List (S38))).bind fun y253 => (if y250.length + y253.length < 5864062014805 then (some ((y250 ++ y253), 0)) else (none)))) else (none)) = some (r1, r2) := by first | (rw [hy247]; with_reducible exact H) | (have H2_ := (Option.bind_some _ _).symm.trans H; rw [hy247]; with_reducible exact H2_) | (have H2_ := (Option.bind_some _ _).symm.trans H; with_reducible exact H2_) | with_reducible exact H | (rw [hy247]; exact H) | exact H
            have Ny247 := Aside0.mk hy247; clear hy247
            by_cases c44 : y244.length + y247.length < 5864062014805
            ·
             rw [if_pos c44] at H; have LMc44 := Aside0.mk c44; clear c44; obtain ⟨y250, hy250⟩ : ∃ y_ : List (S38), y_ = (y244 ++ y247) := ⟨_, rfl⟩
             replace H : ((some (l0.drop (x8_2 : Int).toNat : List (S38))).bind fun y253 => (if y250.length + y253.length < 5864062014805 then (some ((y250 ++ y253), 0)) else (none))) = some (r1, r2) := by first | (rw [hy250]; with_reducible exact H) | (have H2_ := (Option.bind_some _ _).symm.trans H; rw [hy250]; with_reducible exact H2_) | (have H2_ := (Option.bind_some _ _).symm.trans H; with_reducible exact H2_) | with_reducible exact H | (rw [hy250]; exact H) | exact H
             have Ny250 := Aside0.mk hy250; clear hy250; have c45b0 := eq_true (of_decide_eq_true (by first | (with_reducible assumption) | assumption) : 0 ≤ x8_2); have c46b0 := eq_true (of_decide_eq_true (by first | (with_reducible assumption) | assumption) : x8_2 ≤ (l0.length : Int)); obtain ⟨y253, hy253⟩ : ∃ y_ : List (S38), y_ = (l0.drop (x8_2 : Int).toNat) := ⟨_, rfl⟩
             replace H : (if y250.length + y253.length < 5864062014805 then (some ((y250 ++ y253), 0)) else (none)) = some (r1, r2) := by first | (rw [hy253]; with_reducible exact H) | (have H2_ := (Option.bind_some _ _).symm.trans H; rw [hy253]; with_reducible exact H2_) | (have H2_ := (Option.bind_some _ _).symm.trans H; with_reducible exact H2_) | with_reducible exact H | (rw [hy253]; exact H) | exact H
             have Ny253 := Aside0.mk hy253; clear hy253
             by_cases c47 : y250.length + y253.length < 5864062014805
             ·
              rw [if_pos c47] at H; have LMc47 := Aside0.mk c47; clear c47; obtain ⟨y257, hy257⟩ : ∃ y_ : List (S38), y_ = (y250 ++ y253) := ⟨_, rfl⟩
              replace H : (some (y257, 0)) = some (r1, r2) := by first | (rw [hy257]; with_reducible exact H) | (have H2_ := (Option.bind_some _ _).symm.trans H; rw [hy257]; with_reducible exact H2_) | (have H2_ := (Option.bind_some _ _).symm.trans H; with_reducible exact H2_) | with_reducible exact H | (rw [hy257]; exact H) | exact H
              have Ny257 := Aside0.mk hy257; clear hy257; simp only [Option.some.injEq, Prod.mk.injEq] at H; obtain ⟨rfl, rfl⟩ := H
              try go_wp2
              have n0_ := Aside0.mk (wD HB.out); clear HB; have HB := n0_; clear n0_; have q49 : (x8_2 : Int) ≤ ((l0.length : Int) : Int) := of_decide_eq_true (by first | (with_reducible assumption) | assumption); obtain ⟨i049, hi049, _, hsz49, _⟩ := info_parts info38; have hroom49 : l0.length ≤ c0 := HC0.out; have hC49 : Kd.C k38 _ A0 l0.length l0 := HR0.out; have hcut49 := cut_to (P := Try.prog) 26 38 .i64 Try.underlying26 hi049 A0 l0.length c0 x8_2 (of_decide_eq_true (by first | (with_reducible assumption) | assumption)) q49 hroom49; have hr49 := Kd.C_take (m := (x8_2 : Int).toNat) hC49 (by omega); have hy49 : y240.length = (x8_2 : Int).toNat := (by rw [Ny240.out, List.length_take]; omega)
              rw [← Ny240.out] at hr49; rw [← hy49] at hcut49; have HR243 := Aside0.mk hr49; have HC243 := Aside0.mk (show y240.length ≤ c0 from by omega); clear hr49 hC49 hroom49 hi049 hsz49; have KY49 := Aside0.mk hy49; clear hy49; replace q49 := eq_true q49; have q50 : (x8_2 : Int) ≤ ((l0.length : Int) : Int) := of_decide_eq_true (by first | (with_reducible assumption) | assumption); obtain ⟨i050, hi050, _, hsz50, _⟩ := info_parts info38; have hroom50 : l0.length ≤ c0 := HC0.out; have hC50 : Kd.C k38 _ A0 l0.length l0 := HR0.out; have q050 : (0 : Int) ≤ (x8_2 : Int) := of_decide_eq_true (by first | (with_reducible assumption) | assumption); have hcut50 := cut_from (P := Try.prog) 26 38 .i64 Try.underlying26 hi050 2 hsz50 A0 l0.length c0 x8_2 q050 q50; have hr50 := Kd.C_drop (m := (x8_2 : Int).toNat) (c := c0) hC50 (by omega) hroom50; obtain ⟨A50, hA50⟩ : ∃ A1, A1 = (if c0 = (x8_2 : Int).toNat then A0 else (A0 : Option Addr).map (·.add ((x8_2 : Int).toNat * 2))) := ⟨_, rfl⟩; obtain ⟨c50, hc50⟩ : ∃ c1, c1 = c0 - (x8_2 : Int).toNat := ⟨_, rfl⟩; have hy50 : y253.length = l0.length - (x8_2 : Int).toNat := (by rw [Ny253.out, List.length_drop] <;> omega); rw [show (l0).drop (x8_2 : Int).toNat = y253 from Ny253.out.symm] at hr50; replace hr50 : Kd.C k38 _ A50 y253.length y253 := (by rw [hA50]; exact hr50)
              rw [← hy50, ← hA50, ← hc50] at hcut50; have HR256 := Aside0.mk hr50; have HC256 := Aside0.mk (show y253.length ≤ c50 from by rw [hy50, hc50]; exact Nat.sub_le_sub_right hroom50 _)
              clear hr50 hC50 hroom50 hi050 hsz50 hc50; have KY50 := Aside0.mk hy50; have KA50 := Aside0.mk hA50; clear hy50 hA50; replace q50 := eq_true q50; refine start_ (n := 15) (S := fun w' => True) (ds := []) B13_0 (by kernel_rfl) rfl rfl trivial (fun hHeld => ?_); refine with_tabW potsherdref12_With.tab10 potsherdref12_With.bits10 (fun HT_ HW_ => ?_); generalize wr.drew = w48 at HB HR243 HR256 hHeld ⊢; refine pure_ (i := 0) (N := some 50) (v := ?_) (a' := ?_) B13_1 rfl rfl (any_of HT_.out (by kernel_rfl)) (fun _ _ _ h => h) (Or.inl ⟨by rfl, ?_⟩) ?_ ?_; rotate_left
              ·
               intro w'; go_simp; with_reducible rfl
              rotate_left
              ·
               simp only [Act.put, lT, l0_, lS, i64_w, i32_w]; rfl
              refine pure_ (i := 1) (N := some 51) (v := ?_) (a' := ?_) B13_2 rfl rfl (any_of HT_.out (by kernel_rfl)) (fun _ _ _ h => h) (Or.inl ⟨by rfl, ?_⟩) ?_ ?_; rotate_left
              ·
               intro w'; go_simp; with_reducible rfl
              rotate_left
              ·
               simp only [Act.put, lT, l0_, lS, i64_w, i32_w]; rfl
              refine pure_ (i := 2) (N := some 52) (v := ?_) (a' := ?_) B13_3 rfl rfl (any_of HT_.out (by kernel_rfl)) (fun _ _ _ h => h) (Or.inl ⟨by rfl, ?_⟩) ?_ ?_; rotate_left
              ·
               intro w'; go_simp; with_reducible rfl
              rotate_left
              ·
               simp only [Act.put, lT, l0_, lS, i64_w, i32_w]; rfl
              refine pure_ (i := 4) (N := some 54) (v := ?_) (a' := ?_) B13_4 rfl rfl (any_of HT_.out (by kernel_rfl)) (fun _ _ _ h => h) (Or.inl ⟨by rfl, ?_⟩) ?_ ?_; rotate_left
              ·
               intro w'; go_simp; with_reducible rfl
              rotate_left
              ·
               simp only [Act.put, lT, l0_, lS, i64_w, i32_w]; rfl
              refine pure_ (i := 5) (N := some 55) (v := ?_) (a' := ?_) B13_5 rfl rfl (any_of HT_.out (by kernel_rfl)) (fun _ _ _ h => h) (Or.inl ⟨by rfl, ?_⟩) ?_ ?_; rotate_left
              ·
               intro w'; go_simp; with_reducible rfl
              rotate_left
              ·
               simp only [Act.put, lT, l0_, lS, i64_w, i32_w]; rfl
              refine pure_ (i := 6) (N := some 56) (v := ?_) (a' := ?_) B13_6 rfl rfl (any_of HT_.out (by kernel_rfl)) (fun _ _ _ h => h) (Or.inl ⟨by rfl, ?_⟩) ?_ ?_; rotate_left
              ·
               intro w'; go_simp; with_reducible rfl
              rotate_left
              ·
               simp only [Act.put, lT, l0_, lS, i64_w, i32_w]; rfl
              refine pure_ (i := 9) (N := some 59) (v := ?_) (a' := ?_) B13_7 rfl rfl (any_of HT_.out (by kernel_rfl)) (fun _ _ _ h => h) (Or.inl ⟨by rfl, ?_⟩) ?_ ?_; rotate_left
              ·
               intro w'; go_simp; with_reducible rfl
              rotate_left
              ·
               simp only [Act.put, lT, l0_, lS, i64_w, i32_w]; rfl
              refine pure_ (i := 10) (N := some 60) (v := ?_) (a' := ?_) B13_8 rfl rfl (any_of HT_.out (by kernel_rfl)) (fun _ _ _ h => h) (Or.inl ⟨by rfl, ?_⟩) ?_ ?_; rotate_left
              ·
               intro w'; go_simp; with_reducible rfl
              rotate_left
              ·
               simp only [Act.put, lT, l0_, lS, i64_w, i32_w]; rfl
              refine pure_ (i := 11) (N := some 61) (v := ?_) (a' := ?_) B13_9 rfl rfl (any_of HT_.out (by kernel_rfl)) (fun _ _ _ h => h) (Or.inl ⟨by rfl, ?_⟩) ?_ ?_; rotate_left
              ·
               intro w'; go_simp; with_reducible rfl
              rotate_left
              ·
               simp only [Act.put, lT, l0_, lS, i64_w, i32_w]; rfl
              refine join_ (σ := Value × Value) 4 B13_10 (fun s_ => [(53, s_.1), (57, s_.2)]) (fun s_ w' => (Kd.R k38 38 w' w.heap.size (fun k_ => some k_ ≠ (s_.2 : Value).ownBlock) s_.1 y244) ∧ (Kd.R k38 38 w' w.heap.size (fun k_ => some k_ ≠ (s_.1 : Value).ownBlock) s_.2 y247) ∧ (Below w.heap.size w w')) ?_ ?_; rotate_left
              ·
               intro hCont; refine two_ (i := 3) (j := 7) (Ni := some 53) (Nj := some 57) B13_11 B13_12 rfl rfl rfl rfl (two_of HT_.out (by kernel_rfl)) (by decide) (by decide) (fun K hK => ?_) (fun K hK => ?_)
               ·
                skip
                refine Kd.R_append_rows_step k38 (w0 := w) w.heap.size rfl (.const (.slice none 0 0)) (.tmp 52) 26 38 (.agg #[(.string ⟨#[]⟩), (.int .i64 0)]) 24 rfl Try.underlying26 info38 rfl (by decide) (by omega) (.slice none 0 0) ([] : List (S38)) y240 _ _ _ (fun _ => True) (fun _ => False) rfl rfl ?aO ?aR (fun _ _ h => h) (fun _ h => h.elim) ?aF ?aB ?aS ?aL ?_
                (case aR => repeat (first | exact (Kd.C_below HR243.out HB.out) | (with_reducible refine Kd.C_alloc ?_ _) | (with_reducible refine Kd.C_drewN ?_ _) | (with_reducible refine Kd.C_drew ?_)))
                (case aB => exact (by repeat (first | (with_reducible first | exact HB.out | apply wA | apply wN | apply wD) | exact HB.out)))
                (case aF => exact (fun _ _ => trivial))
                (case aO => exact ((Kd.R_nil _ _ _ _ (fun _ => True))))
                (case aS => exact (below_size (by repeat (first | (with_reducible first | exact HB.out | apply wA | apply wN | apply wD) | exact HB.out))))
                (case aL => have := LMc43.out; omega)
                intro v245 w51 ho hb hg hat; rw [← Ny244.out] at ho; have n0_ := Aside0.mk (hb); have n1_ := Aside0.mk (ho); clear HB; have HB := n0_; have HO246 := n1_; clear n0_ n1_; clear ho hb hg hat; refine hK.out _ _ trivial (fun hHeld => ?_); clear hK K; refine norm_ (a' := ?_) ?_ ?_; rotate_left
                ·
                 show Act.put _ (some 53) _ = _
                 simp only [Act.put, lT, l0_, lS, i64_w, i32_w]; rfl
                refine one_ (i := 7) (N := some 57) B13_10 rfl rfl (one_of HT_.out (by kernel_rfl)) (by decide) (fun K hK => ?_); refine Kd.R_lit_step k38 _ 38 ?hg (N := 57) ?hd (xs := ([(⟨a1, a2⟩ : S38)] : List (S38))) (inner := [.string a1, .int .i64 a2]) (ok := fun _ => True) (okp := fun _ => True) ?hr ?hp (fun _ hk => hk) trivial (Below.refl _ _) (Nat.le_refl _) (by simp) ?_; (case hd => rfl); (case hg => rfl); (case hr => first | (go_simp; done) | (go_simp; rfl)); (case hp => exact (Reps.c2 (show Kd.M k38 _ _ _ (⟨a1, a2⟩ : S38) [.string a1, .int .i64 a2] from (k38_mkM _ _ _ (⟨a1, a2⟩ : S38) )) (Reps.none _ _)))
                intro v248 w52 ho53 hb hg_ hnew_; clear hg_ hnew_
                (first | rw [← Ny247.out] at ho53 | (simp only [Int.reduceToNat] at ho53; rw [← Ny247.out] at ho53))
                have n0_ := Aside0.mk (Kd.R_elder' (by (with_reducible repeat (first | apply Kd.R_alloc | apply Kd.R_drewN | apply Kd.R_drew)); exact HO246.out) (Kd.R_base ho53) hb)
                have n1_ := Aside0.mk (Kd.R_lower (Kd.R_new' ho53 (Kd.R_lt (by (with_reducible repeat (first | apply Kd.R_alloc | apply Kd.R_drewN | apply Kd.R_drew)); exact HO246.out))) (below_size (by repeat (first | (with_reducible first | exact HB.out | apply wA | apply wN | apply wD) | exact HB.out))))
                have n2_ := Aside0.mk (below_step (by repeat (first | (with_reducible first | exact HB.out | apply wA | apply wN | apply wD) | exact HB.out)) hb); clear HO246; clear HB; have HO246 := n0_; have HO249 := n1_; have HB := n2_; clear n0_ n1_ n2_; clear hb ho53; refine hK.out _ _ trivial (fun hHeld => ?_); clear hK K; refine norm_ (a' := ?_) ?_ ?_; rotate_left
                ·
                 show Act.put _ (some 57) _ = _
                 simp only [Act.put, lT, l0_, lS, i64_w, i32_w]; rfl
                exact norm_ (by simp only [putAll, Act.put, lT, l0_, lS]) (hCont (v245, v248) _ ⟨(by (with_reducible repeat (first | apply Kd.R_alloc | apply Kd.R_drewN | apply Kd.R_drew)); exact Kd.R_mono HO246.out (fun _ hk => hk.2)), (by (with_reducible repeat (first | apply Kd.R_alloc | apply Kd.R_drewN | apply Kd.R_drew)); exact Kd.R_mono HO249.out (fun _ hk => hk.2)), (by repeat (first | (with_reducible first | exact HB.out | apply wA | apply wN | apply wD) | exact HB.out))⟩)
               ·
                skip
                refine Kd.R_lit_step k38 _ 38 ?hg (N := 57) ?hd (xs := ([(⟨a1, a2⟩ : S38)] : List (S38))) (inner := [.string a1, .int .i64 a2]) (ok := fun _ => True) (okp := fun _ => True) ?hr ?hp (fun _ hk => hk) trivial (Below.refl _ _) (Nat.le_refl _) (by simp) ?_; (case hd => rfl); (case hg => rfl); (case hr => first | (go_simp; done) | (go_simp; rfl)); (case hp => exact (Reps.c2 (show Kd.M k38 _ _ _ (⟨a1, a2⟩ : S38) [.string a1, .int .i64 a2] from (k38_mkM _ _ _ (⟨a1, a2⟩ : S38) )) (Reps.none _ _)))
                intro v248 w51 ho52 hb hg_ hnew_; clear hg_ hnew_
                (first | rw [← Ny247.out] at ho52 | (simp only [Int.reduceToNat] at ho52; rw [← Ny247.out] at ho52))
                have n0_ := Aside0.mk (Kd.R_lower ho52 (below_size (by repeat (first | (with_reducible first | exact HB.out | apply wA | apply wN | apply wD) | exact HB.out)))); have n1_ := Aside0.mk (below_step (by repeat (first | (with_reducible first | exact HB.out | apply wA | apply wN | apply wD) | exact HB.out)) hb); clear HB; have HO249 := n0_; have HB := n1_; clear n0_ n1_; clear hb ho52; refine hK.out _ _ trivial (fun hHeld => ?_); clear hK K; refine norm_ (a' := ?_) ?_ ?_; rotate_left
                ·
                 show Act.put _ (some 57) _ = _
                 simp only [Act.put, lT, l0_, lS, i64_w, i32_w]; rfl
                refine one_ (i := 3) (N := some 53) B13_10 rfl rfl (one_of HT_.out (by kernel_rfl)) (by decide) (fun K hK => ?_); refine Kd.R_append_rows_step k38 (w0 := w) w.heap.size rfl (.const (.slice none 0 0)) (.tmp 52) 26 38 (.agg #[(.string ⟨#[]⟩), (.int .i64 0)]) 24 rfl Try.underlying26 info38 rfl (by decide) (by omega) (.slice none 0 0) ([] : List (S38)) y240 _ _ _ (fun k_ => some k_ ≠ (v248 : Value).ownBlock) (fun _ => False) rfl rfl ?aO ?aR (fun _ _ h => h) (fun _ h => h.elim) ?aF ?aB ?aS ?aL ?_
                (case aR => repeat (first | exact (Kd.C_below HR243.out HB.out) | (with_reducible refine Kd.C_alloc ?_ _) | (with_reducible refine Kd.C_drewN ?_ _) | (with_reducible refine Kd.C_drew ?_)))
                (case aB => exact (by repeat (first | (with_reducible first | exact HB.out | apply wA | apply wN | apply wD) | exact HB.out)))
                (case aF => exact (fun k_ hk => Kd.fresh' (Kd.R_lt (by (with_reducible repeat (first | apply Kd.R_alloc | apply Kd.R_drewN | apply Kd.R_drew)); exact HO249.out)) k_ hk))
                (case aO => exact ((Kd.R_nil _ _ _ _ (fun k_ => some k_ ≠ (v248 : Value).ownBlock))))
                (case aS => exact (below_size (by repeat (first | (with_reducible first | exact HB.out | apply wA | apply wN | apply wD) | exact HB.out))))
                (case aL => have := LMc43.out; omega)
                intro v245 w53 ho hb hg hat; rw [← Ny244.out] at ho; have n0_ := Aside0.mk (Kd.R_after (Kd.R_apart_nil (by (with_reducible repeat (first | apply Kd.R_alloc | apply Kd.R_drewN | apply Kd.R_drew)); exact HO249.out)) hg hat)
                have n1_ := Aside0.mk (hb); have n2_ := Aside0.mk (ho); clear HO249; clear HB; have HO249 := n0_; have HB := n1_; have HO246 := n2_; clear n0_ n1_ n2_; clear ho hb hg hat; refine hK.out _ _ trivial (fun hHeld => ?_); clear hK K; refine norm_ (a' := ?_) ?_ ?_; rotate_left
                ·
                 show Act.put _ (some 53) _ = _
                 simp only [Act.put, lT, l0_, lS, i64_w, i32_w]; rfl
                exact norm_ (by simp only [putAll, Act.put, lT, l0_, lS]) (hCont (v245, v248) _ ⟨(by (with_reducible repeat (first | apply Kd.R_alloc | apply Kd.R_drewN | apply Kd.R_drew)); exact HO246.out), (by (with_reducible repeat (first | apply Kd.R_alloc | apply Kd.R_drewN | apply Kd.R_drew)); exact Kd.R_mono HO249.out (fun _ hk => hk.2)), (by repeat (first | (with_reducible first | exact HB.out | apply wA | apply wN | apply wD) | exact HB.out))⟩)
              rintro ⟨v245, v248⟩ w54 ⟨h0_, h1_, h2_⟩; have n0_ : Aside0 (Kd.R k38 38 w54 w.heap.size (fun k_ => some k_ ≠ (v248 : Value).ownBlock) v245 y244) := ⟨h0_⟩; have n1_ : Aside0 (Kd.R k38 38 w54 w.heap.size (fun k_ => some k_ ≠ (v245 : Value).ownBlock) v248 y247) := ⟨h1_⟩; have n2_ : Aside0 (Below w.heap.size w w54) := ⟨h2_⟩; clear HB; clear h0_ h1_ h2_; have HO246 := n0_; have HO249 := n1_; have HB := n2_; clear n0_ n1_ n2_; have hHeld := trivial; obtain ⟨Ao56, co56, eo56⟩ := Kd.R_slice HO249.out
              (first | subst eo56 | (injection eo56 with f1_ f2_ f3_; have f4_ := f1_.symm; have f5_ := f3_.symm; clear f1_ f2_ f3_; subst f4_; subst f5_))
              refine norm_ (a' := ?_) ?_ ?_; rotate_left
              ·
               simp only [putAll, Act.put, lT, l0_, lS]; rfl
              refine one_ (i := 8) (N := some 58) B13_13 rfl rfl (one_of HT_.out (by kernel_rfl)) (by decide) (fun K hK => ?_); refine Kd.R_append_rows_step k38 (w0 := w) w.heap.size (by rfl) (.tmp 53) (.tmp 57) 26 38 (.agg #[(.string ⟨#[]⟩), (.int .i64 0)]) 24 rfl Try.underlying26 info38 rfl (by decide) (by omega) v245 y244 y247 _ _ _ (fun k_ => some k_ ≠ (.slice Ao56 y247.length co56 : Value).ownBlock) (fun _ => False) rfl rfl ?aO ?aR (fun _ _ h => h) (fun _ h => h.elim) ?aF ?aB ?aS ?aL ?_
              (case aR => repeat (first | exact (Kd.R_reads' HO249.out).2.2 | (with_reducible refine Kd.C_alloc ?_ _) | (with_reducible refine Kd.C_drewN ?_ _) | (with_reducible refine Kd.C_drew ?_)))
              (case aB => exact (by repeat (first | (with_reducible first | exact HB.out | apply wA | apply wN | apply wD) | exact HB.out)))
              (case aF => exact (fun k_ hk => Kd.fresh' (Kd.R_lt (by (with_reducible repeat (first | apply Kd.R_alloc | apply Kd.R_drewN | apply Kd.R_drew)); exact HO249.out)) k_ hk))
              (case aO => exact (by (with_reducible repeat (first | apply Kd.R_alloc | apply Kd.R_drewN | apply Kd.R_drew)); exact HO246.out))
              (case aS => exact (below_size (by repeat (first | (with_reducible first | exact HB.out | apply wA | apply wN | apply wD) | exact HB.out))))
              (case aL => have := LMc44.out; omega)
              intro v251 w55 ho hb hg hat; rw [← Ny250.out] at ho; have n0_ := Aside0.mk (Kd.R_after (ok := (fun _ => True)) (by (with_reducible repeat (first | apply Kd.R_alloc | apply Kd.R_drewN | apply Kd.R_drew)); exact Kd.R_mono HO249.out (fun _ hk => ⟨trivial, hk⟩)) hg hat)
              have n1_ := Aside0.mk (hb); have n2_ := Aside0.mk (ho); clear HO249; clear HB; clear HO246; have HO249 := n0_; have HB := n1_; have HO252 := n2_; clear n0_ n1_ n2_; clear ho hb hg hat; refine hK.out _ _ trivial (fun hHeld => ?_); clear hK K; refine norm_ (a' := ?_) ?_ ?_; rotate_left
              ·
               show Act.put _ (some 58) _ = _
               simp only [Act.put, lT, l0_, lS, i64_w, i32_w]; rfl
              refine one_ (i := 12) (N := some 62) B13_14 rfl rfl (one_of HT_.out (by kernel_rfl)) (by decide) (fun K hK => ?_); refine Kd.R_append_rows_step k38 (w0 := w) w.heap.size (by rfl) (.tmp 58) (.tmp 61) 26 38 (.agg #[(.string ⟨#[]⟩), (.int .i64 0)]) 24 rfl Try.underlying26 info38 rfl (by decide) (by omega) v251 y250 y253 _ _ _ (fun k_ => some k_ ≠ (.slice Ao56 y247.length co56 : Value).ownBlock) (fun _ => False) rfl rfl ?aO ?aR (fun _ _ h => h) (fun _ h => h.elim) ?aF ?aB ?aS ?aL ?_
              (case aR => repeat (first | exact (Kd.C_below HR256.out HB.out) | (with_reducible refine Kd.C_alloc ?_ _) | (with_reducible refine Kd.C_drewN ?_ _) | (with_reducible refine Kd.C_drew ?_)))
              (case aB => exact (by repeat (first | (with_reducible first | exact HB.out | apply wA | apply wN | apply wD) | exact HB.out)))
              (case aF => exact (fun k_ hk => Kd.fresh' (Kd.R_lt (by (with_reducible repeat (first | apply Kd.R_alloc | apply Kd.R_drewN | apply Kd.R_drew)); exact HO249.out)) k_ hk))
              (case aO => exact (by (with_reducible repeat (first | apply Kd.R_alloc | apply Kd.R_drewN | apply Kd.R_drew)); exact HO252.out))
              (case aS => exact (below_size (by repeat (first | (with_reducible first | exact HB.out | apply wA | apply wN | apply wD) | exact HB.out))))
              (case aL => have := LMc47.out; omega)
              intro v258 w57 ho hb hg hat; rw [← Ny257.out] at ho; have n0_ := Aside0.mk (Kd.R_after (ok := (fun _ => True)) (by (with_reducible repeat (first | apply Kd.R_alloc | apply Kd.R_drewN | apply Kd.R_drew)); exact HO249.out) hg hat)
              have n1_ := Aside0.mk (hb); have n2_ := Aside0.mk (ho); clear HO249; clear HB; clear HO252; have HO249 := n0_; have HB := n1_; have HO259 := n2_; clear n0_ n1_ n2_; clear ho hb hg hat; refine hK.out _ _ trivial (fun hHeld => ?_); clear hK K; refine norm_ (a' := ?_) ?_ ?_; rotate_left
              ·
               show Act.put _ (some 62) _ = _
               simp only [Act.put, lT, l0_, lS, i64_w, i32_w]; rfl
              refine pure_ (i := 13) (N := some 6) (v := ?_) (a' := ?_) B13_15 rfl rfl (any_of HT_.out (by kernel_rfl)) (fun _ _ _ h => h) (Or.inl ⟨by rfl, ?_⟩) ?_ ?_; rotate_left
              ·
               intro w'; go_simp; with_reducible rfl
              rotate_left
              ·
               simp only [Act.put, lT, l0_, lS, i64_w, i32_w]; rfl
              refine pure_ (i := 14) (N := some 7) (v := ?_) (a' := ?_) B13_16 rfl rfl (any_of HT_.out (by kernel_rfl)) (fun _ _ _ h => h) (Or.inl ⟨by rfl, ?_⟩) ?_ ?_; rotate_left
              ·
               intro w'; go_simp; with_reducible rfl
              rotate_left
              ·
               simp only [Act.put, lT, l0_, lS, i64_w, i32_w]; rfl
              refine done_ (done_of HT_.out (by kernel_rfl)) ?_
              try go_wp2
              go_ret2
              exact ⟨_, by first | rfl | exact congrArg (fun b_ => Ending.returned (Value.bool b_)) HRET.out | (rw [HRET.out]) | (simp [errW_none, errW_some] <;> rfl) | (simp [*, errW_none, errW_some] <;> rfl), by (with_reducible repeat (first | apply Kd.R_alloc | apply Kd.R_drewN | apply Kd.R_drew)); exact Kd.R_mono HO259.out (fun _ hk => trivial), by repeat (first | (with_reducible first | exact HB.out | apply wA | apply wN | apply wD) | exact HB.out)⟩
             ·
              rw [if_neg c47] at H; exact absurd H (by simp)
            ·
             rw [if_neg c44] at H; exact absurd H (by simp)
           ·
            rw [if_neg c43] at H; exact absurd H (by simp)
          ·
           rw [if_neg c42] at H; exact absurd H (by simp)
         ·
          rw [if_neg c41] at H; exact absurd H (by simp)

end Go.Proofs.Ytbaiicnibiogpaa.PName
