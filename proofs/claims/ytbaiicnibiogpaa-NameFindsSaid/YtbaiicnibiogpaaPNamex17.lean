/- The Go functions that these laws reach, each as a Lean function with the same answers (a law itself where it answers true), and the proof that the code comes to them; conditions: those of each theorem. Laid by a program of this session over the print. -/
import Derived.Test.YtbaiicnibiogpaaPNamex0
import Derived.Test.YtbaiicnibiogpaaPNamex7
import Derived.Test.YtbaiicnibiogpaaPNamex11
import Derived.Test.YtbaiicnibiogpaaPNamex14
namespace Go.Proofs.Ytbaiicnibiogpaa.PName
open Go.RowKit Go.Proofs.YtbaiicnibiogpaaW.PrintWords Go.Proofs.YtbaiicnibiogpaaW.PrintLast Go.Proofs.YtbaiicnibiogpaaW.PrintMore
attribute [local go_sem] max2_int min2_int max_two min_two max_three min_three max_four min_four   -- for this text's walks alone
set_option linter.unusedVariables false
set_option linter.unusedSimpArgs false
open Go.Proofs.YtbaiicnibiogpaaW.PrintWords renaming blk_drewN → bN, blk_drew → bD, blk_alloc → bA, below_set → wS, below_alloc → wA, pw_below_drewN → wN, below_drew1 → wD, blk_below → bB, blk_far → bF, blk_cell → bC, blk_frozen → bZ
open List renaming setIfInBounds_toArray → lT, set_cons_zero → l0_, set_cons_succ → lS
abbrev B17_0 : Array Bool := #[false, false, false, false, false, false, false, false, false, false, false, false, false, false, false, false, false, false, false, false, false, false]
abbrev B17_1 : Array Bool := #[true, false, false, false, false, false, false, false, false, false, false, false, false, false, false, false, false, false, false, false, false, false]
abbrev B17_2 : Array Bool := #[true, true, false, false, false, false, false, false, false, false, false, false, false, false, false, false, false, false, false, false, false, false]
abbrev B17_3 : Array Bool := #[true, true, false, false, true, false, false, false, false, false, false, false, false, false, false, false, false, false, false, false, false, false]
abbrev B17_4 : Array Bool := #[true, true, true, false, true, false, false, false, false, false, false, false, false, false, false, false, false, false, false, false, false, false]
abbrev B17_5 : Array Bool := #[true, true, true, false, true, true, false, false, false, false, false, false, false, false, false, false, false, false, false, false, false, false]
abbrev B17_6 : Array Bool := #[true, true, true, true, true, true, false, false, false, false, false, false, false, false, false, false, false, false, false, false, false, false]
abbrev B17_7 : Array Bool := #[true, true, true, true, true, true, true, false, false, false, false, false, false, false, false, false, false, false, false, false, false, false]
abbrev B17_8 : Array Bool := #[true, true, true, true, true, true, true, true, false, false, false, false, false, false, false, false, false, false, false, false, false, false]
abbrev B17_9 : Array Bool := #[true, true, true, true, true, true, true, true, true, false, false, false, false, false, false, false, false, false, false, false, false, false]
abbrev B17_10 : Array Bool := #[true, true, true, true, true, true, true, true, true, true, false, false, false, false, false, false, false, false, false, false, false, false]
abbrev B17_11 : Array Bool := #[true, true, true, true, true, true, true, true, true, true, true, false, false, false, false, false, false, false, false, false, false, false]
abbrev B17_12 : Array Bool := #[true, true, true, true, true, true, true, true, true, true, true, true, false, false, false, false, false, false, false, false, false, false]
abbrev B17_13 : Array Bool := #[true, true, true, true, true, true, true, true, true, true, true, true, true, false, false, false, false, false, false, false, false, false]
abbrev B17_14 : Array Bool := #[true, true, true, true, true, true, true, true, true, true, true, true, true, true, false, false, false, false, false, false, false, false]
abbrev B17_15 : Array Bool := #[true, true, true, true, true, true, true, true, true, true, true, true, true, true, true, false, false, false, false, false, false, false]
abbrev B17_16 : Array Bool := #[true, true, true, true, true, true, true, true, true, true, true, true, true, true, true, true, false, false, false, false, false, false]
abbrev B17_17 : Array Bool := #[true, true, true, true, true, true, true, true, true, true, true, true, true, true, true, true, true, false, false, false, false, false]
abbrev B17_18 : Array Bool := #[true, true, true, true, true, true, true, true, true, true, true, true, true, true, true, true, true, false, true, false, false, false]
abbrev B17_19 : Array Bool := #[true, true, true, true, true, true, true, true, true, true, true, true, true, true, true, true, true, true, true, false, false, false]
abbrev B17_20 : Array Bool := #[true, true, true, true, true, true, true, true, true, true, true, true, true, true, true, true, true, true, true, true, false, false]
abbrev B17_21 : Array Bool := #[true, true, true, true, true, true, true, true, true, true, true, true, true, true, true, true, true, true, true, true, true, false]
abbrev B17_22 : Array Bool := #[true, true, true, true, true, true, true, true, true, true, true, true, true, true, true, true, true, true, true, true, true, true]

/-! ### potsherdlaw13_NameFinds: function 6 -/
mutual
def potsherdlaw13_NameFinds.j0 : Nat → List (S38) → ByteArray → Bool → Option (Bool)
 | 0, _, _, _ => none
 | k + 1, x0, x1, x23 => if x23 = true then ((potsherdlaw13_awake.f k).bind fun t346 => (some t346)) else ((name_Names.f k x0).bind fun t347 => (potsherdlaw13_NameFinds.l0 k x0 x1 false t347 x0 (x0.length : Int) 0))
def potsherdlaw13_NameFinds.l0 : Nat → List (S38) → ByteArray → Bool → List ByteArray → List (S38) → Int → Int → Option (Bool)
 | 0, _, _, _, _, _, _, _ => none
 | k + 1, x0, x1, x5, x6, x27, x28, x29 => if x29 < x28 then (if 0 ≤ x29 then (if x29 < (x27.length : Int) then ((name_Find.f x0 ((rd_T38 x27 x29).f0)).bind fun t352 => (if t352 = ((rd_T38 x27 x29).f1) then (if x29 ≥ (x6.length : Int) then (some false) else (if x29 < (x6.length : Int) then (if (rdOf ByteArray.empty x6 x29).toList = ((rd_T38 x27 x29).f0).toList then (if x5 = true then (potsherdlaw13_NameFinds.l0 k x0 x1 true x6 x27 x28 (wrap64 (x29 + 1))) else (potsherdlaw13_NameFinds.l0 k x0 x1 (((rd_T38 x27 x29).f0).toList == x1.toList) x6 x27 x28 (wrap64 (x29 + 1)))) else (some false)) else (none))) else (some false))) else (none)) else (none)) else ((name_Without.f k x0 x1).bind fun bt354 => ((name_Find.f x0 x1).bind fun t358 => (if ((decide (t358 ≥ 0)) == x5) = true then (if ((bt354.2 == 0) == x5) = true then (if (x6.length : Int) = (x0.length : Int) then ((potsherdlaw13_awake.f k).bind fun t359 => (some t359)) else (some false)) else (some false)) else (some false))))
end
def potsherdlaw13_NameFinds.f (k : Nat) (l0 : List (S38)) (a1 : ByteArray) : Option (Bool) := (potsherdlaw13_Light.f k l0).bind fun t344 => (if t344 > 0 then (potsherdlaw13_NameFinds.j0 k l0 a1 true) else ((potsherdref12_MayEntries.f k l0).bind fun t345 => (if t345 = true then (potsherdlaw13_NameFinds.j0 k l0 a1 (decide ((a1.size : Int) > 50))) else (potsherdlaw13_NameFinds.j0 k l0 a1 true))))
theorem potsherdlaw13_NameFinds.mono_l : ∀ k, (∀ y0 y1 y2, LeO (potsherdlaw13_NameFinds.j0 k y0 y1 y2) (potsherdlaw13_NameFinds.j0 (k + 1) y0 y1 y2)) ∧ (∀ y0 y1 y2 y3 y4 y5 y6, LeO (potsherdlaw13_NameFinds.l0 k y0 y1 y2 y3 y4 y5 y6) (potsherdlaw13_NameFinds.l0 (k + 1) y0 y1 y2 y3 y4 y5 y6))
 | 0 => ⟨fun _ _ _ r h => by simp [potsherdlaw13_NameFinds.j0] at h, fun _ _ _ _ _ _ _ r h => by simp [potsherdlaw13_NameFinds.l0] at h⟩
 | k + 1 => by
  obtain ⟨ih0, ih1⟩ := potsherdlaw13_NameFinds.mono_l k; refine ⟨?_, ?_⟩
  ·
   intro y0 y1 y2
   unfold potsherdlaw13_NameFinds.j0
   repeat' first
   | (with_reducible exact ih0 _ _ _)
   | (with_reducible exact ih1 _ _ _ _ _ _ _)
   | (with_reducible exact name_Names.mono _ _)
   | (with_reducible exact name_Without.mono _ _ _)
   | (with_reducible exact potsherdlaw13_Light.mono _ _)
   | (with_reducible exact potsherdlaw13_awake.mono _)
   | (with_reducible exact potsherdref12_MayEntries.mono _ _)
   | (with_reducible exact LeO.refl _)
   | (with_reducible exact LeO.none _)
   | (with_reducible refine LeO.ite ?_ ?_)
   | (with_reducible refine LeO.bind ?_ (fun _ => ?_))
   | exact ih0 _ _ _
   | exact ih1 _ _ _ _ _ _ _
   | exact name_Names.mono _ _
   | exact name_Without.mono _ _ _
   | exact potsherdlaw13_Light.mono _ _
   | exact potsherdlaw13_awake.mono _
   | exact potsherdref12_MayEntries.mono _ _
   | exact LeO.none _
   | refine LeO.ite ?_ ?_
   | refine LeO.bind ?_ (fun _ => ?_)
  ·
   intro y0 y1 y2 y3 y4 y5 y6
   unfold potsherdlaw13_NameFinds.l0
   repeat' first
   | (with_reducible exact ih0 _ _ _)
   | (with_reducible exact ih1 _ _ _ _ _ _ _)
   | (with_reducible exact name_Names.mono _ _)
   | (with_reducible exact name_Without.mono _ _ _)
   | (with_reducible exact potsherdlaw13_Light.mono _ _)
   | (with_reducible exact potsherdlaw13_awake.mono _)
   | (with_reducible exact potsherdref12_MayEntries.mono _ _)
   | (with_reducible exact LeO.refl _)
   | (with_reducible exact LeO.none _)
   | (with_reducible refine LeO.ite ?_ ?_)
   | (with_reducible refine LeO.bind ?_ (fun _ => ?_))
   | exact ih0 _ _ _
   | exact ih1 _ _ _ _ _ _ _
   | exact name_Names.mono _ _
   | exact name_Without.mono _ _ _
   | exact potsherdlaw13_Light.mono _ _
   | exact potsherdlaw13_awake.mono _
   | exact potsherdref12_MayEntries.mono _ _
   | exact LeO.none _
   | refine LeO.ite ?_ ?_
   | refine LeO.bind ?_ (fun _ => ?_)
theorem potsherdlaw13_NameFinds.mono : ∀ a0 a1 k, LeO (potsherdlaw13_NameFinds.f k a0 a1) (potsherdlaw13_NameFinds.f (k + 1) a0 a1) := by
 intro a0 a1 k; obtain ⟨ih0, ih1⟩ := potsherdlaw13_NameFinds.mono_l k
 unfold potsherdlaw13_NameFinds.f
 repeat' first
  | (with_reducible exact ih0 _ _ _)
  | (with_reducible exact ih1 _ _ _ _ _ _ _)
  | (with_reducible exact name_Names.mono _ _)
  | (with_reducible exact name_Without.mono _ _ _)
  | (with_reducible exact potsherdlaw13_Light.mono _ _)
  | (with_reducible exact potsherdlaw13_awake.mono _)
  | (with_reducible exact potsherdref12_MayEntries.mono _ _)
  | (with_reducible exact LeO.refl _)
  | (with_reducible exact LeO.none _)
  | (with_reducible refine LeO.ite ?_ ?_)
  | (with_reducible refine LeO.bind ?_ (fun _ => ?_))
  | exact ih0 _ _ _
  | exact ih1 _ _ _ _ _ _ _
  | exact name_Names.mono _ _
  | exact name_Without.mono _ _ _
  | exact potsherdlaw13_Light.mono _ _
  | exact potsherdlaw13_awake.mono _
  | exact potsherdref12_MayEntries.mono _ _
  | exact LeO.none _
  | refine LeO.ite ?_ ?_
  | refine LeO.bind ?_ (fun _ => ?_)
def potsherdlaw13_NameFinds.T8 : Bool × List (List Nat × List Nat) := (true, [([], []), ([], []), ([1], [1]), ([0, 2], [0, 2]), ([], []), ([4], [4]), ([3, 5], [3, 5]), ([6, 3], [6]), ([7], [7]), ([7], [7]), ([9, 7], [7, 9]), ([8, 10, 7], [7, 8, 10]), ([7, 11], [7, 11]), ([12, 7], [12]), ([13], [13]), ([13], [13]), ([14, 15, 13], [13, 14, 15]), ([16, 13], [13, 16]), ([13], [13]), ([18, 13], [13, 18]), ([17, 19, 13], [13, 17, 19]), ([13, 20], [13, 20])])
def potsherdlaw13_NameFinds.B8 : List Nat := [0, 0, 2, 7, 0, 16, 63, 127, 255, 255, 767, 2047, 4095, 8191, 16383, 16383, 65535, 131071, 16383, 278527, 1048575, 2097151]
theorem potsherdlaw13_NameFinds.tab8 : rtab .any (opsOf Try.f6 8) = potsherdlaw13_NameFinds.T8 := by kernel_rfl
theorem potsherdlaw13_NameFinds.bits8 : waitsOk potsherdlaw13_NameFinds.T8.2 potsherdlaw13_NameFinds.B8 = true := by kernel_rfl
set_option maxHeartbeats 8000000 in
set_option maxRecDepth 100000 in
theorem potsherdlaw13_NameFinds.calls (k : Nat) (A0 : Option Addr) (c0 : Nat) (l0 : List (S38)) (a1 : ByteArray) (w : World) (hr0 : Kd.C k38 w A0 l0.length l0) (hc0 : l0.length ≤ c0) (h : potsherdlaw13_NameFinds.f k l0 a1 = some true) :
 Calls Try.prog 6 #[.slice A0 l0.length c0, .string a1] w fun e w' => e = .returned (.bool true) ∧ Below w.heap.size w w' := by
 have hu38 := Try.underlying38; have HR0 := Aside0.mk hr0; have HC0 := Aside0.mk hc0; clear hr0 hc0; have HB := Aside0.mk (Below.refl w.heap.size w); have H : ((potsherdlaw13_Light.f k l0).bind fun t344 => (if t344 > 0 then (potsherdlaw13_NameFinds.j0 k l0 a1 true) else ((potsherdref12_MayEntries.f k l0).bind fun t345 => (if t345 = true then (potsherdlaw13_NameFinds.j0 k l0 a1 (decide ((a1.size : Int) > 50))) else (potsherdlaw13_NameFinds.j0 k l0 a1 true))))) = some true := h; clear h; have HC3 := Aside0.mk H; clear H
 go_enter Try.func6, Try.ntmps6
 go_upto_region 1 with (fail)
 go_cut [23] (fun v23 wc => ∃ (kq : Nat) (x23_2 : Bool), v23 = .bool x23_2 ∧ Aside0 (potsherdlaw13_NameFinds.j0 kq l0 a1 x23_2 = some true) ∧ Aside0 (kq ≤ k) ∧ Aside0 (Below w.heap.size w wc))
 case first =>
  have H := HC3.out; clear HC3; replace H := Option.bind_eq_some_iff.mp H; obtain ⟨t344, A40, H⟩ := H; replace H : (if t344 > 0 then (potsherdlaw13_NameFinds.j0 k l0 a1 true) else ((potsherdref12_MayEntries.f k l0).bind fun t345 => (if t345 = true then (potsherdlaw13_NameFinds.j0 k l0 a1 (decide ((a1.size : Int) > 50))) else (potsherdlaw13_NameFinds.j0 k l0 a1 true)))) = some true := H; have A4 := Aside0.mk A40; clear A40
  by_cases c5 : t344 > 0
  ·
   rw [if_pos c5] at H; have c5b0 : decide (0 < t344) = true := decide_eq_true c5; clear c5
   (first | rw [c5b0] | (simp only [i64_w, i32_w]; rw [c5b0]) | skip)
   have H' := Aside0.mk H; clear H
   go_wp2_with (first | ((with_reducible refine gate_callee (f := 18) rfl ?_); refine goesL_ (some 12) rfl rfl Try.func18 (by kernel_rfl) rfl #[.slice A0 l0.length c0] rfl (by (try simp only [List.map_toArray, List.map_cons, List.map_nil]); first | done | rfl | (simp only [List.length_drop, List.length_take]; rfl)) ?_; (with_reducible refine (potsherdlaw13_Light.calls k _ _ l0 t344 _ ?side1 ?side2 A4.out).mono ?_); (case side1 => repeat (first | exact (Kd.C_below HR0.out HB.out) | (with_reducible refine Kd.C_alloc ?_ _) | (with_reducible refine Kd.C_drewN ?_ _) | (with_reducible refine Kd.C_drew ?_))); (case side2 => exact HC0.out); rintro e w6 ⟨rfl, hb⟩; refine ⟨_, rfl, ?_⟩; have n0_ := Aside0.mk (below_step (by repeat (first | (with_reducible first | exact HB.out | apply wA | apply wN | apply wD) | exact HB.out)) hb); clear HB; have HB := n0_; clear n0_; (try clear hb); (try clear hb2); (try clear hk); (try clear hi)))
   go_meet
   case rel => exact ⟨_, (true), (by first | rfl | (simp; done) | (simp [*]; done)), H', ⟨by first | omega | exact Nat.le_refl _⟩, ⟨by repeat (first | (with_reducible first | exact HB.out | apply wA | apply wN | apply wD) | exact HB.out)⟩⟩
  ·
   rw [if_neg c5] at H; have c5b0 : decide (0 < t344) = false := decide_eq_false c5; clear c5
   (first | rw [c5b0] | (simp only [i64_w, i32_w]; rw [c5b0]) | skip)
   replace H := Option.bind_eq_some_iff.mp H; obtain ⟨t345, A70, H⟩ := H; replace H : (if t345 = true then (potsherdlaw13_NameFinds.j0 k l0 a1 (decide ((a1.size : Int) > 50))) else (potsherdlaw13_NameFinds.j0 k l0 a1 true)) = some true := H; have A7 := Aside0.mk A70; clear A70
   by_cases c8 : t345 = true
   ·
    subst c8
    have H1 : (potsherdlaw13_NameFinds.j0 k l0 a1 (decide ((a1.size : Int) > 50))) = some true := by rw [if_pos rfl] at H; exact H
    clear H; have H := H1; clear H1; have H' := Aside0.mk H; clear H
    go_wp2_with (first | ((with_reducible refine gate_callee (f := 18) rfl ?_); refine goesL_ (some 12) rfl rfl Try.func18 (by kernel_rfl) rfl #[.slice A0 l0.length c0] rfl (by (try simp only [List.map_toArray, List.map_cons, List.map_nil]); first | done | rfl | (simp only [List.length_drop, List.length_take]; rfl)) ?_; (with_reducible refine (potsherdlaw13_Light.calls k _ _ l0 t344 _ ?side1 ?side2 A4.out).mono ?_); (case side1 => repeat (first | exact (Kd.C_below HR0.out HB.out) | (with_reducible refine Kd.C_alloc ?_ _) | (with_reducible refine Kd.C_drewN ?_ _) | (with_reducible refine Kd.C_drew ?_))); (case side2 => exact HC0.out); rintro e w9 ⟨rfl, hb⟩; refine ⟨_, rfl, ?_⟩; have n0_ := Aside0.mk (below_step (by repeat (first | (with_reducible first | exact HB.out | apply wA | apply wN | apply wD) | exact HB.out)) hb); clear HB; have HB := n0_; clear n0_; (try clear hb); (try clear hb2); (try clear hk); (try clear hi)) | (go_at_call 23; (with_reducible refine (potsherdref12_MayEntries.calls k _ _ l0 true _ ?side1 ?side2 A7.out).mono ?_); (case side1 => repeat (first | exact (Kd.C_below HR0.out HB.out) | (with_reducible refine Kd.C_alloc ?_ _) | (with_reducible refine Kd.C_drewN ?_ _) | (with_reducible refine Kd.C_drew ?_))); (case side2 => exact HC0.out); rintro e w10 ⟨rfl, hb⟩; have n0_ := Aside0.mk (below_step (by repeat (first | (with_reducible first | exact HB.out | apply wA | apply wN | apply wD) | exact HB.out)) hb); clear HB; have HB := n0_; clear n0_; (try clear hb); (try clear hb2); (try clear hk); (try clear hi)))
    go_meet
    case rel => exact ⟨_, (decide ((a1.size : Int) > 50)), (by first | rfl | (simp; done) | (simp [*]; done)), H', ⟨by first | omega | exact Nat.le_refl _⟩, ⟨by repeat (first | (with_reducible first | exact HB.out | apply wA | apply wN | apply wD) | exact HB.out)⟩⟩
   ·
    replace c8 := Bool.eq_false_iff.mpr c8; subst c8
    have H1 : (potsherdlaw13_NameFinds.j0 k l0 a1 true) = some true := by rw [if_neg (show ¬ (false = true) by decide)] at H; exact H
    clear H; have H := H1; clear H1; have H' := Aside0.mk H; clear H
    go_wp2_with (first | ((with_reducible refine gate_callee (f := 18) rfl ?_); refine goesL_ (some 12) rfl rfl Try.func18 (by kernel_rfl) rfl #[.slice A0 l0.length c0] rfl (by (try simp only [List.map_toArray, List.map_cons, List.map_nil]); first | done | rfl | (simp only [List.length_drop, List.length_take]; rfl)) ?_; (with_reducible refine (potsherdlaw13_Light.calls k _ _ l0 t344 _ ?side1 ?side2 A4.out).mono ?_); (case side1 => repeat (first | exact (Kd.C_below HR0.out HB.out) | (with_reducible refine Kd.C_alloc ?_ _) | (with_reducible refine Kd.C_drewN ?_ _) | (with_reducible refine Kd.C_drew ?_))); (case side2 => exact HC0.out); rintro e w11 ⟨rfl, hb⟩; refine ⟨_, rfl, ?_⟩; have n0_ := Aside0.mk (below_step (by repeat (first | (with_reducible first | exact HB.out | apply wA | apply wN | apply wD) | exact HB.out)) hb); clear HB; have HB := n0_; clear n0_; (try clear hb); (try clear hb2); (try clear hk); (try clear hi)) | (go_at_call 23; (with_reducible refine (potsherdref12_MayEntries.calls k _ _ l0 false _ ?side1 ?side2 A7.out).mono ?_); (case side1 => repeat (first | exact (Kd.C_below HR0.out HB.out) | (with_reducible refine Kd.C_alloc ?_ _) | (with_reducible refine Kd.C_drewN ?_ _) | (with_reducible refine Kd.C_drew ?_))); (case side2 => exact HC0.out); rintro e w12 ⟨rfl, hb⟩; have n0_ := Aside0.mk (below_step (by repeat (first | (with_reducible first | exact HB.out | apply wA | apply wN | apply wD) | exact HB.out)) hb); clear HB; have HB := n0_; clear n0_; (try clear hb); (try clear hb2); (try clear hk); (try clear hi)))
    go_meet
    case rel => exact ⟨_, (true), (by first | rfl | (simp; done) | (simp [*]; done)), H', ⟨by first | omega | exact Nat.le_refl _⟩, ⟨by repeat (first | (with_reducible first | exact HB.out | apply wA | apply wN | apply wD) | exact HB.out)⟩⟩
 case rest =>
  clear HC3
  try clear c1
  try clear p2
  try clear c5
  try clear c5b0
  try clear c6
  try clear c8
  obtain ⟨kq, x23_2, rfl, HA, HJ2, HB⟩ := hcut
  cases kq with
  | zero => exact absurd HA.out (by simp [potsherdlaw13_NameFinds.j0])
  | succ kj2 =>
   have H := HA.out; clear HA; simp only [potsherdlaw13_NameFinds.j0] at H
   by_cases c13 : x23_2 = true
   ·
    subst c13
    have H1 : ((potsherdlaw13_awake.f kj2).bind fun t346 => (some t346)) = some true := by rw [if_pos rfl] at H; exact H
    clear H; have H := H1; clear H1; replace H := Option.bind_eq_some_iff.mp H; obtain ⟨t346, A140, H⟩ := H; replace H : (some t346) = some true := H; have A14 := Aside0.mk A140; clear A140; have HRET := Aside0.mk (Option.some.inj H); clear H
    go_wp2_with (first | ((with_reducible refine gate_callee (f := 12) rfl ?_); refine goesL_ (some 24) rfl rfl Try.func12 (by kernel_rfl) rfl #[] rfl (by (try simp only [List.map_toArray, List.map_cons, List.map_nil]); first | done | rfl | (simp only [List.length_drop, List.length_take]; rfl)) ?_; (with_reducible refine (potsherdlaw13_awake.calls kj2  t346 _ A14.out).mono ?_); rintro e w15 ⟨rfl, hb⟩; refine ⟨_, rfl, ?_⟩; have n0_ := Aside0.mk (below_step (by repeat (first | (with_reducible first | exact HB.out | apply wA | apply wN | apply wD) | exact HB.out)) hb); clear HB; have HB := n0_; clear n0_; (try clear hb); (try clear hb2); (try clear hk); (try clear hi)))
    go_ret
    exact ⟨by first | rfl | exact congrArg (fun b_ => Ending.returned (Value.bool b_)) HRET.out | (rw [HRET.out]) | (simp [errW_none, errW_some] <;> rfl) | (simp [*, errW_none, errW_some] <;> rfl), by repeat (first | (with_reducible first | exact HB.out | apply wA | apply wN | apply wD) | exact HB.out)⟩
   ·
    replace c13 := Bool.eq_false_iff.mpr c13; subst c13
    have H1 : ((name_Names.f kj2 l0).bind fun t347 => (potsherdlaw13_NameFinds.l0 kj2 l0 a1 false t347 l0 (l0.length : Int) 0)) = some true := by rw [if_neg (show ¬ (false = true) by decide)] at H; exact H
    clear H; have H := H1; clear H1; replace H := Option.bind_eq_some_iff.mp H; obtain ⟨t347, A160, H⟩ := H; replace H : (potsherdlaw13_NameFinds.l0 kj2 l0 a1 false t347 l0 (l0.length : Int) 0) = some true := H; have A16 := Aside0.mk A160; clear A160; have H' := Aside0.mk H; clear H
    go_wp2_with (first | ((with_reducible refine gate_callee (f := 22) rfl ?_); refine goesL_ (some 26) rfl rfl Try.func22 (by kernel_rfl) rfl #[.slice A0 l0.length c0] rfl (by (try simp only [List.map_toArray, List.map_cons, List.map_nil]); first | done | rfl | (simp only [List.length_drop, List.length_take]; rfl)) ?_; (with_reducible refine (name_Names.calls kj2 _ _ l0 t347 _ ?side1 ?side2 A16.out).mono ?_); (case side1 => repeat (first | exact (Kd.C_below HR0.out HB.out) | (with_reducible refine Kd.C_alloc ?_ _) | (with_reducible refine Kd.C_drewN ?_ _) | (with_reducible refine Kd.C_drew ?_))); (case side2 => exact HC0.out); rintro e w17 ⟨v348, rfl, ho0, hb⟩; refine ⟨_, rfl, ?_⟩; have n0_ := Aside0.mk (Kd.R_lower ho0 (below_size (by repeat (first | (with_reducible first | exact HB.out | apply wA | apply wN | apply wD) | exact HB.out)))); have n1_ := Aside0.mk (below_step (by repeat (first | (with_reducible first | exact HB.out | apply wA | apply wN | apply wD) | exact HB.out)) hb); clear HB; have HO349 := n0_; have HB := n1_; clear n0_ n1_; (try clear hb); (try clear hb2); (try clear hk); (try clear hi); (try clear ho0)))
    go_loopg [5, 29] kj2 (fun kq v5 v29 w' => ∃ (x5_2 : Bool) (x29_2 : Int), v5 = .bool x5_2 ∧ v29 = .int .i64 x29_2 ∧ Aside0 (potsherdlaw13_NameFinds.l0 kq l0 a1 x5_2 t347 l0 (l0.length : Int) x29_2 = some true) ∧ Aside0 (kq ≤ kj2) ∧ Aside0 (Kd.R Kd.string 9 w' w.heap.size (fun _ => True) v348 t347) ∧ Aside0 (Below w.heap.size w w'))
    case atStart => exact ⟨(false), (0), (by first | rfl | (simp; done) | (simp [*]; done)), (by first | rfl | (simp; done) | (simp [*]; done)), H', ⟨Nat.le_refl _⟩, ⟨by (with_reducible repeat (first | apply Kd.R_alloc | apply Kd.R_drewN | apply Kd.R_drew)); exact HO349.out⟩, ⟨by repeat (first | (with_reducible first | exact HB.out | apply wA | apply wN | apply wD) | exact HB.out)⟩⟩
    case round =>
     clear H'
     try clear c1
     try clear c2
     try clear p2
     try clear c5
     try clear c5b0
     try clear c6
     try clear c8
     try clear c12
     try clear c13
     try clear p2
     obtain ⟨x5_2, x29_2, rfl, rfl, HA, HK2, HO_6, HB⟩ := hrel
     cases gk with
     | zero => exact absurd HA.out (by simp [potsherdlaw13_NameFinds.l0])
     | succ k2 =>
      have H := HA.out; clear HA; simp only [potsherdlaw13_NameFinds.l0] at H
      by_cases c18 : x29_2 < (l0.length : Int)
      ·
       rw [if_pos c18] at H; have c18b0 : decide (x29_2 < (l0.length : Int)) = true := decide_eq_true c18; clear c18
       by_cases c19 : 0 ≤ x29_2
       ·
        rw [if_pos c19] at H; have c19b0 : decide (0 ≤ x29_2) = true := decide_eq_true c19; clear c19
        by_cases c20 : x29_2 < (l0.length : Int)
        ·
         rw [if_pos c20] at H; have c20b0 : decide (x29_2 < (l0.length : Int)) = true := decide_eq_true c20; clear c20; replace H := Option.bind_eq_some_iff.mp H; obtain ⟨t352, A210, H⟩ := H; replace H : (if t352 = ((rd_T38 l0 x29_2).f1) then (if x29_2 ≥ (t347.length : Int) then (some false) else (if x29_2 < (t347.length : Int) then (if (rdOf ByteArray.empty t347 x29_2).toList = ((rd_T38 l0 x29_2).f0).toList then (if x5_2 = true then (potsherdlaw13_NameFinds.l0 k2 l0 a1 true t347 l0 (l0.length : Int) (wrap64 (x29_2 + 1))) else (potsherdlaw13_NameFinds.l0 k2 l0 a1 (((rd_T38 l0 x29_2).f0).toList == a1.toList) t347 l0 (l0.length : Int) (wrap64 (x29_2 + 1)))) else (some false)) else (none))) else (some false)) = some true := H; have A21 := Aside0.mk A210; clear A210
         by_cases c22 : t352 = ((rd_T38 l0 x29_2).f1)
         ·
          rw [if_pos c22] at H; have c22b0 : (t352 == ((rd_T38 l0 x29_2).f1)) = true := beq_iff_eq.mpr c22; have c22b1 : (t352 != ((rd_T38 l0 x29_2).f1)) = false := bne_eq_false_iff_eq.mpr c22; clear c22
          by_cases c23 : x29_2 ≥ (t347.length : Int)
          ·
           rw [if_pos c23] at H; have c23b0 : decide ((t347.length : Int) ≤ x29_2) = true := decide_eq_true c23; clear c23; exact absurd H (by simp)
          ·
           rw [if_neg c23] at H; have c23b0 : decide ((t347.length : Int) ≤ x29_2) = false := decide_eq_false c23; clear c23
           by_cases c24 : x29_2 < (t347.length : Int)
           ·
            rw [if_pos c24] at H; have c24b0 : decide (x29_2 < (t347.length : Int)) = true := decide_eq_true c24; clear c24
            by_cases c25 : (rdOf ByteArray.empty t347 x29_2).toList = ((rd_T38 l0 x29_2).f0).toList
            ·
             rw [if_pos c25] at H; have c25b0 : ((rdOf ByteArray.empty t347 x29_2).toList == ((rd_T38 l0 x29_2).f0).toList) = true := beq_iff_eq.mpr c25; have c25b1 : ((rdOf ByteArray.empty t347 x29_2).toList != ((rd_T38 l0 x29_2).f0).toList) = false := bne_eq_false_iff_eq.mpr c25; clear c25
             by_cases c26 : x5_2 = true
             ·
              subst c26
              have H1 : (potsherdlaw13_NameFinds.l0 k2 l0 a1 true t347 l0 (l0.length : Int) (wrap64 (x29_2 + 1))) = some true := by rw [if_pos rfl] at H; exact H
              clear H; have H := H1; clear H1; have H' := Aside0.mk H; clear H; have p350 : 0 ≤ (x29_2 : Int) := of_decide_eq_true (by first | (with_reducible assumption) | assumption); have q350 : x29_2 < (l0.length : Int) := of_decide_eq_true (by first | (with_reducible assumption) | assumption); obtain ⟨ad350, e350, hx350_0, hx350_1⟩ := at_T38 HR0.out x29_2 p350 q350
              cases e350
              replace hx350_0 := (HB.out.cell (World.block_lt_of_cell? w _ hx350_0)).trans hx350_0; replace hx350_1 := (HB.out.cell (World.block_lt_of_cell? w _ hx350_1)).trans hx350_1; replace p350 := eq_true p350; replace q350 := eq_true q350
              try go_wp2_with (first | ((with_reducible refine gate_dst (N := 8) rfl ?_); (try (refine gate_guard (by rfl) ?_; dsimp only)); refine box_event ?hg (N := 8) ?hd (cs := #[.string (⟨#[]⟩ : ByteArray), .int .i64 0]) (t := 38) ?hr ?_; (case hd => rfl); (case hg => rfl); (case hr => first | (go_simp; done) | (go_simp; rfl)); intro gb351 hg w27 hbox hb; have n0_ := Aside0.mk (Kd.R_below (by (with_reducible repeat (first | apply Kd.R_alloc | apply Kd.R_drewN | apply Kd.R_drew)); exact HO_6.out) hb); have n1_ := Aside0.mk (below_step (by repeat (first | (with_reducible first | exact HB.out | apply wA | apply wN | apply wD) | exact HB.out)) hb); have n2_ := Aside0.mk (hbox); have n3_ := Aside0.mk ((by rw [hg]; exact (below_size (by repeat (first | (with_reducible first | exact HB.out | apply wA | apply wN | apply wD) | exact HB.out))) : w.heap.size ≤ gb351)); have n4_ := Aside0.mk ((by rw [hg]; exact (below_size (by repeat (first | (with_reducible first | exact HB.out | apply wA | apply wN | apply wD) | exact HB.out))) : w.heap.size ≤ gb351)); clear HO_6; clear HB; have HO_6 := n0_; have HB := n1_; have BK351 := n2_; have GW351 := n3_; have GE351 := n4_; clear n0_ n1_ n2_ n3_ n4_; clear hb hbox hg; have hcz28_0 : w27.cell? ⟨gb351, 0, none⟩ = some (.string (⟨#[]⟩ : ByteArray)) := (bC BK351.out 0).trans rfl; have hcz28_1 : w27.cell? ⟨gb351, 1, none⟩ = some (.int .i64 0) := (bC BK351.out 1).trans rfl; have hfz28_0 := bZ BK351.out 0; have hfz28_1 := bZ BK351.out 1))
              have n0_ : Aside0 (Kd.R Kd.string 9 ((w27.setCell ⟨gb351, 0, none⟩ (.string ((rd_T38 l0 x29_2).f0))).setCell ⟨gb351, 1, none⟩ (.int .i64 ((rd_T38 l0 x29_2).f1))) w.heap.size (fun _ => True) v348 t347) := ⟨by (with_reducible repeat (first | apply Kd.R_alloc | apply Kd.R_drewN | apply Kd.R_drew)); exact Kd.R_mono (Kd.R_far (p := ⟨gb351, 1, none⟩) (Kd.R_far (p := ⟨gb351, 0, none⟩) (Kd.R_types HO_6.out BK351.out (by decide)) (fun _ hk => hk.2) (.string ((rd_T38 l0 x29_2).f0))) (fun _ hk => hk.2) (.int .i64 ((rd_T38 l0 x29_2).f1))) (fun _ hk => trivial)⟩
              have n1_ : Aside0 (((w27.setCell ⟨gb351, 0, none⟩ (.string ((rd_T38 l0 x29_2).f0))).setCell ⟨gb351, 1, none⟩ (.int .i64 ((rd_T38 l0 x29_2).f1))).heap[gb351]? = some (.cells #[.string ((rd_T38 l0 x29_2).f0), .int .i64 ((rd_T38 l0 x29_2).f1)] 38 (0, 0))) := ⟨by (with_reducible repeat (first | refine bN ?_ _ | refine bD ?_ | refine bA ?_ _)); refine blk_put (cs := #[.string ((rd_T38 l0 x29_2).f0), .int .i64 0]) ?_ 1 _ rfl; (with_reducible repeat (first | refine bN ?_ _ | refine bD ?_ | refine bA ?_ _)); refine blk_put (cs := #[.string (⟨#[]⟩ : ByteArray), .int .i64 0]) ?_ 0 _ rfl; (with_reducible repeat (first | refine bN ?_ _ | refine bD ?_ | refine bA ?_ _)); exact BK351.out⟩
              have n2_ : Aside0 (Below w.heap.size w ((w27.setCell ⟨gb351, 0, none⟩ (.string ((rd_T38 l0 x29_2).f0))).setCell ⟨gb351, 1, none⟩ (.int .i64 ((rd_T38 l0 x29_2).f1)))) := ⟨by repeat (first | (with_reducible first | exact HB.out | apply wA | apply wN | apply wD | refine wS ?_ GE351.out) | exact HB.out)⟩
              (try clear HO_6)
              (try clear BK351)
              (try clear HB)
              generalize ((w27.setCell ⟨gb351, 0, none⟩ (.string ((rd_T38 l0 x29_2).f0))).setCell ⟨gb351, 1, none⟩ (.int .i64 ((rd_T38 l0 x29_2).f1))) = w29 at n0_ n1_ n2_ ⊢; have HO_6 := n0_; have BK351 := n1_; have HB := n2_; clear n0_ n1_ n2_; have n0_ := Aside0.mk (Kd.R_drew HO_6.out); have n1_ := Aside0.mk (bD BK351.out); have n2_ := Aside0.mk (wD HB.out); clear HO_6; clear BK351; clear HB; have HO_6 := n0_; have BK351 := n1_; have HB := n2_; clear n0_ n1_ n2_; have p353 : 0 ≤ (x29_2 : Int) := of_decide_eq_true (by first | (with_reducible assumption) | assumption); have q353 : x29_2 < (t347.length : Int) := of_decide_eq_true (by first | (with_reducible assumption) | assumption); obtain ⟨An_, cn_, en_⟩ := Kd.R_slice HO_6.out; subst en_; obtain ⟨ad353, e353, hx353_0⟩ := Kd.at_string (Kd.R_reads' HO_6.out).2.2 x29_2 p353 q353
              cases e353
              replace p353 := eq_true p353; replace q353 := eq_true q353; refine start_ (n := 22) (S := fun w' => w'.cell? ⟨gb351, 0, none⟩ = some (.string ((rd_T38 l0 x29_2).f0)) ∧ w'.cell? ⟨gb351, 1, none⟩ = some (.int .i64 ((rd_T38 l0 x29_2).f1)) ∧ w'.cell? (ad353.add (x29_2).toNat) = some (.string (rdOf ByteArray.empty t347 x29_2))) (ds := []) B17_0 (by kernel_rfl) rfl rfl ⟨(bC BK351.out 0).trans rfl, (bC BK351.out 1).trans rfl, hx353_0⟩ (fun hHeld => ?_); refine with_tabW potsherdlaw13_NameFinds.tab8 potsherdlaw13_NameFinds.bits8 (fun HT_ HW_ => ?_); generalize w29.drew = w30 at HO_6 BK351 HB hx353_0 hHeld ⊢; refine pure_ (i := 0) (N := some 34) (v := ?_) (a' := ?_) B17_1 rfl rfl (any_of HT_.out (by kernel_rfl)) (fun _ _ _ h => h) (Or.inl ⟨by rfl, ?_⟩) ?_ ?_; rotate_left
              ·
               intro w'; go_simp; with_reducible rfl
              rotate_left
              ·
               simp only [Act.put, lT, l0_, lS, i64_w, i32_w]; rfl
              refine pure_ (i := 1) (N := some 35) (v := ?_) (a' := ?_) B17_2 rfl rfl (any_of HT_.out (by kernel_rfl)) (fun _ _ _ h => h) (Or.inl ⟨by rfl, ?_⟩) ?_ ?_; rotate_left
              ·
               intro w'; go_simp; with_reducible rfl
              rotate_left
              ·
               simp only [Act.put, lT, l0_, lS, i64_w, i32_w]; rfl
              refine pure_ (i := 4) (N := some 38) (v := ?_) (a' := ?_) B17_3 rfl rfl (any_of HT_.out (by kernel_rfl)) (fun _ _ _ h => h) (Or.inl ⟨by rfl, ?_⟩) ?_ ?_; rotate_left
              ·
               intro w'; go_simp; with_reducible rfl
              rotate_left
              ·
               simp only [Act.put, lT, l0_, lS, i64_w, i32_w]; rfl
              refine take_ (i := 2) (N := some 36) (v := ?_) (a' := ?_) B17_4 rfl rfl (take_ofW HT_.out HW_.out (by kernel_rfl)) (fun _ _ _ h => h) (Or.inl ⟨by rfl, ?_⟩) hHeld ?_ ?_; rotate_left
              ·
               rintro w' ⟨s0, s1, s2⟩; go_simp; with_reducible rfl
              rotate_left
              ·
               simp only [Act.put, lT, l0_, lS, i64_w, i32_w]; rfl
              refine take_ (i := 5) (N := some 39) (v := ?_) (a' := ?_) B17_5 rfl rfl (take_ofW HT_.out HW_.out (by kernel_rfl)) (fun _ _ _ h => h) (Or.inl ⟨by rfl, ?_⟩) hHeld ?_ ?_; rotate_left
              ·
               rintro w' ⟨s0, s1, s2⟩; go_simp; with_reducible rfl
              rotate_left
              ·
               simp only [Act.put, lT, l0_, lS, i64_w, i32_w]; rfl
              refine one_ (i := 3) (N := some 37) B17_6 rfl rfl (one_of HT_.out (by kernel_rfl)) (by decide) (fun K hK => ?_); refine goes_ Try.func17 (by kernel_rfl) rfl #[.slice (some ad350) l0.length c0, .string ((rd_T38 l0 x29_2).f0)] (by rfl) rfl rfl (by (try simp only [List.map_toArray, List.map_cons, List.map_nil]); first | done | rfl | (simp only [List.length_drop, List.length_take]; rfl)) ?_
              with_reducible refine (name_Find.calls _ _ l0 ((rd_T38 l0 x29_2).f0) t352 _ ?side1 ?side2 A21.out).mono ?_
              (case side1 => repeat (first | exact (Kd.C_below HR0.out HB.out) | (with_reducible refine Kd.C_alloc ?_ _) | (with_reducible refine Kd.C_drewN ?_ _) | (with_reducible refine Kd.C_drew ?_)))
              (case side2 => exact HC0.out)
              rintro e w31 ⟨rfl, hb⟩; have HS2_ := (hb.cell (World.block_lt_of_cell? _ _ (hHeld.2.2))).trans (hHeld.2.2); refine ⟨_, rfl, ?_⟩; have n0_ := Aside0.mk (Kd.R_below (by (with_reducible repeat (first | apply Kd.R_alloc | apply Kd.R_drewN | apply Kd.R_drew)); exact HO_6.out) hb)
              have n1_ := Aside0.mk (bB (g := gb351) (o := .cells #[.string ((rd_T38 l0 x29_2).f0), .int .i64 ((rd_T38 l0 x29_2).f1)] 38 (0, 0)) (by (with_reducible repeat (first | refine bN ?_ _ | refine bD ?_ | refine bA ?_ _)); exact BK351.out) hb)
              have n2_ := Aside0.mk (below_step (by repeat (first | (with_reducible first | exact HB.out | apply wA | apply wN | apply wD | refine wS ?_ GE351.out) | exact HB.out)) hb); clear HO_6; clear BK351; clear HB; have HO_6 := n0_; have BK351 := n1_; have HB := n2_; clear n0_ n1_ n2_
              (try clear hb)
              (try clear hb2)
              (try clear hk)
              (try clear hi)
              obtain ⟨Ao32, co32, eo32⟩ := Kd.R_slice HO_6.out
              (first | subst eo32 | (injection eo32 with f1_ f2_ f3_; have f4_ := f1_.symm; have f5_ := f3_.symm; clear f1_ f2_ f3_; subst f4_; subst f5_))
              refine hK.out _ _ ⟨(bC BK351.out 0).trans rfl, (bC BK351.out 1).trans rfl, HS2_⟩ (fun hHeld => ?_); clear hK K; refine norm_ (a' := ?_) ?_ ?_; rotate_left
              ·
               show Act.put _ (some 37) _ = _
               simp only [Act.put, lT, l0_, lS, i64_w, i32_w]; rfl
              refine pure_ (i := 6) (N := some 40) (v := ?_) (a' := ?_) B17_7 rfl rfl (any_of HT_.out (by kernel_rfl)) (fun _ _ _ h => h) (Or.inl ⟨by rfl, ?_⟩) ?_ ?_; rotate_left
              ·
               intro w'; go_simp; with_reducible rfl
              rotate_left
              ·
               simp only [Act.put, lT, l0_, lS, i64_w, i32_w]; rfl
              refine pure_ (i := 7) (N := some 41) (v := ?_) (a' := ?_) B17_8 rfl rfl (any_of HT_.out (by kernel_rfl)) (fun _ _ _ h => h) (Or.inl ⟨by rfl, ?_⟩) ?_ ?_; rotate_left
              ·
               intro w'; go_simp; with_reducible rfl
              rotate_left
              ·
               simp only [Act.put, lT, l0_, lS, i64_w, i32_w]; rfl
              refine pure_ (i := 8) (N := some 42) (v := ?_) (a' := ?_) B17_9 rfl rfl (any_of HT_.out (by kernel_rfl)) (fun _ _ _ h => h) (Or.inl ⟨by rfl, ?_⟩) ?_ ?_; rotate_left
              ·
               intro w'; go_simp; with_reducible rfl
              rotate_left
              ·
               simp only [Act.put, lT, l0_, lS, i64_w, i32_w]; rfl
              refine pure_ (i := 9) (N := some 43) (v := ?_) (a' := ?_) B17_10 rfl rfl (any_of HT_.out (by kernel_rfl)) (fun _ _ _ h => h) (Or.inl ⟨by rfl, ?_⟩) ?_ ?_; rotate_left
              ·
               intro w'; go_simp; with_reducible rfl
              rotate_left
              ·
               simp only [Act.put, lT, l0_, lS, i64_w, i32_w]; rfl
              refine pure_ (i := 10) (N := some 44) (v := ?_) (a' := ?_) B17_11 rfl rfl (any_of HT_.out (by kernel_rfl)) (fun _ _ _ h => h) (Or.inl ⟨by rfl, ?_⟩) ?_ ?_; rotate_left
              ·
               intro w'; go_simp; with_reducible rfl
              rotate_left
              ·
               simp only [Act.put, lT, l0_, lS, i64_w, i32_w]; rfl
              refine pure_ (i := 11) (N := some 45) (v := ?_) (a' := ?_) B17_12 rfl rfl (any_of HT_.out (by kernel_rfl)) (fun _ _ _ h => h) (Or.inl ⟨by rfl, ?_⟩) ?_ ?_; rotate_left
              ·
               intro w'; go_simp; with_reducible rfl
              rotate_left
              ·
               simp only [Act.put, lT, l0_, lS, i64_w, i32_w]; rfl
              refine pure_ (i := 12) (N := some 46) (v := ?_) (a' := ?_) B17_13 rfl rfl (any_of HT_.out (by kernel_rfl)) (fun _ _ _ h => h) (Or.inl ⟨by rfl, ?_⟩) ?_ ?_; rotate_left
              ·
               intro w'; go_simp; with_reducible rfl
              rotate_left
              ·
               simp only [Act.put, lT, l0_, lS, i64_w, i32_w]; rfl
              refine pure_ (i := 13) (N := some 47) (v := ?_) (a' := ?_) B17_14 rfl rfl (any_of HT_.out (by kernel_rfl)) (fun _ _ _ h => h) (Or.inl ⟨by rfl, ?_⟩) ?_ ?_; rotate_left
              ·
               intro w'; go_simp; with_reducible rfl
              rotate_left
              ·
               simp only [Act.put, lT, l0_, lS, i64_w, i32_w]; rfl
              refine pure_ (i := 14) (N := some 48) (v := ?_) (a' := ?_) B17_15 rfl rfl (any_of HT_.out (by kernel_rfl)) (fun _ _ _ h => h) (Or.inl ⟨by rfl, ?_⟩) ?_ ?_; rotate_left
              ·
               intro w'; go_simp; with_reducible rfl
              rotate_left
              ·
               simp only [Act.put, lT, l0_, lS, i64_w, i32_w]; rfl
              refine pure_ (i := 15) (N := some 49) (v := ?_) (a' := ?_) B17_16 rfl rfl (any_of HT_.out (by kernel_rfl)) (fun _ _ _ h => h) (Or.inl ⟨by rfl, ?_⟩) ?_ ?_; rotate_left
              ·
               intro w'; go_simp; with_reducible rfl
              rotate_left
              ·
               simp only [Act.put, lT, l0_, lS, i64_w, i32_w]; rfl
              refine pure_ (i := 16) (N := some 50) (v := ?_) (a' := ?_) B17_17 rfl rfl (any_of HT_.out (by kernel_rfl)) (fun _ _ _ h => h) (Or.inl ⟨by rfl, ?_⟩) ?_ ?_; rotate_left
              ·
               intro w'; go_simp; with_reducible rfl
              rotate_left
              ·
               simp only [Act.put, lT, l0_, lS, i64_w, i32_w]; rfl
              refine pure_ (i := 18) (N := some 52) (v := ?_) (a' := ?_) B17_18 rfl rfl (any_of HT_.out (by kernel_rfl)) (fun _ _ _ h => h) (Or.inl ⟨by rfl, ?_⟩) ?_ ?_; rotate_left
              ·
               intro w'; go_simp; with_reducible rfl
              rotate_left
              ·
               simp only [Act.put, lT, l0_, lS, i64_w, i32_w]; rfl
              refine take_ (i := 17) (N := some 51) (v := ?_) (a' := ?_) B17_19 rfl rfl (take_ofW HT_.out HW_.out (by kernel_rfl)) (fun _ _ _ h => h) (Or.inl ⟨by rfl, ?_⟩) hHeld ?_ ?_; rotate_left
              ·
               rintro w' ⟨s0, s1, s2⟩; go_simp; with_reducible rfl
              rotate_left
              ·
               simp only [Act.put, lT, l0_, lS, i64_w, i32_w]; rfl
              refine take_ (i := 19) (N := some 53) (v := ?_) (a' := ?_) B17_20 rfl rfl (take_ofW HT_.out HW_.out (by kernel_rfl)) (fun _ _ _ h => h) (Or.inl ⟨by rfl, ?_⟩) hHeld ?_ ?_; rotate_left
              ·
               rintro w' ⟨s0, s1, s2⟩; go_simp; with_reducible rfl
              rotate_left
              ·
               simp only [Act.put, lT, l0_, lS, i64_w, i32_w]; rfl
              refine pure_ (i := 20) (N := some 54) (v := ?_) (a' := ?_) B17_21 rfl rfl (any_of HT_.out (by kernel_rfl)) (fun _ _ _ h => h) (Or.inl ⟨by rfl, ?_⟩) ?_ ?_; rotate_left
              ·
               intro w'; go_simp; with_reducible rfl
              rotate_left
              ·
               simp only [Act.put, lT, l0_, lS, i64_w, i32_w]; rfl
              refine pure_ (i := 21) (N := some 55) (v := ?_) (a' := ?_) B17_22 rfl rfl (any_of HT_.out (by kernel_rfl)) (fun _ _ _ h => h) (Or.inl ⟨by rfl, ?_⟩) ?_ ?_; rotate_left
              ·
               intro w'; go_simp; with_reducible rfl
              rotate_left
              ·
               simp only [Act.put, lT, l0_, lS, i64_w, i32_w]; rfl
              refine done_ (done_of HT_.out (by kernel_rfl)) ?_
              try go_wp2
              go_roundg k2
              case measure => have := HJ2.out; have := HK2.out; omega
              case rel => exact ⟨(true), (wrap64 (x29_2 + 1)), (by first | rfl | (simp; done) | (simp [*]; done)), (by first | rfl | (simp; done) | (simp [*]; done)), H', ⟨by have := HJ2.out; have := HK2.out; omega⟩, ⟨by (with_reducible repeat (first | apply Kd.R_alloc | apply Kd.R_drewN | apply Kd.R_drew)); exact HO_6.out⟩, ⟨by repeat (first | (with_reducible first | exact HB.out | apply wA | apply wN | apply wD | refine wS ?_ GE351.out) | exact HB.out)⟩⟩
             ·
              replace c26 := Bool.eq_false_iff.mpr c26; subst c26
              have H1 : (potsherdlaw13_NameFinds.l0 k2 l0 a1 (((rd_T38 l0 x29_2).f0).toList == a1.toList) t347 l0 (l0.length : Int) (wrap64 (x29_2 + 1))) = some true := by rw [if_neg (show ¬ (false = true) by decide)] at H; exact H
              clear H; have H := H1; clear H1; have H' := Aside0.mk H; clear H; have p350 : 0 ≤ (x29_2 : Int) := of_decide_eq_true (by first | (with_reducible assumption) | assumption); have q350 : x29_2 < (l0.length : Int) := of_decide_eq_true (by first | (with_reducible assumption) | assumption); obtain ⟨ad350, e350, hx350_0, hx350_1⟩ := at_T38 HR0.out x29_2 p350 q350
              cases e350
              replace hx350_0 := (HB.out.cell (World.block_lt_of_cell? w _ hx350_0)).trans hx350_0; replace hx350_1 := (HB.out.cell (World.block_lt_of_cell? w _ hx350_1)).trans hx350_1; replace p350 := eq_true p350; replace q350 := eq_true q350
              try go_wp2_with (first | ((with_reducible refine gate_dst (N := 8) rfl ?_); (try (refine gate_guard (by rfl) ?_; dsimp only)); refine box_event ?hg (N := 8) ?hd (cs := #[.string (⟨#[]⟩ : ByteArray), .int .i64 0]) (t := 38) ?hr ?_; (case hd => rfl); (case hg => rfl); (case hr => first | (go_simp; done) | (go_simp; rfl)); intro gb351 hg w33 hbox hb; have n0_ := Aside0.mk (Kd.R_below (by (with_reducible repeat (first | apply Kd.R_alloc | apply Kd.R_drewN | apply Kd.R_drew)); exact HO_6.out) hb); have n1_ := Aside0.mk (below_step (by repeat (first | (with_reducible first | exact HB.out | apply wA | apply wN | apply wD) | exact HB.out)) hb); have n2_ := Aside0.mk (hbox); have n3_ := Aside0.mk ((by rw [hg]; exact (below_size (by repeat (first | (with_reducible first | exact HB.out | apply wA | apply wN | apply wD) | exact HB.out))) : w.heap.size ≤ gb351)); have n4_ := Aside0.mk ((by rw [hg]; exact (below_size (by repeat (first | (with_reducible first | exact HB.out | apply wA | apply wN | apply wD) | exact HB.out))) : w.heap.size ≤ gb351)); clear HO_6; clear HB; have HO_6 := n0_; have HB := n1_; have BK351 := n2_; have GW351 := n3_; have GE351 := n4_; clear n0_ n1_ n2_ n3_ n4_; clear hb hbox hg; have hcz34_0 : w33.cell? ⟨gb351, 0, none⟩ = some (.string (⟨#[]⟩ : ByteArray)) := (bC BK351.out 0).trans rfl; have hcz34_1 : w33.cell? ⟨gb351, 1, none⟩ = some (.int .i64 0) := (bC BK351.out 1).trans rfl; have hfz34_0 := bZ BK351.out 0; have hfz34_1 := bZ BK351.out 1))
              have n0_ : Aside0 (Kd.R Kd.string 9 ((w33.setCell ⟨gb351, 0, none⟩ (.string ((rd_T38 l0 x29_2).f0))).setCell ⟨gb351, 1, none⟩ (.int .i64 ((rd_T38 l0 x29_2).f1))) w.heap.size (fun _ => True) v348 t347) := ⟨by (with_reducible repeat (first | apply Kd.R_alloc | apply Kd.R_drewN | apply Kd.R_drew)); exact Kd.R_mono (Kd.R_far (p := ⟨gb351, 1, none⟩) (Kd.R_far (p := ⟨gb351, 0, none⟩) (Kd.R_types HO_6.out BK351.out (by decide)) (fun _ hk => hk.2) (.string ((rd_T38 l0 x29_2).f0))) (fun _ hk => hk.2) (.int .i64 ((rd_T38 l0 x29_2).f1))) (fun _ hk => trivial)⟩
              have n1_ : Aside0 (((w33.setCell ⟨gb351, 0, none⟩ (.string ((rd_T38 l0 x29_2).f0))).setCell ⟨gb351, 1, none⟩ (.int .i64 ((rd_T38 l0 x29_2).f1))).heap[gb351]? = some (.cells #[.string ((rd_T38 l0 x29_2).f0), .int .i64 ((rd_T38 l0 x29_2).f1)] 38 (0, 0))) := ⟨by (with_reducible repeat (first | refine bN ?_ _ | refine bD ?_ | refine bA ?_ _)); refine blk_put (cs := #[.string ((rd_T38 l0 x29_2).f0), .int .i64 0]) ?_ 1 _ rfl; (with_reducible repeat (first | refine bN ?_ _ | refine bD ?_ | refine bA ?_ _)); refine blk_put (cs := #[.string (⟨#[]⟩ : ByteArray), .int .i64 0]) ?_ 0 _ rfl; (with_reducible repeat (first | refine bN ?_ _ | refine bD ?_ | refine bA ?_ _)); exact BK351.out⟩
              have n2_ : Aside0 (Below w.heap.size w ((w33.setCell ⟨gb351, 0, none⟩ (.string ((rd_T38 l0 x29_2).f0))).setCell ⟨gb351, 1, none⟩ (.int .i64 ((rd_T38 l0 x29_2).f1)))) := ⟨by repeat (first | (with_reducible first | exact HB.out | apply wA | apply wN | apply wD | refine wS ?_ GE351.out) | exact HB.out)⟩
              (try clear HO_6)
              (try clear BK351)
              (try clear HB)
              generalize ((w33.setCell ⟨gb351, 0, none⟩ (.string ((rd_T38 l0 x29_2).f0))).setCell ⟨gb351, 1, none⟩ (.int .i64 ((rd_T38 l0 x29_2).f1))) = w35 at n0_ n1_ n2_ ⊢; have HO_6 := n0_; have BK351 := n1_; have HB := n2_; clear n0_ n1_ n2_; have n0_ := Aside0.mk (Kd.R_drew HO_6.out); have n1_ := Aside0.mk (bD BK351.out); have n2_ := Aside0.mk (wD HB.out); clear HO_6; clear BK351; clear HB; have HO_6 := n0_; have BK351 := n1_; have HB := n2_; clear n0_ n1_ n2_; have p353 : 0 ≤ (x29_2 : Int) := of_decide_eq_true (by first | (with_reducible assumption) | assumption); have q353 : x29_2 < (t347.length : Int) := of_decide_eq_true (by first | (with_reducible assumption) | assumption); obtain ⟨An_, cn_, en_⟩ := Kd.R_slice HO_6.out; subst en_; obtain ⟨ad353, e353, hx353_0⟩ := Kd.at_string (Kd.R_reads' HO_6.out).2.2 x29_2 p353 q353
              cases e353
              replace p353 := eq_true p353; replace q353 := eq_true q353; refine start_ (n := 22) (S := fun w' => w'.cell? ⟨gb351, 0, none⟩ = some (.string ((rd_T38 l0 x29_2).f0)) ∧ w'.cell? ⟨gb351, 1, none⟩ = some (.int .i64 ((rd_T38 l0 x29_2).f1)) ∧ w'.cell? (ad353.add (x29_2).toNat) = some (.string (rdOf ByteArray.empty t347 x29_2))) (ds := []) B17_0 (by kernel_rfl) rfl rfl ⟨(bC BK351.out 0).trans rfl, (bC BK351.out 1).trans rfl, hx353_0⟩ (fun hHeld => ?_); refine with_tabW potsherdlaw13_NameFinds.tab8 potsherdlaw13_NameFinds.bits8 (fun HT_ HW_ => ?_); generalize w35.drew = w36 at HO_6 BK351 HB hx353_0 hHeld ⊢; refine pure_ (i := 0) (N := some 34) (v := ?_) (a' := ?_) B17_1 rfl rfl (any_of HT_.out (by kernel_rfl)) (fun _ _ _ h => h) (Or.inl ⟨by rfl, ?_⟩) ?_ ?_; rotate_left
              ·
               intro w'; go_simp; with_reducible rfl
              rotate_left
              ·
               simp only [Act.put, lT, l0_, lS, i64_w, i32_w]; rfl
              refine pure_ (i := 1) (N := some 35) (v := ?_) (a' := ?_) B17_2 rfl rfl (any_of HT_.out (by kernel_rfl)) (fun _ _ _ h => h) (Or.inl ⟨by rfl, ?_⟩) ?_ ?_; rotate_left
              ·
               intro w'; go_simp; with_reducible rfl
              rotate_left
              ·
               simp only [Act.put, lT, l0_, lS, i64_w, i32_w]; rfl
              refine pure_ (i := 4) (N := some 38) (v := ?_) (a' := ?_) B17_3 rfl rfl (any_of HT_.out (by kernel_rfl)) (fun _ _ _ h => h) (Or.inl ⟨by rfl, ?_⟩) ?_ ?_; rotate_left
              ·
               intro w'; go_simp; with_reducible rfl
              rotate_left
              ·
               simp only [Act.put, lT, l0_, lS, i64_w, i32_w]; rfl
              refine take_ (i := 2) (N := some 36) (v := ?_) (a' := ?_) B17_4 rfl rfl (take_ofW HT_.out HW_.out (by kernel_rfl)) (fun _ _ _ h => h) (Or.inl ⟨by rfl, ?_⟩) hHeld ?_ ?_; rotate_left
              ·
               rintro w' ⟨s0, s1, s2⟩; go_simp; with_reducible rfl
              rotate_left
              ·
               simp only [Act.put, lT, l0_, lS, i64_w, i32_w]; rfl
              refine take_ (i := 5) (N := some 39) (v := ?_) (a' := ?_) B17_5 rfl rfl (take_ofW HT_.out HW_.out (by kernel_rfl)) (fun _ _ _ h => h) (Or.inl ⟨by rfl, ?_⟩) hHeld ?_ ?_; rotate_left
              ·
               rintro w' ⟨s0, s1, s2⟩; go_simp; with_reducible rfl
              rotate_left
              ·
               simp only [Act.put, lT, l0_, lS, i64_w, i32_w]; rfl
              refine one_ (i := 3) (N := some 37) B17_6 rfl rfl (one_of HT_.out (by kernel_rfl)) (by decide) (fun K hK => ?_); refine goes_ Try.func17 (by kernel_rfl) rfl #[.slice (some ad350) l0.length c0, .string ((rd_T38 l0 x29_2).f0)] (by rfl) rfl rfl (by (try simp only [List.map_toArray, List.map_cons, List.map_nil]); first | done | rfl | (simp only [List.length_drop, List.length_take]; rfl)) ?_
              with_reducible refine (name_Find.calls _ _ l0 ((rd_T38 l0 x29_2).f0) t352 _ ?side1 ?side2 A21.out).mono ?_
              (case side1 => repeat (first | exact (Kd.C_below HR0.out HB.out) | (with_reducible refine Kd.C_alloc ?_ _) | (with_reducible refine Kd.C_drewN ?_ _) | (with_reducible refine Kd.C_drew ?_)))
              (case side2 => exact HC0.out)
              rintro e w37 ⟨rfl, hb⟩; have HS2_ := (hb.cell (World.block_lt_of_cell? _ _ (hHeld.2.2))).trans (hHeld.2.2); refine ⟨_, rfl, ?_⟩; have n0_ := Aside0.mk (Kd.R_below (by (with_reducible repeat (first | apply Kd.R_alloc | apply Kd.R_drewN | apply Kd.R_drew)); exact HO_6.out) hb)
              have n1_ := Aside0.mk (bB (g := gb351) (o := .cells #[.string ((rd_T38 l0 x29_2).f0), .int .i64 ((rd_T38 l0 x29_2).f1)] 38 (0, 0)) (by (with_reducible repeat (first | refine bN ?_ _ | refine bD ?_ | refine bA ?_ _)); exact BK351.out) hb)
              have n2_ := Aside0.mk (below_step (by repeat (first | (with_reducible first | exact HB.out | apply wA | apply wN | apply wD | refine wS ?_ GE351.out) | exact HB.out)) hb); clear HO_6; clear BK351; clear HB; have HO_6 := n0_; have BK351 := n1_; have HB := n2_; clear n0_ n1_ n2_
              (try clear hb)
              (try clear hb2)
              (try clear hk)
              (try clear hi)
              obtain ⟨Ao38, co38, eo38⟩ := Kd.R_slice HO_6.out
              (first | subst eo38 | (injection eo38 with f1_ f2_ f3_; have f4_ := f1_.symm; have f5_ := f3_.symm; clear f1_ f2_ f3_; subst f4_; subst f5_))
              refine hK.out _ _ ⟨(bC BK351.out 0).trans rfl, (bC BK351.out 1).trans rfl, HS2_⟩ (fun hHeld => ?_); clear hK K; refine norm_ (a' := ?_) ?_ ?_; rotate_left
              ·
               show Act.put _ (some 37) _ = _
               simp only [Act.put, lT, l0_, lS, i64_w, i32_w]; rfl
              refine pure_ (i := 6) (N := some 40) (v := ?_) (a' := ?_) B17_7 rfl rfl (any_of HT_.out (by kernel_rfl)) (fun _ _ _ h => h) (Or.inl ⟨by rfl, ?_⟩) ?_ ?_; rotate_left
              ·
               intro w'; go_simp; with_reducible rfl
              rotate_left
              ·
               simp only [Act.put, lT, l0_, lS, i64_w, i32_w]; rfl
              refine pure_ (i := 7) (N := some 41) (v := ?_) (a' := ?_) B17_8 rfl rfl (any_of HT_.out (by kernel_rfl)) (fun _ _ _ h => h) (Or.inl ⟨by rfl, ?_⟩) ?_ ?_; rotate_left
              ·
               intro w'; go_simp; with_reducible rfl
              rotate_left
              ·
               simp only [Act.put, lT, l0_, lS, i64_w, i32_w]; rfl
              refine pure_ (i := 8) (N := some 42) (v := ?_) (a' := ?_) B17_9 rfl rfl (any_of HT_.out (by kernel_rfl)) (fun _ _ _ h => h) (Or.inl ⟨by rfl, ?_⟩) ?_ ?_; rotate_left
              ·
               intro w'; go_simp; with_reducible rfl
              rotate_left
              ·
               simp only [Act.put, lT, l0_, lS, i64_w, i32_w]; rfl
              refine pure_ (i := 9) (N := some 43) (v := ?_) (a' := ?_) B17_10 rfl rfl (any_of HT_.out (by kernel_rfl)) (fun _ _ _ h => h) (Or.inl ⟨by rfl, ?_⟩) ?_ ?_; rotate_left
              ·
               intro w'; go_simp; with_reducible rfl
              rotate_left
              ·
               simp only [Act.put, lT, l0_, lS, i64_w, i32_w]; rfl
              refine pure_ (i := 10) (N := some 44) (v := ?_) (a' := ?_) B17_11 rfl rfl (any_of HT_.out (by kernel_rfl)) (fun _ _ _ h => h) (Or.inl ⟨by rfl, ?_⟩) ?_ ?_; rotate_left
              ·
               intro w'; go_simp; with_reducible rfl
              rotate_left
              ·
               simp only [Act.put, lT, l0_, lS, i64_w, i32_w]; rfl
              refine pure_ (i := 11) (N := some 45) (v := ?_) (a' := ?_) B17_12 rfl rfl (any_of HT_.out (by kernel_rfl)) (fun _ _ _ h => h) (Or.inl ⟨by rfl, ?_⟩) ?_ ?_; rotate_left
              ·
               intro w'; go_simp; with_reducible rfl
              rotate_left
              ·
               simp only [Act.put, lT, l0_, lS, i64_w, i32_w]; rfl
              refine pure_ (i := 12) (N := some 46) (v := ?_) (a' := ?_) B17_13 rfl rfl (any_of HT_.out (by kernel_rfl)) (fun _ _ _ h => h) (Or.inl ⟨by rfl, ?_⟩) ?_ ?_; rotate_left
              ·
               intro w'; go_simp; with_reducible rfl
              rotate_left
              ·
               simp only [Act.put, lT, l0_, lS, i64_w, i32_w]; rfl
              refine pure_ (i := 13) (N := some 47) (v := ?_) (a' := ?_) B17_14 rfl rfl (any_of HT_.out (by kernel_rfl)) (fun _ _ _ h => h) (Or.inl ⟨by rfl, ?_⟩) ?_ ?_; rotate_left
              ·
               intro w'; go_simp; with_reducible rfl
              rotate_left
              ·
               simp only [Act.put, lT, l0_, lS, i64_w, i32_w]; rfl
              refine pure_ (i := 14) (N := some 48) (v := ?_) (a' := ?_) B17_15 rfl rfl (any_of HT_.out (by kernel_rfl)) (fun _ _ _ h => h) (Or.inl ⟨by rfl, ?_⟩) ?_ ?_; rotate_left
              ·
               intro w'; go_simp; with_reducible rfl
              rotate_left
              ·
               simp only [Act.put, lT, l0_, lS, i64_w, i32_w]; rfl
              refine pure_ (i := 15) (N := some 49) (v := ?_) (a' := ?_) B17_16 rfl rfl (any_of HT_.out (by kernel_rfl)) (fun _ _ _ h => h) (Or.inl ⟨by rfl, ?_⟩) ?_ ?_; rotate_left
              ·
               intro w'; go_simp; with_reducible rfl
              rotate_left
              ·
               simp only [Act.put, lT, l0_, lS, i64_w, i32_w]; rfl
              refine pure_ (i := 16) (N := some 50) (v := ?_) (a' := ?_) B17_17 rfl rfl (any_of HT_.out (by kernel_rfl)) (fun _ _ _ h => h) (Or.inl ⟨by rfl, ?_⟩) ?_ ?_; rotate_left
              ·
               intro w'; go_simp; with_reducible rfl
              rotate_left
              ·
               simp only [Act.put, lT, l0_, lS, i64_w, i32_w]; rfl
              refine pure_ (i := 18) (N := some 52) (v := ?_) (a' := ?_) B17_18 rfl rfl (any_of HT_.out (by kernel_rfl)) (fun _ _ _ h => h) (Or.inl ⟨by rfl, ?_⟩) ?_ ?_; rotate_left
              ·
               intro w'; go_simp; with_reducible rfl
              rotate_left
              ·
               simp only [Act.put, lT, l0_, lS, i64_w, i32_w]; rfl
              refine take_ (i := 17) (N := some 51) (v := ?_) (a' := ?_) B17_19 rfl rfl (take_ofW HT_.out HW_.out (by kernel_rfl)) (fun _ _ _ h => h) (Or.inl ⟨by rfl, ?_⟩) hHeld ?_ ?_; rotate_left
              ·
               rintro w' ⟨s0, s1, s2⟩; go_simp; with_reducible rfl
              rotate_left
              ·
               simp only [Act.put, lT, l0_, lS, i64_w, i32_w]; rfl
              refine take_ (i := 19) (N := some 53) (v := ?_) (a' := ?_) B17_20 rfl rfl (take_ofW HT_.out HW_.out (by kernel_rfl)) (fun _ _ _ h => h) (Or.inl ⟨by rfl, ?_⟩) hHeld ?_ ?_; rotate_left
              ·
               rintro w' ⟨s0, s1, s2⟩; go_simp; with_reducible rfl
              rotate_left
              ·
               simp only [Act.put, lT, l0_, lS, i64_w, i32_w]; rfl
              refine pure_ (i := 20) (N := some 54) (v := ?_) (a' := ?_) B17_21 rfl rfl (any_of HT_.out (by kernel_rfl)) (fun _ _ _ h => h) (Or.inl ⟨by rfl, ?_⟩) ?_ ?_; rotate_left
              ·
               intro w'; go_simp; with_reducible rfl
              rotate_left
              ·
               simp only [Act.put, lT, l0_, lS, i64_w, i32_w]; rfl
              refine pure_ (i := 21) (N := some 55) (v := ?_) (a' := ?_) B17_22 rfl rfl (any_of HT_.out (by kernel_rfl)) (fun _ _ _ h => h) (Or.inl ⟨by rfl, ?_⟩) ?_ ?_; rotate_left
              ·
               intro w'; go_simp; with_reducible rfl
              rotate_left
              ·
               simp only [Act.put, lT, l0_, lS, i64_w, i32_w]; rfl
              refine done_ (done_of HT_.out (by kernel_rfl)) ?_; have hcz39_0 : w37.cell? ⟨gb351, 0, none⟩ = some (.string ((rd_T38 l0 x29_2).f0)) := (bC BK351.out 0).trans rfl; have hcz39_1 : w37.cell? ⟨gb351, 1, none⟩ = some (.int .i64 ((rd_T38 l0 x29_2).f1)) := (bC BK351.out 1).trans rfl; have hfz39_0 := bZ BK351.out 0; have hfz39_1 := bZ BK351.out 1
              try go_wp2
              go_roundg k2
              case measure => have := HJ2.out; have := HK2.out; omega
              case rel => exact ⟨((((rd_T38 l0 x29_2).f0).toList == a1.toList)), (wrap64 (x29_2 + 1)), (by first | rfl | (simp; done) | (simp [*]; done)), (by first | rfl | (simp; done) | (simp [*]; done)), H', ⟨by have := HJ2.out; have := HK2.out; omega⟩, ⟨by (with_reducible repeat (first | apply Kd.R_alloc | apply Kd.R_drewN | apply Kd.R_drew)); exact HO_6.out⟩, ⟨by repeat (first | (with_reducible first | exact HB.out | apply wA | apply wN | apply wD | refine wS ?_ GE351.out) | exact HB.out)⟩⟩
            ·
             rw [if_neg c25] at H; have c25b0 : ((rdOf ByteArray.empty t347 x29_2).toList == ((rd_T38 l0 x29_2).f0).toList) = false := beq_eq_false_iff_ne.mpr c25; have c25b1 : ((rdOf ByteArray.empty t347 x29_2).toList != ((rd_T38 l0 x29_2).f0).toList) = true := bne_iff_ne.mpr c25; exact absurd H (by simp)
           ·
            rw [if_neg c24] at H; exact absurd H (by simp)
         ·
          rw [if_neg c22] at H; have c22b0 : (t352 == ((rd_T38 l0 x29_2).f1)) = false := beq_eq_false_iff_ne.mpr c22; have c22b1 : (t352 != ((rd_T38 l0 x29_2).f1)) = true := bne_iff_ne.mpr c22; exact absurd H (by simp)
        ·
         rw [if_neg c20] at H; exact absurd H (by simp)
       ·
        rw [if_neg c19] at H; exact absurd H (by simp)
      ·
       rw [if_neg c18] at H; have c18b0 : decide (x29_2 < (l0.length : Int)) = false := decide_eq_false c18; clear c18; replace H := Option.bind_eq_some_iff.mp H; obtain ⟨⟨t354, t357⟩, A400, H⟩ := H; replace H : ((name_Find.f l0 a1).bind fun t358 => (if ((decide (t358 ≥ 0)) == x5_2) = true then (if ((t357 == 0) == x5_2) = true then (if (t347.length : Int) = (l0.length : Int) then ((potsherdlaw13_awake.f k2).bind fun t359 => (some t359)) else (some false)) else (some false)) else (some false))) = some true := H; have A40 := Aside0.mk A400; clear A400; replace H := Option.bind_eq_some_iff.mp H; obtain ⟨t358, A410, H⟩ := H; replace H : (if ((decide (t358 ≥ 0)) == x5_2) = true then (if ((t357 == 0) == x5_2) = true then (if (t347.length : Int) = (l0.length : Int) then ((potsherdlaw13_awake.f k2).bind fun t359 => (some t359)) else (some false)) else (some false)) else (some false)) = some true := H; have A41 := Aside0.mk A410; clear A410
       by_cases c42 : ((decide (t358 ≥ 0)) == x5_2) = true
       ·
        rw [if_pos c42] at H; have c42b0 : ((decide (t358 ≥ 0)) == x5_2) = true := c42
        (try (have c42b1 : decide ((decide (t358 ≥ 0)) = x5_2) = true := by simpa using c42))
        (try (have c42b2 : ((decide (t358 ≥ 0)) == x5_2) = true := by simpa using c42))
        clear c42
        by_cases c43 : ((t357 == 0) == x5_2) = true
        ·
         rw [if_pos c43] at H; have c43b0 : ((t357 == 0) == x5_2) = true := c43
         (try (have c43b1 : decide ((t357 == 0) = x5_2) = true := by simpa using c43))
         (try (have c43b2 : ((t357 == 0) == x5_2) = true := by simpa using c43))
         clear c43
         by_cases c44 : (t347.length : Int) = (l0.length : Int)
         ·
          rw [if_pos c44] at H; have c44b0 : ((t347.length : Int) == (l0.length : Int)) = true := beq_iff_eq.mpr c44; have c44b1 : ((t347.length : Int) != (l0.length : Int)) = false := bne_eq_false_iff_eq.mpr c44
          have c44b2 : (t347.length == l0.length) = true := by first | simpa using c44 | (simp at c44 ⊢; omega)
          clear c44; replace H := Option.bind_eq_some_iff.mp H; obtain ⟨t359, A450, H⟩ := H; replace H : (some t359) = some true := H; have A45 := Aside0.mk A450; clear A450; have HRET := Aside0.mk (Option.some.inj H); clear H
          go_wp2_with (first | ((with_reducible refine gate_callee (f := 20) rfl ?_); refine goesL_ (some 67) rfl rfl Try.func20 (by kernel_rfl) rfl #[.slice A0 l0.length c0, .string a1] rfl (by (try simp only [List.map_toArray, List.map_cons, List.map_nil]); first | done | rfl | (simp only [List.length_drop, List.length_take]; rfl)) ?_; (with_reducible refine (name_Without.calls k2 (fun k_ => k_ < w.heap.size) _ _ l0 a1 t354 t357 _ ?side1 A40.out).mono ?_); (case side1 => exact Kd.V_mk HC0.out (Kd.F_below (Kd.C_F k38_heap HR0.out) (by repeat (first | (with_reducible first | exact HB.out | apply wA | apply wN | apply wD) | exact HB.out)))); rintro e w46 ⟨v355, rfl, ho0, hb⟩; refine ⟨_, rfl, ?_⟩; have n0_ := Aside0.mk (Kd.R_below (by (with_reducible repeat (first | apply Kd.R_alloc | apply Kd.R_drewN | apply Kd.R_drew)); exact HO_6.out) hb); have n1_ := Aside0.mk (Kd.R_lower (Kd.R_mono (ok' := fun k_ => True) ho0 (fun _ hk_ => trivial)) (below_size (by repeat (first | (with_reducible first | exact HB.out | apply wA | apply wN | apply wD) | exact HB.out)))); have n2_ := Aside0.mk (below_step (by repeat (first | (with_reducible first | exact HB.out | apply wA | apply wN | apply wD) | exact HB.out)) hb); clear HO_6; clear HB; have HO_6 := n0_; have HO356 := n1_; have HB := n2_; clear n0_ n1_ n2_; (try clear hb); (try clear hb2); (try clear hk); (try clear hi); (try clear ho0)) | ((with_reducible refine gate_callee (f := 17) rfl ?_); refine goesL_ (some 72) rfl rfl Try.func17 (by kernel_rfl) rfl #[.slice A0 l0.length c0, .string a1] rfl (by (try simp only [List.map_toArray, List.map_cons, List.map_nil]); first | done | rfl | (simp only [List.length_drop, List.length_take]; rfl)) ?_; (with_reducible refine (name_Find.calls _ _ l0 a1 t358 _ ?side1 ?side2 A41.out).mono ?_); (case side1 => repeat (first | exact (Kd.C_below HR0.out HB.out) | (with_reducible refine Kd.C_alloc ?_ _) | (with_reducible refine Kd.C_drewN ?_ _) | (with_reducible refine Kd.C_drew ?_))); (case side2 => exact HC0.out); rintro e w47 ⟨rfl, hb⟩; refine ⟨_, rfl, ?_⟩; have n0_ := Aside0.mk (Kd.R_below (by (with_reducible repeat (first | apply Kd.R_alloc | apply Kd.R_drewN | apply Kd.R_drew)); exact HO_6.out) hb); have n1_ := Aside0.mk (Kd.R_below (by (with_reducible repeat (first | apply Kd.R_alloc | apply Kd.R_drewN | apply Kd.R_drew)); exact HO356.out) hb); have n2_ := Aside0.mk (below_step (by repeat (first | (with_reducible first | exact HB.out | apply wA | apply wN | apply wD) | exact HB.out)) hb); clear HO_6; clear HO356; clear HB; have HO_6 := n0_; have HO356 := n1_; have HB := n2_; clear n0_ n1_ n2_; (try clear hb); (try clear hb2); (try clear hk); (try clear hi); obtain ⟨Ao48, co48, eo48⟩ := Kd.R_slice HO_6.out; subst eo48) | (go_at_call 12; (with_reducible refine (potsherdlaw13_awake.calls k2  t359 _ A45.out).mono ?_); rintro e w49 ⟨rfl, hb⟩; have n0_ := Aside0.mk (Kd.R_below (by (with_reducible repeat (first | apply Kd.R_alloc | apply Kd.R_drewN | apply Kd.R_drew)); exact HO_6.out) hb); have n1_ := Aside0.mk (Kd.R_below (by (with_reducible repeat (first | apply Kd.R_alloc | apply Kd.R_drewN | apply Kd.R_drew)); exact HO356.out) hb); have n2_ := Aside0.mk (below_step (by repeat (first | (with_reducible first | exact HB.out | apply wA | apply wN | apply wD) | exact HB.out)) hb); clear HO_6; clear HO356; clear HB; have HO_6 := n0_; have HO356 := n1_; have HB := n2_; clear n0_ n1_ n2_; (try clear hb); (try clear hb2); (try clear hk); (try clear hi)))
          go_ret
          exact ⟨by first | rfl | exact congrArg (fun b_ => Ending.returned (Value.bool b_)) HRET.out | (rw [HRET.out]) | (simp [errW_none, errW_some] <;> rfl) | (simp [*, errW_none, errW_some] <;> rfl), by repeat (first | (with_reducible first | exact HB.out | apply wA | apply wN | apply wD) | exact HB.out)⟩
         ·
          rw [if_neg c44] at H; have c44b0 : ((t347.length : Int) == (l0.length : Int)) = false := beq_eq_false_iff_ne.mpr c44; have c44b1 : ((t347.length : Int) != (l0.length : Int)) = true := bne_iff_ne.mpr c44
          have c44b2 : (t347.length == l0.length) = false := by first | simpa using c44 | (simp at c44 ⊢; omega)
          exact absurd H (by simp)
        ·
         rw [if_neg c43] at H
         have c43b0 : ((t357 == 0) == x5_2) = false := by simpa using c43
         (try (have c43b1 : decide ((t357 == 0) = x5_2) = false := by simpa using c43))
         (try (have c43b2 : ((t357 == 0) == x5_2) = false := by simpa using c43))
         (try (have c43b3 : ¬ ((t357 == 0) = x5_2) := by simpa using c43))
         clear c43; exact absurd H (by simp)
       ·
        rw [if_neg c42] at H
        have c42b0 : ((decide (t358 ≥ 0)) == x5_2) = false := by simpa using c42
        (try (have c42b1 : decide ((decide (t358 ≥ 0)) = x5_2) = false := by simpa using c42))
        (try (have c42b2 : ((decide (t358 ≥ 0)) == x5_2) = false := by simpa using c42))
        (try (have c42b3 : ¬ ((decide (t358 ≥ 0)) = x5_2) := by simpa using c42))
        clear c42; exact absurd H (by simp)

end Go.Proofs.Ytbaiicnibiogpaa.PName
