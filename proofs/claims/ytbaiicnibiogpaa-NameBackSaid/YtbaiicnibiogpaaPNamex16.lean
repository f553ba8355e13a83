/- The Go functions that these laws reach, each as a Lean function with the same answers (a law itself where it answers true), and the proof that the code comes to them; conditions: those of each theorem. Laid by a program of this session over the print. -/
import Derived.Test.YtbaiicnibiogpaaPNamex0
import Derived.Test.YtbaiicnibiogpaaPNamex4
import Derived.Test.YtbaiicnibiogpaaPNamex6
import Derived.Test.YtbaiicnibiogpaaPNamex7
import Derived.Test.YtbaiicnibiogpaaPNamex9
import Derived.Test.YtbaiicnibiogpaaPNamex11
import Derived.Test.YtbaiicnibiogpaaPNamex14
namespace Go.Proofs.Ytbaiicnibiogpaa.PName
open Go.RowKit Go.Proofs.YtbaiicnibiogpaaW.PrintWords Go.Proofs.YtbaiicnibiogpaaW.PrintLast Go.Proofs.YtbaiicnibiogpaaW.PrintMore
attribute [local go_sem] max2_int min2_int max_two min_two max_three min_three max_four min_four   -- for this text's walks alone
set_option linter.unusedVariables false
set_option linter.unusedSimpArgs false
open Go.Proofs.YtbaiicnibiogpaaW.PrintWords renaming blk_drewN → bN, blk_drew → bD, blk_alloc → bA, below_set → wS, below_alloc → wA, pw_below_drewN → wN, below_drew1 → wD, blk_below → bB, blk_far → bF, blk_cell → bC, blk_frozen → bZ
open List renaming setIfInBounds_toArray → lT, set_cons_zero → l0_, set_cons_succ → lS
abbrev B16_0 : Array Bool := #[false, false, false, false, false, false, false]
abbrev B16_1 : Array Bool := #[true, false, false, false, false, false, false]
abbrev B16_2 : Array Bool := #[true, true, false, false, false, false, false]
abbrev B16_3 : Array Bool := #[true, true, false, false, true, false, false]
abbrev B16_4 : Array Bool := #[true, true, true, false, true, false, false]
abbrev B16_5 : Array Bool := #[true, true, true, false, true, true, false]
abbrev B16_6 : Array Bool := #[true, true, true, true, true, true, false]
abbrev B16_7 : Array Bool := #[true, true, true, true, true, true, true]

/-! ### potsherdlaw13_NameBack: function 5 -/
mutual
def potsherdlaw13_NameBack.j0 : Nat → List (S38) → ByteArray → Int → Bool → Option (Bool)
 | 0, _, _, _, _ => none
 | k + 1, x0, x1, x2, x32 => if x32 = true then ((potsherdlaw13_awake.f k).bind fun t319 => (some t319)) else ((name_With.f k x0 x1 x2).bind fun bt320 => (if bt320.2 = 0 then ((name_With.f k bt320.1 x1 1).bind fun bt329 => ((name_Without.f k bt320.1 x1).bind fun bt333 => (if bt329.2 = 9 then (if bt333.2 = 0 then ((potsherdref12_SameEntries.f k bt333.1 x0).bind fun t337 => (if t337 = true then ((name_May.f k bt320.1).bind fun t338 => (if t338 = true then (if (bt320.1.length : Int) = (wrap64 ((x0.length : Int) + 1)) then ((name_Find.f bt320.1 x1).bind fun t339 => (potsherdlaw13_NameBack.j1 k x0 bt320.1 (t339 != x2))) else (potsherdlaw13_NameBack.j1 k x0 bt320.1 true)) else (potsherdlaw13_NameBack.j1 k x0 bt320.1 true))) else (potsherdlaw13_NameBack.j1 k x0 bt320.1 true))) else (potsherdlaw13_NameBack.j1 k x0 bt320.1 true)) else (potsherdlaw13_NameBack.j1 k x0 bt320.1 true)))) else (if (bt320.1.length : Int) = 0 then (if bt320.2 = 1 then ((potsherdlaw13_awake.f k).bind fun t324 => (some t324)) else (if bt320.2 = 9 then ((name_Find.f x0 x1).bind fun t325 => (if t325 ≥ 0 then ((potsherdlaw13_awake.f k).bind fun t326 => (some t326)) else (if bt320.2 = 14 then (if (x0.length : Int) = 10 then ((potsherdlaw13_awake.f k).bind fun t327 => (some t327)) else (some false)) else (some false)))) else (if bt320.2 = 14 then (if (x0.length : Int) = 10 then ((potsherdlaw13_awake.f k).bind fun t328 => (some t328)) else (some false)) else (some false)))) else (some false))))
def potsherdlaw13_NameBack.j1 : Nat → List (S38) → List (S38) → Bool → Option (Bool)
 | 0, _, _, _ => none
 | k + 1, x0, x7, x115 => if x115 = true then (some false) else (potsherdlaw13_NameBack.l0 k x7 x0 (x0.length : Int) 0)
def potsherdlaw13_NameBack.l0 : Nat → List (S38) → List (S38) → Int → Int → Option (Bool)
 | 0, _, _, _, _ => none
 | k + 1, x7, x116, x117, x118 => if x118 < x117 then (if 0 ≤ x118 then (if x118 < (x116.length : Int) then ((name_Find.f x7 ((rd_T38 x116 x118).f0)).bind fun t342 => (if t342 = ((rd_T38 x116 x118).f1) then (potsherdlaw13_NameBack.l0 k x7 x116 x117 (wrap64 (x118 + 1))) else (some false))) else (none)) else (none)) else ((potsherdlaw13_awake.f k).bind fun t343 => (some t343))
end
def potsherdlaw13_NameBack.f (k : Nat) (l0 : List (S38)) (a1 : ByteArray) (a2 : Int) : Option (Bool) := (potsherdlaw13_Light.f k l0).bind fun t316 => (if t316 > 0 then (potsherdlaw13_NameBack.j0 k l0 a1 a2 true) else (if (a1.size : Int) > 100 then (potsherdlaw13_NameBack.j0 k l0 a1 a2 true) else ((name_May.f k l0).bind fun t317 => (if t317 = true then ((potsherdref12_MayEntries.f k l0).bind fun t318 => (potsherdlaw13_NameBack.j0 k l0 a1 a2 (!t318))) else (potsherdlaw13_NameBack.j0 k l0 a1 a2 true)))))
theorem potsherdlaw13_NameBack.mono_l : ∀ k, (∀ y0 y1 y2 y3, LeO (potsherdlaw13_NameBack.j0 k y0 y1 y2 y3) (potsherdlaw13_NameBack.j0 (k + 1) y0 y1 y2 y3)) ∧ (∀ y0 y1 y2, LeO (potsherdlaw13_NameBack.j1 k y0 y1 y2) (potsherdlaw13_NameBack.j1 (k + 1) y0 y1 y2)) ∧ (∀ y0 y1 y2 y3, LeO (potsherdlaw13_NameBack.l0 k y0 y1 y2 y3) (potsherdlaw13_NameBack.l0 (k + 1) y0 y1 y2 y3))
 | 0 => ⟨fun _ _ _ _ r h => by simp [potsherdlaw13_NameBack.j0] at h, fun _ _ _ r h => by simp [potsherdlaw13_NameBack.j1] at h, fun _ _ _ _ r h => by simp [potsherdlaw13_NameBack.l0] at h⟩
 | k + 1 => by
  obtain ⟨ih0, ih1, ih2⟩ := potsherdlaw13_NameBack.mono_l k; refine ⟨?_, ?_, ?_⟩
  ·
   intro y0 y1 y2 y3
   unfold potsherdlaw13_NameBack.j0
   repeat' first
   | (with_reducible exact ih0 _ _ _ _)
   | (with_reducible exact ih1 _ _ _)
   | (with_reducible exact ih2 _ _ _ _)
   | (with_reducible exact name_May.mono _ _)
   | (with_reducible exact name_With.mono _ _ _ _)
   | (with_reducible exact name_Without.mono _ _ _)
   | (with_reducible exact potsherdlaw13_Light.mono _ _)
   | (with_reducible exact potsherdlaw13_awake.mono _)
   | (with_reducible exact potsherdref12_MayEntries.mono _ _)
   | (with_reducible exact potsherdref12_SameEntries.mono _ _ _)
   | (with_reducible exact LeO.refl _)
   | (with_reducible exact LeO.none _)
   | (with_reducible refine LeO.ite ?_ ?_)
   | (with_reducible refine LeO.bind ?_ (fun _ => ?_))
   | exact ih0 _ _ _ _
   | exact ih1 _ _ _
   | exact ih2 _ _ _ _
   | exact name_May.mono _ _
   | exact name_With.mono _ _ _ _
   | exact name_Without.mono _ _ _
   | exact potsherdlaw13_Light.mono _ _
   | exact potsherdlaw13_awake.mono _
   | exact potsherdref12_MayEntries.mono _ _
   | exact potsherdref12_SameEntries.mono _ _ _
   | exact LeO.none _
   | refine LeO.ite ?_ ?_
   | refine LeO.bind ?_ (fun _ => ?_)
  ·
   intro y0 y1 y2
   unfold potsherdlaw13_NameBack.j1
   repeat' first
   | (with_reducible exact ih0 _ _ _ _)
   | (with_reducible exact ih1 _ _ _)
   | (with_reducible exact ih2 _ _ _ _)
   | (with_reducible exact name_May.mono _ _)
   | (with_reducible exact name_With.mono _ _ _ _)
   | (with_reducible exact name_Without.mono _ _ _)
   | (with_reducible exact potsherdlaw13_Light.mono _ _)
   | (with_reducible exact potsherdlaw13_awake.mono _)
   | (with_reducible exact potsherdref12_MayEntries.mono _ _)
   | (with_reducible exact potsherdref12_SameEntries.mono _ _ _)
   | (with_reducible exact LeO.refl _)
   | (with_reducible exact LeO.none _)
   | (with_reducible refine LeO.ite ?_ ?_)
   | (with_reducible refine LeO.bind ?_ (fun _ => ?_))
   | exact ih0 _ _ _ _
   | exact ih1 _ _ _
   | exact ih2 _ _ _ _
   | exact name_May.mono _ _
   | exact name_With.mono _ _ _ _
   | exact name_Without.mono _ _ _
   | exact potsherdlaw13_Light.mono _ _
   | exact potsherdlaw13_awake.mono _
   | exact potsherdref12_MayEntries.mono _ _
   | exact potsherdref12_SameEntries.mono _ _ _
   | exact LeO.none _
   | refine LeO.ite ?_ ?_
   | refine LeO.bind ?_ (fun _ => ?_)
  ·
   intro y0 y1 y2 y3
   unfold potsherdlaw13_NameBack.l0
   repeat' first
   | (with_reducible exact ih0 _ _ _ _)
   | (with_reducible exact ih1 _ _ _)
   | (with_reducible exact ih2 _ _ _ _)
   | (with_reducible exact name_May.mono _ _)
   | (with_reducible exact name_With.mono _ _ _ _)
   | (with_reducible exact name_Without.mono _ _ _)
   | (with_reducible exact potsherdlaw13_Light.mono _ _)
   | (with_reducible exact potsherdlaw13_awake.mono _)
   | (with_reducible exact potsherdref12_MayEntries.mono _ _)
   | (with_reducible exact potsherdref12_SameEntries.mono _ _ _)
   | (with_reducible exact LeO.refl _)
   | (with_reducible exact LeO.none _)
   | (with_reducible refine LeO.ite ?_ ?_)
   | (with_reducible refine LeO.bind ?_ (fun _ => ?_))
   | exact ih0 _ _ _ _
   | exact ih1 _ _ _
   | exact ih2 _ _ _ _
   | exact name_May.mono _ _
   | exact name_With.mono _ _ _ _
   | exact name_Without.mono _ _ _
   | exact potsherdlaw13_Light.mono _ _
   | exact potsherdlaw13_awake.mono _
   | exact potsherdref12_MayEntries.mono _ _
   | exact potsherdref12_SameEntries.mono _ _ _
   | exact LeO.none _
   | refine LeO.ite ?_ ?_
   | refine LeO.bind ?_ (fun _ => ?_)
theorem potsherdlaw13_NameBack.mono : ∀ a0 a1 a2 k, LeO (potsherdlaw13_NameBack.f k a0 a1 a2) (potsherdlaw13_NameBack.f (k + 1) a0 a1 a2) := by
 intro a0 a1 a2 k; obtain ⟨ih0, ih1, ih2⟩ := potsherdlaw13_NameBack.mono_l k
 unfold potsherdlaw13_NameBack.f
 repeat' first
  | (with_reducible exact ih0 _ _ _ _)
  | (with_reducible exact ih1 _ _ _)
  | (with_reducible exact ih2 _ _ _ _)
  | (with_reducible exact name_May.mono _ _)
  | (with_reducible exact name_With.mono _ _ _ _)
  | (with_reducible exact name_Without.mono _ _ _)
  | (with_reducible exact potsherdlaw13_Light.mono _ _)
  | (with_reducible exact potsherdlaw13_awake.mono _)
  | (with_reducible exact potsherdref12_MayEntries.mono _ _)
  | (with_reducible exact potsherdref12_SameEntries.mono _ _ _)
  | (with_reducible exact LeO.refl _)
  | (with_reducible exact LeO.none _)
  | (with_reducible refine LeO.ite ?_ ?_)
  | (with_reducible refine LeO.bind ?_ (fun _ => ?_))
  | exact ih0 _ _ _ _
  | exact ih1 _ _ _
  | exact ih2 _ _ _ _
  | exact name_May.mono _ _
  | exact name_With.mono _ _ _ _
  | exact name_Without.mono _ _ _
  | exact potsherdlaw13_Light.mono _ _
  | exact potsherdlaw13_awake.mono _
  | exact potsherdref12_MayEntries.mono _ _
  | exact potsherdref12_SameEntries.mono _ _ _
  | exact LeO.none _
  | refine LeO.ite ?_ ?_
  | refine LeO.bind ?_ (fun _ => ?_)
set_option maxHeartbeats 8000000 in
set_option maxRecDepth 100000 in
theorem potsherdlaw13_NameBack.calls (k : Nat) (A0 : Option Addr) (c0 : Nat) (l0 : List (S38)) (a1 : ByteArray) (a2 : Int) (w : World) (hr0 : Kd.C k38 w A0 l0.length l0) (hc0 : l0.length ≤ c0) (h : potsherdlaw13_NameBack.f k l0 a1 a2 = some true) :
 Calls Try.prog 5 #[.slice A0 l0.length c0, .string a1, .int .i64 a2] w fun e w' => e = .returned (.bool true) ∧ Below w.heap.size w w' := by
 have hu38 := Try.underlying38; have HR0 := Aside0.mk hr0; have HC0 := Aside0.mk hc0; clear hr0 hc0; have HB := Aside0.mk (Below.refl w.heap.size w); have H : ((potsherdlaw13_Light.f k l0).bind fun t316 => (if t316 > 0 then (potsherdlaw13_NameBack.j0 k l0 a1 a2 true) else (if (a1.size : Int) > 100 then (potsherdlaw13_NameBack.j0 k l0 a1 a2 true) else ((name_May.f k l0).bind fun t317 => (if t317 = true then ((potsherdref12_MayEntries.f k l0).bind fun t318 => (potsherdlaw13_NameBack.j0 k l0 a1 a2 (!t318))) else (potsherdlaw13_NameBack.j0 k l0 a1 a2 true)))))) = some true := h; clear h; have HC4 := Aside0.mk H; clear H
 go_enter Try.func5, Try.ntmps5
 go_upto_region 1 with (fail)
 go_cut [32] (fun v32 wc => ∃ (kq : Nat) (x32_3 : Bool), v32 = .bool x32_3 ∧ Aside0 (potsherdlaw13_NameBack.j0 kq l0 a1 a2 x32_3 = some true) ∧ Aside0 (kq ≤ k) ∧ Aside0 (Below w.heap.size w wc))
 case first =>
  have H := HC4.out; clear HC4; replace H := Option.bind_eq_some_iff.mp H; obtain ⟨t316, A50, H⟩ := H; replace H : (if t316 > 0 then (potsherdlaw13_NameBack.j0 k l0 a1 a2 true) else (if (a1.size : Int) > 100 then (potsherdlaw13_NameBack.j0 k l0 a1 a2 true) else ((name_May.f k l0).bind fun t317 => (if t317 = true then ((potsherdref12_MayEntries.f k l0).bind fun t318 => (potsherdlaw13_NameBack.j0 k l0 a1 a2 (!t318))) else (potsherdlaw13_NameBack.j0 k l0 a1 a2 true))))) = some true := H; have A5 := Aside0.mk A50; clear A50
  by_cases c6 : t316 > 0
  ·
   rw [if_pos c6] at H; have c6b0 : decide (0 < t316) = true := decide_eq_true c6; clear c6
   (first | rw [c6b0] | (simp only [i64_w, i32_w]; rw [c6b0]) | skip)
   have H' := Aside0.mk H; clear H
   go_wp2_with (first | ((with_reducible refine gate_callee (f := 18) rfl ?_); refine goesL_ (some 16) rfl rfl Try.func18 (by kernel_rfl) rfl #[.slice A0 l0.length c0] rfl (by (try simp only [List.map_toArray, List.map_cons, List.map_nil]); first | done | rfl | (simp only [List.length_drop, List.length_take]; rfl)) ?_; (with_reducible refine (potsherdlaw13_Light.calls k _ _ l0 t316 _ ?side1 ?side2 A5.out).mono ?_); (case side1 => repeat (first | exact (Kd.C_below HR0.out HB.out) | (with_reducible refine Kd.C_alloc ?_ _) | (with_reducible refine Kd.C_drewN ?_ _) | (with_reducible refine Kd.C_drew ?_))); (case side2 => exact HC0.out); rintro e w7 ⟨rfl, hb⟩; refine ⟨_, rfl, ?_⟩; have n0_ := Aside0.mk (below_step (by repeat (first | (with_reducible first | exact HB.out | apply wA | apply wN | apply wD) | exact HB.out)) hb); clear HB; have HB := n0_; clear n0_; (try clear hb); (try clear hb2); (try clear hk); (try clear hi)))
   go_meet
   case rel => exact ⟨_, (true), (by first | rfl | (simp; done) | (simp [*]; done)), H', ⟨by first | omega | exact Nat.le_refl _⟩, ⟨by repeat (first | (with_reducible first | exact HB.out | apply wA | apply wN | apply wD) | exact HB.out)⟩⟩
  ·
   rw [if_neg c6] at H; have c6b0 : decide (0 < t316) = false := decide_eq_false c6; clear c6
   (first | rw [c6b0] | (simp only [i64_w, i32_w]; rw [c6b0]) | skip)
   by_cases c8 : (a1.size : Int) > 100
   ·
    rw [if_pos c8] at H; have c8b0 : decide (100 < (a1.size : Int)) = true := decide_eq_true c8; have c8b1 : decide (100 < a1.size) = true := decide_eq_true (by omega); clear c8; have H' := Aside0.mk H; clear H
    go_wp2_with (first | ((with_reducible refine gate_callee (f := 18) rfl ?_); refine goesL_ (some 16) rfl rfl Try.func18 (by kernel_rfl) rfl #[.slice A0 l0.length c0] rfl (by (try simp only [List.map_toArray, List.map_cons, List.map_nil]); first | done | rfl | (simp only [List.length_drop, List.length_take]; rfl)) ?_; (with_reducible refine (potsherdlaw13_Light.calls k _ _ l0 t316 _ ?side1 ?side2 A5.out).mono ?_); (case side1 => repeat (first | exact (Kd.C_below HR0.out HB.out) | (with_reducible refine Kd.C_alloc ?_ _) | (with_reducible refine Kd.C_drewN ?_ _) | (with_reducible refine Kd.C_drew ?_))); (case side2 => exact HC0.out); rintro e w9 ⟨rfl, hb⟩; refine ⟨_, rfl, ?_⟩; have n0_ := Aside0.mk (below_step (by repeat (first | (with_reducible first | exact HB.out | apply wA | apply wN | apply wD) | exact HB.out)) hb); clear HB; have HB := n0_; clear n0_; (try clear hb); (try clear hb2); (try clear hk); (try clear hi)))
    go_meet
    case rel => exact ⟨_, (true), (by first | rfl | (simp; done) | (simp [*]; done)), H', ⟨by first | omega | exact Nat.le_refl _⟩, ⟨by repeat (first | (with_reducible first | exact HB.out | apply wA | apply wN | apply wD) | exact HB.out)⟩⟩
   ·
    rw [if_neg c8] at H; have c8b0 : decide (100 < (a1.size : Int)) = false := decide_eq_false c8; have c8b1 : decide (100 < a1.size) = false := decide_eq_false (by omega); clear c8; replace H := Option.bind_eq_some_iff.mp H; obtain ⟨t317, A100, H⟩ := H; replace H : (if t317 = true then ((potsherdref12_MayEntries.f k l0).bind fun t318 => (potsherdlaw13_NameBack.j0 k l0 a1 a2 (!t318))) else (potsherdlaw13_NameBack.j0 k l0 a1 a2 true)) = some true := H; have A10 := Aside0.mk A100; clear A100
    by_cases c11 : t317 = true
    ·
     subst c11
     have H1 : ((potsherdref12_MayEntries.f k l0).bind fun t318 => (potsherdlaw13_NameBack.j0 k l0 a1 a2 (!t318))) = some true := by rw [if_pos rfl] at H; exact H
     clear H; have H := H1; clear H1; replace H := Option.bind_eq_some_iff.mp H; obtain ⟨t318, A120, H⟩ := H; replace H : (potsherdlaw13_NameBack.j0 k l0 a1 a2 (!t318)) = some true := H; have A12 := Aside0.mk A120; clear A120; have H' := Aside0.mk H; clear H
     go_wp2_with (first | ((with_reducible refine gate_callee (f := 18) rfl ?_); refine goesL_ (some 16) rfl rfl Try.func18 (by kernel_rfl) rfl #[.slice A0 l0.length c0] rfl (by (try simp only [List.map_toArray, List.map_cons, List.map_nil]); first | done | rfl | (simp only [List.length_drop, List.length_take]; rfl)) ?_; (with_reducible refine (potsherdlaw13_Light.calls k _ _ l0 t316 _ ?side1 ?side2 A5.out).mono ?_); (case side1 => repeat (first | exact (Kd.C_below HR0.out HB.out) | (with_reducible refine Kd.C_alloc ?_ _) | (with_reducible refine Kd.C_drewN ?_ _) | (with_reducible refine Kd.C_drew ?_))); (case side2 => exact HC0.out); rintro e w13 ⟨rfl, hb⟩; refine ⟨_, rfl, ?_⟩; have n0_ := Aside0.mk (below_step (by repeat (first | (with_reducible first | exact HB.out | apply wA | apply wN | apply wD) | exact HB.out)) hb); clear HB; have HB := n0_; clear n0_; (try clear hb); (try clear hb2); (try clear hk); (try clear hi)) | (go_at_call 16; (with_reducible refine (name_May.calls k _ _ l0 true _ ?side1 ?side2 A10.out).mono ?_); (case side1 => repeat (first | exact (Kd.C_below HR0.out HB.out) | (with_reducible refine Kd.C_alloc ?_ _) | (with_reducible refine Kd.C_drewN ?_ _) | (with_reducible refine Kd.C_drew ?_))); (case side2 => exact HC0.out); rintro e w14 ⟨rfl, hb⟩; have n0_ := Aside0.mk (below_step (by repeat (first | (with_reducible first | exact HB.out | apply wA | apply wN | apply wD) | exact HB.out)) hb); clear HB; have HB := n0_; clear n0_; (try clear hb); (try clear hb2); (try clear hk); (try clear hi)) | (go_at_call 23; (with_reducible refine (potsherdref12_MayEntries.calls k _ _ l0 t318 _ ?side1 ?side2 A12.out).mono ?_); (case side1 => repeat (first | exact (Kd.C_below HR0.out HB.out) | (with_reducible refine Kd.C_alloc ?_ _) | (with_reducible refine Kd.C_drewN ?_ _) | (with_reducible refine Kd.C_drew ?_))); (case side2 => exact HC0.out); rintro e w15 ⟨rfl, hb⟩; have n0_ := Aside0.mk (below_step (by repeat (first | (with_reducible first | exact HB.out | apply wA | apply wN | apply wD) | exact HB.out)) hb); clear HB; have HB := n0_; clear n0_; (try clear hb); (try clear hb2); (try clear hk); (try clear hi)))
     go_meet
     case rel => exact ⟨_, (!t318), (by first | rfl | (simp; done) | (simp [*]; done)), H', ⟨by first | omega | exact Nat.le_refl _⟩, ⟨by repeat (first | (with_reducible first | exact HB.out | apply wA | apply wN | apply wD) | exact HB.out)⟩⟩
    ·
     replace c11 := Bool.eq_false_iff.mpr c11; subst c11
     have H1 : (potsherdlaw13_NameBack.j0 k l0 a1 a2 true) = some true := by rw [if_neg (show ¬ (false = true) by decide)] at H; exact H
     clear H; have H := H1; clear H1; have H' := Aside0.mk H; clear H
     go_wp2_with (first | ((with_reducible refine gate_callee (f := 18) rfl ?_); refine goesL_ (some 16) rfl rfl Try.func18 (by kernel_rfl) rfl #[.slice A0 l0.length c0] rfl (by (try simp only [List.map_toArray, List.map_cons, List.map_nil]); first | done | rfl | (simp only [List.length_drop, List.length_take]; rfl)) ?_; (with_reducible refine (potsherdlaw13_Light.calls k _ _ l0 t316 _ ?side1 ?side2 A5.out).mono ?_); (case side1 => repeat (first | exact (Kd.C_below HR0.out HB.out) | (with_reducible refine Kd.C_alloc ?_ _) | (with_reducible refine Kd.C_drewN ?_ _) | (with_reducible refine Kd.C_drew ?_))); (case side2 => exact HC0.out); rintro e w16 ⟨rfl, hb⟩; refine ⟨_, rfl, ?_⟩; have n0_ := Aside0.mk (below_step (by repeat (first | (with_reducible first | exact HB.out | apply wA | apply wN | apply wD) | exact HB.out)) hb); clear HB; have HB := n0_; clear n0_; (try clear hb); (try clear hb2); (try clear hk); (try clear hi)) | (go_at_call 16; (with_reducible refine (name_May.calls k _ _ l0 false _ ?side1 ?side2 A10.out).mono ?_); (case side1 => repeat (first | exact (Kd.C_below HR0.out HB.out) | (with_reducible refine Kd.C_alloc ?_ _) | (with_reducible refine Kd.C_drewN ?_ _) | (with_reducible refine Kd.C_drew ?_))); (case side2 => exact HC0.out); rintro e w17 ⟨rfl, hb⟩; have n0_ := Aside0.mk (below_step (by repeat (first | (with_reducible first | exact HB.out | apply wA | apply wN | apply wD) | exact HB.out)) hb); clear HB; have HB := n0_; clear n0_; (try clear hb); (try clear hb2); (try clear hk); (try clear hi)))
     go_meet
     case rel => exact ⟨_, (true), (by first | rfl | (simp; done) | (simp [*]; done)), H', ⟨by first | omega | exact Nat.le_refl _⟩, ⟨by repeat (first | (with_reducible first | exact HB.out | apply wA | apply wN | apply wD) | exact HB.out)⟩⟩
 case rest =>
  clear HC4
  try clear c1
  try clear p2
  try clear c5
  try clear c6
  try clear c6b0
  try clear c8
  try clear c8b0
  try clear c8b1
  try clear c11
  obtain ⟨kq, x32_3, rfl, HA, HJ3, HB⟩ := hcut
  cases kq with
  | zero => exact absurd HA.out (by simp [potsherdlaw13_NameBack.j0])
  | succ kj3 =>
   have H := HA.out; clear HA; simp only [potsherdlaw13_NameBack.j0] at H
   by_cases c18 : x32_3 = true
   ·
    subst c18
    have H1 : ((potsherdlaw13_awake.f kj3).bind fun t319 => (some t319)) = some true := by rw [if_pos rfl] at H; exact H
    clear H; have H := H1; clear H1; replace H := Option.bind_eq_some_iff.mp H; obtain ⟨t319, A190, H⟩ := H; replace H : (some t319) = some true := H; have A19 := Aside0.mk A190; clear A190; have HRET := Aside0.mk (Option.some.inj H); clear H
    go_wp2_with (first | ((with_reducible refine gate_callee (f := 12) rfl ?_); refine goesL_ (some 33) rfl rfl Try.func12 (by kernel_rfl) rfl #[] rfl (by (try simp only [List.map_toArray, List.map_cons, List.map_nil]); first | done | rfl | (simp only [List.length_drop, List.length_take]; rfl)) ?_; (with_reducible refine (potsherdlaw13_awake.calls kj3  t319 _ A19.out).mono ?_); rintro e w20 ⟨rfl, hb⟩; refine ⟨_, rfl, ?_⟩; have n0_ := Aside0.mk (below_step (by repeat (first | (with_reducible first | exact HB.out | apply wA | apply wN | apply wD) | exact HB.out)) hb); clear HB; have HB := n0_; clear n0_; (try clear hb); (try clear hb2); (try clear hk); (try clear hi)))
    go_ret
    exact ⟨by first | rfl | exact congrArg (fun b_ => Ending.returned (Value.bool b_)) HRET.out | (rw [HRET.out]) | (simp [errW_none, errW_some] <;> rfl) | (simp [*, errW_none, errW_some] <;> rfl), by repeat (first | (with_reducible first | exact HB.out | apply wA | apply wN | apply wD) | exact HB.out)⟩
   ·
    replace c18 := Bool.eq_false_iff.mpr c18; subst c18
    have H1 : ((name_With.f kj3 l0 a1 a2).bind fun bt320 => (if bt320.2 = 0 then ((name_With.f kj3 bt320.1 a1 1).bind fun bt329 => ((name_Without.f kj3 bt320.1 a1).bind fun bt333 => (if bt329.2 = 9 then (if bt333.2 = 0 then ((potsherdref12_SameEntries.f kj3 bt333.1 l0).bind fun t337 => (if t337 = true then ((name_May.f kj3 bt320.1).bind fun t338 => (if t338 = true then (if (bt320.1.length : Int) = (wrap64 ((l0.length : Int) + 1)) then ((name_Find.f bt320.1 a1).bind fun t339 => (potsherdlaw13_NameBack.j1 kj3 l0 bt320.1 (t339 != a2))) else (potsherdlaw13_NameBack.j1 kj3 l0 bt320.1 true)) else (potsherdlaw13_NameBack.j1 kj3 l0 bt320.1 true))) else (potsherdlaw13_NameBack.j1 kj3 l0 bt320.1 true))) else (potsherdlaw13_NameBack.j1 kj3 l0 bt320.1 true)) else (potsherdlaw13_NameBack.j1 kj3 l0 bt320.1 true)))) else (if (bt320.1.length : Int) = 0 then (if bt320.2 = 1 then ((potsherdlaw13_awake.f kj3).bind fun t324 => (some t324)) else (if bt320.2 = 9 then ((name_Find.f l0 a1).bind fun t325 => (if t325 ≥ 0 then ((potsherdlaw13_awake.f kj3).bind fun t326 => (some t326)) else (if bt320.2 = 14 then (if (l0.length : Int) = 10 then ((potsherdlaw13_awake.f kj3).bind fun t327 => (some t327)) else (some false)) else (some false)))) else (if bt320.2 = 14 then (if (l0.length : Int) = 10 then ((potsherdlaw13_awake.f kj3).bind fun t328 => (some t328)) else (some false)) else (some false)))) else (some false)))) = some true := by rw [if_neg (show ¬ (false = true) by decide)] at H; exact H
    clear H; have H := H1; clear H1; replace H := Option.bind_eq_some_iff.mp H; obtain ⟨⟨t320, t323⟩, A210, H⟩ := H; replace H : (if t323 = 0 then ((name_With.f kj3 t320 a1 1).bind fun bt329 => ((name_Without.f kj3 t320 a1).bind fun bt333 => (if bt329.2 = 9 then (if bt333.2 = 0 then ((potsherdref12_SameEntries.f kj3 bt333.1 l0).bind fun t337 => (if t337 = true then ((name_May.f kj3 t320).bind fun t338 => (if t338 = true then (if (t320.length : Int) = (wrap64 ((l0.length : Int) + 1)) then ((name_Find.f t320 a1).bind fun t339 => (potsherdlaw13_NameBack.j1 kj3 l0 t320 (t339 != a2))) else (potsherdlaw13_NameBack.j1 kj3 l0 t320 true)) else (potsherdlaw13_NameBack.j1 kj3 l0 t320 true))) else (potsherdlaw13_NameBack.j1 kj3 l0 t320 true))) else (potsherdlaw13_NameBack.j1 kj3 l0 t320 true)) else (potsherdlaw13_NameBack.j1 kj3 l0 t320 true)))) else (if (t320.length : Int) = 0 then (if t323 = 1 then ((potsherdlaw13_awake.f kj3).bind fun t324 => (some t324)) else (if t323 = 9 then ((name_Find.f l0 a1).bind fun t325 => (if t325 ≥ 0 then ((potsherdlaw13_awake.f kj3).bind fun t326 => (some t326)) else (if t323 = 14 then (if (l0.length : Int) = 10 then ((potsherdlaw13_awake.f kj3).bind fun t327 => (some t327)) else (some false)) else (some false)))) else (if t323 = 14 then (if (l0.length : Int) = 10 then ((potsherdlaw13_awake.f kj3).bind fun t328 => (some t328)) else (some false)) else (some false)))) else (some false))) = some true := H; have A21 := Aside0.mk A210; clear A210
    by_cases c22 : t323 = 0
    ·
     rw [if_pos c22] at H; have c22b0 : (t323 == 0) = true := beq_iff_eq.mpr c22; have c22b1 : (t323 != 0) = false := bne_eq_false_iff_eq.mpr c22; clear c22; replace H := Option.bind_eq_some_iff.mp H; obtain ⟨⟨t329, t332⟩, A230, H⟩ := H; replace H : ((name_Without.f kj3 t320 a1).bind fun bt333 => (if t332 = 9 then (if bt333.2 = 0 then ((potsherdref12_SameEntries.f kj3 bt333.1 l0).bind fun t337 => (if t337 = true then ((name_May.f kj3 t320).bind fun t338 => (if t338 = true then (if (t320.length : Int) = (wrap64 ((l0.length : Int) + 1)) then ((name_Find.f t320 a1).bind fun t339 => (potsherdlaw13_NameBack.j1 kj3 l0 t320 (t339 != a2))) else (potsherdlaw13_NameBack.j1 kj3 l0 t320 true)) else (potsherdlaw13_NameBack.j1 kj3 l0 t320 true))) else (potsherdlaw13_NameBack.j1 kj3 l0 t320 true))) else (potsherdlaw13_NameBack.j1 kj3 l0 t320 true)) else (potsherdlaw13_NameBack.j1 kj3 l0 t320 true))) = some true := H; have A23 := Aside0.mk A230; clear A230; replace H := Option.bind_eq_some_iff.mp H; obtain ⟨⟨t333, t336⟩, A240, H⟩ := H; replace H : (if t332 = 9 then (if t336 = 0 then ((potsherdref12_SameEntries.f kj3 t333 l0).bind fun t337 => (if t337 = true then ((name_May.f kj3 t320).bind fun t338 => (if t338 = true then (if (t320.length : Int) = (wrap64 ((l0.length : Int) + 1)) then ((name_Find.f t320 a1).bind fun t339 => (potsherdlaw13_NameBack.j1 kj3 l0 t320 (t339 != a2))) else (potsherdlaw13_NameBack.j1 kj3 l0 t320 true)) else (potsherdlaw13_NameBack.j1 kj3 l0 t320 true))) else (potsherdlaw13_NameBack.j1 kj3 l0 t320 true))) else (potsherdlaw13_NameBack.j1 kj3 l0 t320 true)) else (potsherdlaw13_NameBack.j1 kj3 l0 t320 true)) = some true := H; have A24 := Aside0.mk A240; clear A240; have HC25 := Aside0.mk H; clear H
     go_upto_region 8 with (first | ((with_reducible refine gate_callee (f := 14) rfl ?_); refine goesL_ (some 38) rfl rfl Try.func14 (by kernel_rfl) rfl #[.slice A0 l0.length c0, .string a1, .int .i64 a2] rfl (by (try simp only [List.map_toArray, List.map_cons, List.map_nil]); first | done | rfl | (simp only [List.length_drop, List.length_take]; rfl)) ?_; (with_reducible refine (name_With.calls kj3 (fun k_ => k_ < w.heap.size) _ _ l0 a1 a2 t320 t323 _ ?side1 A21.out).mono ?_); (case side1 => exact Kd.V_mk HC0.out (Kd.F_below (Kd.C_F k38_heap HR0.out) (by repeat (first | (with_reducible first | exact HB.out | apply wA | apply wN | apply wD) | exact HB.out)))); rintro e w26 ⟨v321, rfl, ho0, hb⟩; refine ⟨_, rfl, ?_⟩; have n0_ := Aside0.mk (Kd.R_lower (Kd.R_mono (ok' := fun k_ => True) ho0 (fun _ hk_ => trivial)) (below_size (by repeat (first | (with_reducible first | exact HB.out | apply wA | apply wN | apply wD) | exact HB.out)))); have n1_ := Aside0.mk (below_step (by repeat (first | (with_reducible first | exact HB.out | apply wA | apply wN | apply wD) | exact HB.out)) hb); clear HB; have HO322 := n0_; have HB := n1_; clear n0_ n1_; (try clear hb); (try clear hb2); (try clear hk); (try clear hi); (try clear ho0); obtain ⟨Ao27, co27, eo27⟩ := Kd.R_slice HO322.out; subst eo27) | ((with_reducible refine gate_callee (f := 14) rfl ?_); refine goesL_ (some 75) rfl rfl Try.func14 (by kernel_rfl) rfl #[.slice Ao27 t320.length co27, .string a1, .int .i64 1] rfl (by (try simp only [List.map_toArray, List.map_cons, List.map_nil]); first | done | rfl | (simp only [List.length_drop, List.length_take]; rfl)) ?_; (with_reducible refine (name_With.calls kj3 (fun k_ => some k_ = (.slice Ao27 t320.length co27 : Value).ownBlock) _ _ t320 a1 1 t329 t332 _ ?side1 A23.out).mono ?_); (case side1 => exact Kd.R_V (Kd.R_tight rfl (HO322.out))); rintro e w28 ⟨v330, rfl, ho0, hb⟩; refine ⟨_, rfl, ?_⟩; have n0_ := Aside0.mk (Kd.R_elder' (by (with_reducible repeat (first | apply Kd.R_alloc | apply Kd.R_drewN | apply Kd.R_drew)); exact HO322.out) (Kd.R_base ho0) hb); have n1_ := Aside0.mk (Kd.R_lower (Kd.R_new' (Kd.R_mono (ok' := fun k_ => True) ho0 (fun _ hk_ => trivial)) (Kd.R_lt (by (with_reducible repeat (first | apply Kd.R_alloc | apply Kd.R_drewN | apply Kd.R_drew)); exact HO322.out))) (below_size (by repeat (first | (with_reducible first | exact HB.out | apply wA | apply wN | apply wD) | exact HB.out)))); have n2_ := Aside0.mk (below_step (by repeat (first | (with_reducible first | exact HB.out | apply wA | apply wN | apply wD) | exact HB.out)) hb); clear HO322; clear HB; have HO322 := n0_; have HO331 := n1_; have HB := n2_; clear n0_ n1_ n2_; (try clear hb); (try clear hb2); (try clear hk); (try clear hi); (try clear ho0)) | ((with_reducible refine gate_callee (f := 20) rfl ?_); refine goesL_ (some 81) rfl rfl Try.func20 (by kernel_rfl) rfl #[.slice Ao27 t320.length co27, .string a1] rfl (by (try simp only [List.map_toArray, List.map_cons, List.map_nil]); first | done | rfl | (simp only [List.length_drop, List.length_take]; rfl)) ?_; (with_reducible refine (name_Without.calls kj3 (fun k_ => some k_ = (.slice Ao27 t320.length co27 : Value).ownBlock) _ _ t320 a1 t333 t336 _ ?side1 A24.out).mono ?_); (case side1 => exact Kd.R_V (Kd.R_tight rfl (HO322.out))); rintro e w29 ⟨v334, rfl, ho0, hb⟩; refine ⟨_, rfl, ?_⟩; have n0_ := Aside0.mk (Kd.R_elder' (by (with_reducible repeat (first | apply Kd.R_alloc | apply Kd.R_drewN | apply Kd.R_drew)); exact HO322.out) (Kd.R_base ho0) hb); have n1_ := Aside0.mk (Kd.R_elder' (by (with_reducible repeat (first | apply Kd.R_alloc | apply Kd.R_drewN | apply Kd.R_drew)); exact HO331.out) (Kd.R_base ho0) hb); have n2_ := Aside0.mk (Kd.R_lower (Kd.R_new' (Kd.R_new' (Kd.R_mono (ok' := fun k_ => True) ho0 (fun _ hk_ => trivial)) (Kd.R_lt (by (with_reducible repeat (first | apply Kd.R_alloc | apply Kd.R_drewN | apply Kd.R_drew)); exact HO322.out))) (Kd.R_lt (by (with_reducible repeat (first | apply Kd.R_alloc | apply Kd.R_drewN | apply Kd.R_drew)); exact HO331.out))) (below_size (by repeat (first | (with_reducible first | exact HB.out | apply wA | apply wN | apply wD) | exact HB.out)))); have n3_ := Aside0.mk (below_step (by repeat (first | (with_reducible first | exact HB.out | apply wA | apply wN | apply wD) | exact HB.out)) hb); clear HO322; clear HO331; clear HB; have HO322 := n0_; have HO331 := n1_; have HO335 := n2_; have HB := n3_; clear n0_ n1_ n2_ n3_; (try clear hb); (try clear hb2); (try clear hk); (try clear hi); (try clear ho0)))
     (try simp only [Act.put, lT, l0_, lS])
     go_cut [115] (fun v115 wc => ∃ (kq : Nat) (x115_24 : Bool), v115 = .bool x115_24 ∧ Aside0 (potsherdlaw13_NameBack.j1 kq l0 t320 x115_24 = some true) ∧ Aside0 (kq ≤ kj3) ∧ Aside0 (Kd.R k38 38 wc w.heap.size (fun _ => True) (.slice Ao27 t320.length co27) t320) ∧ Aside0 (Below w.heap.size w wc))
     case first =>
      have H := HC25.out; clear HC25
      by_cases c30 : t332 = 9
      ·
       rw [if_pos c30] at H; have c30b0 : (t332 == 9) = true := beq_iff_eq.mpr c30; have c30b1 : (t332 != 9) = false := bne_eq_false_iff_eq.mpr c30; clear c30
       (first | rw [c30b0] | (simp only [i64_w, i32_w]; rw [c30b0]) | skip)
       by_cases c31 : t336 = 0
       ·
        rw [if_pos c31] at H; have c31b0 : (t336 == 0) = true := beq_iff_eq.mpr c31; have c31b1 : (t336 != 0) = false := bne_eq_false_iff_eq.mpr c31; clear c31; replace H := Option.bind_eq_some_iff.mp H; obtain ⟨t337, A320, H⟩ := H; replace H : (if t337 = true then ((name_May.f kj3 t320).bind fun t338 => (if t338 = true then (if (t320.length : Int) = (wrap64 ((l0.length : Int) + 1)) then ((name_Find.f t320 a1).bind fun t339 => (potsherdlaw13_NameBack.j1 kj3 l0 t320 (t339 != a2))) else (potsherdlaw13_NameBack.j1 kj3 l0 t320 true)) else (potsherdlaw13_NameBack.j1 kj3 l0 t320 true))) else (potsherdlaw13_NameBack.j1 kj3 l0 t320 true)) = some true := H; have A32 := Aside0.mk A320; clear A320
        by_cases c33 : t337 = true
        ·
         subst c33
         have H1 : ((name_May.f kj3 t320).bind fun t338 => (if t338 = true then (if (t320.length : Int) = (wrap64 ((l0.length : Int) + 1)) then ((name_Find.f t320 a1).bind fun t339 => (potsherdlaw13_NameBack.j1 kj3 l0 t320 (t339 != a2))) else (potsherdlaw13_NameBack.j1 kj3 l0 t320 true)) else (potsherdlaw13_NameBack.j1 kj3 l0 t320 true))) = some true := by rw [if_pos rfl] at H; exact H
         clear H; have H := H1; clear H1; replace H := Option.bind_eq_some_iff.mp H; obtain ⟨t338, A340, H⟩ := H; replace H : (if t338 = true then (if (t320.length : Int) = (wrap64 ((l0.length : Int) + 1)) then ((name_Find.f t320 a1).bind fun t339 => (potsherdlaw13_NameBack.j1 kj3 l0 t320 (t339 != a2))) else (potsherdlaw13_NameBack.j1 kj3 l0 t320 true)) else (potsherdlaw13_NameBack.j1 kj3 l0 t320 true)) = some true := H; have A34 := Aside0.mk A340; clear A340
         by_cases c35 : t338 = true
         ·
          subst c35
          have H1 : (if (t320.length : Int) = (wrap64 ((l0.length : Int) + 1)) then ((name_Find.f t320 a1).bind fun t339 => (potsherdlaw13_NameBack.j1 kj3 l0 t320 (t339 != a2))) else (potsherdlaw13_NameBack.j1 kj3 l0 t320 true)) = some true := by rw [if_pos rfl] at H; exact H
          clear H; have H := H1; clear H1
          by_cases c36 : (t320.length : Int) = (wrap64 ((l0.length : Int) + 1))
          ·
           rw [if_pos c36] at H; have c36b0 : ((t320.length : Int) == (wrap64 ((l0.length : Int) + 1))) = true := beq_iff_eq.mpr c36; have c36b1 : ((t320.length : Int) != (wrap64 ((l0.length : Int) + 1))) = false := bne_eq_false_iff_eq.mpr c36; clear c36; replace H := Option.bind_eq_some_iff.mp H; obtain ⟨t339, A370, H⟩ := H; replace H : (potsherdlaw13_NameBack.j1 kj3 l0 t320 (t339 != a2)) = some true := H; have A37 := Aside0.mk A370; clear A370; have H' := Aside0.mk H; clear H; obtain ⟨Ao38, co38, eo38⟩ := Kd.R_slice HO335.out; subst eo38
           go_wp2_with (first | (go_at_call 15; (with_reducible refine (potsherdref12_SameEntries.calls kj3 _ _ t333 _ _ l0 true _ ?side1 ?side2 ?side3 ?side4 A32.out).mono ?_); (case side1 => repeat (first | exact (Kd.R_reads' HO335.out).2.2 | (with_reducible refine Kd.C_alloc ?_ _) | (with_reducible refine Kd.C_drewN ?_ _) | (with_reducible refine Kd.C_drew ?_))); (case side2 => exact (Kd.R_reads' HO335.out).2.1); (case side3 => repeat (first | exact (Kd.C_below HR0.out HB.out) | (with_reducible refine Kd.C_alloc ?_ _) | (with_reducible refine Kd.C_drewN ?_ _) | (with_reducible refine Kd.C_drew ?_))); (case side4 => exact HC0.out); rintro e w' ⟨rfl, ⟨nd, rfl⟩⟩) | (go_at_call 16; (with_reducible refine (name_May.calls kj3 _ _ t320 true _ ?side1 ?side2 A34.out).mono ?_); (case side1 => repeat (first | exact (Kd.R_reads' HO322.out).2.2 | (with_reducible refine Kd.C_alloc ?_ _) | (with_reducible refine Kd.C_drewN ?_ _) | (with_reducible refine Kd.C_drew ?_))); (case side2 => exact (Kd.R_reads' HO322.out).2.1); rintro e w39 ⟨rfl, hb⟩; have n0_ := Aside0.mk (Kd.R_below (by (with_reducible repeat (first | apply Kd.R_alloc | apply Kd.R_drewN | apply Kd.R_drew)); exact HO322.out) hb); have n1_ := Aside0.mk (Kd.R_below (by (with_reducible repeat (first | apply Kd.R_alloc | apply Kd.R_drewN | apply Kd.R_drew)); exact HO331.out) hb); have n2_ := Aside0.mk (Kd.R_below (by (with_reducible repeat (first | apply Kd.R_alloc | apply Kd.R_drewN | apply Kd.R_drew)); exact HO335.out) hb); have n3_ := Aside0.mk (below_step (by repeat (first | (with_reducible first | exact HB.out | apply wA | apply wN | apply wD) | exact HB.out)) hb); clear HO322; clear HO331; clear HO335; clear HB; have HO322 := n0_; have HO331 := n1_; have HO335 := n2_; have HB := n3_; clear n0_ n1_ n2_ n3_; (try clear hb); (try clear hb2); (try clear hk); (try clear hi)) | (go_at_call 17; (with_reducible refine (name_Find.calls _ _ t320 a1 t339 _ ?side1 ?side2 A37.out).mono ?_); (case side1 => repeat (first | exact (Kd.R_reads' HO322.out).2.2 | (with_reducible refine Kd.C_alloc ?_ _) | (with_reducible refine Kd.C_drewN ?_ _) | (with_reducible refine Kd.C_drew ?_))); (case side2 => exact (Kd.R_reads' HO322.out).2.1); rintro e w40 ⟨rfl, hb⟩; have n0_ := Aside0.mk (Kd.R_below (by (with_reducible repeat (first | apply Kd.R_alloc | apply Kd.R_drewN | apply Kd.R_drew)); exact HO322.out) hb); have n1_ := Aside0.mk (Kd.R_below (by (with_reducible repeat (first | apply Kd.R_alloc | apply Kd.R_drewN | apply Kd.R_drew)); exact HO331.out) hb); have n2_ := Aside0.mk (Kd.R_below (by (with_reducible repeat (first | apply Kd.R_alloc | apply Kd.R_drewN | apply Kd.R_drew)); exact HO335.out) hb); have n3_ := Aside0.mk (below_step (by repeat (first | (with_reducible first | exact HB.out | apply wA | apply wN | apply wD) | exact HB.out)) hb); clear HO322; clear HO331; clear HO335; clear HB; have HO322 := n0_; have HO331 := n1_; have HO335 := n2_; have HB := n3_; clear n0_ n1_ n2_ n3_; (try clear hb); (try clear hb2); (try clear hk); (try clear hi)))
           go_meet
           case rel => exact ⟨_, ((t339 != a2)), (by first | rfl | (simp; done) | (simp [*]; done)), H', ⟨by have := HJ3.out; first | omega | exact Nat.le_refl _⟩, ⟨by (with_reducible repeat (first | apply Kd.R_alloc | apply Kd.R_drewN | apply Kd.R_drew)); exact Kd.R_mono HO322.out (fun _ hk => trivial)⟩, ⟨by repeat (first | (with_reducible first | exact HB.out | apply wA | apply wN | apply wD) | exact HB.out)⟩⟩
          ·
           rw [if_neg c36] at H; have c36b0 : ((t320.length : Int) == (wrap64 ((l0.length : Int) + 1))) = false := beq_eq_false_iff_ne.mpr c36; have c36b1 : ((t320.length : Int) != (wrap64 ((l0.length : Int) + 1))) = true := bne_iff_ne.mpr c36; exact absurd H (by cases kj3 <;> simp [potsherdlaw13_NameBack.j1])
         ·
          replace c35 := Bool.eq_false_iff.mpr c35; subst c35
          have H1 : (potsherdlaw13_NameBack.j1 kj3 l0 t320 true) = some true := by rw [if_neg (show ¬ (false = true) by decide)] at H; exact H
          clear H; have H := H1; clear H1; exact absurd H (by cases kj3 <;> simp [potsherdlaw13_NameBack.j1])
        ·
         replace c33 := Bool.eq_false_iff.mpr c33; subst c33
         have H1 : (potsherdlaw13_NameBack.j1 kj3 l0 t320 true) = some true := by rw [if_neg (show ¬ (false = true) by decide)] at H; exact H
         clear H; have H := H1; clear H1; exact absurd H (by cases kj3 <;> simp [potsherdlaw13_NameBack.j1])
       ·
        rw [if_neg c31] at H; have c31b0 : (t336 == 0) = false := beq_eq_false_iff_ne.mpr c31; have c31b1 : (t336 != 0) = true := bne_iff_ne.mpr c31; exact absurd H (by cases kj3 <;> simp [potsherdlaw13_NameBack.j1])
      ·
       rw [if_neg c30] at H; have c30b0 : (t332 == 9) = false := beq_eq_false_iff_ne.mpr c30; have c30b1 : (t332 != 9) = true := bne_iff_ne.mpr c30
       (first | rw [c30b0] | (simp only [i64_w, i32_w]; rw [c30b0]) | skip)
       exact absurd H (by cases kj3 <;> simp [potsherdlaw13_NameBack.j1])
     case rest =>
      clear HC25
      try clear c1
      try clear c2
      try clear p2
      try clear c3
      try clear c5
      try clear c6
      try clear c6b0
      try clear p6
      try clear c8
      try clear c8b0
      try clear c8b1
      try clear c11
      try clear c12
      try clear c14
      try clear c18
      try clear c20
      try clear c22
      try clear c22b0
      try clear c22b1
      try clear c30
      try clear c30b0
      try clear c30b1
      try clear c31
      try clear c31b0
      try clear c31b1
      try clear c33
      try clear c35
      try clear c36
      try clear c36b0
      try clear c36b1
      try clear p2
      obtain ⟨kq, x115_24, rfl, HA, HJ24, HO_7, HB⟩ := hcut
      cases kq with
      | zero => exact absurd HA.out (by simp [potsherdlaw13_NameBack.j1])
      | succ kj24 =>
       have H := HA.out; clear HA; simp only [potsherdlaw13_NameBack.j1] at H
       by_cases c41 : x115_24 = true
       ·
        subst c41
        have H1 : (some false) = some true := by rw [if_pos rfl] at H; exact H
        clear H; have H := H1; clear H1; exact absurd H (by simp)
       ·
        replace c41 := Bool.eq_false_iff.mpr c41; subst c41
        have H1 : (potsherdlaw13_NameBack.l0 kj24 t320 l0 (l0.length : Int) 0) = some true := by rw [if_neg (show ¬ (false = true) by decide)] at H; exact H
        clear H; have H := H1; clear H1; have H' := Aside0.mk H; clear H
        go_wp2
        go_loopg [118] kj24 (fun kq v118 w' => ∃ (x118_3 : Int), v118 = .int .i64 x118_3 ∧ Aside0 (potsherdlaw13_NameBack.l0 kq t320 l0 (l0.length : Int) x118_3 = some true) ∧ Aside0 (kq ≤ kj24) ∧ Aside0 (Kd.R k38 38 w' w.heap.size (fun _ => True) (.slice Ao27 t320.length co27) t320) ∧ Aside0 (Below w.heap.size w w'))
        case atStart => exact ⟨(0), (by first | rfl | (simp; done) | (simp [*]; done)), H', ⟨Nat.le_refl _⟩, ⟨by (with_reducible repeat (first | apply Kd.R_alloc | apply Kd.R_drewN | apply Kd.R_drew)); exact HO_7.out⟩, ⟨by repeat (first | (with_reducible first | exact HB.out | apply wA | apply wN | apply wD) | exact HB.out)⟩⟩
        case round =>
         clear H'
         try clear c1
         try clear c2
         try clear p2
         try clear c3
         try clear c4
         try clear c5
         try clear c6
         try clear c6b0
         try clear p6
         try clear c8
         try clear c8b0
         try clear c8b1
         try clear c11
         try clear c12
         try clear c14
         try clear c18
         try clear c20
         try clear c22
         try clear c22b0
         try clear c22b1
         try clear c30
         try clear c30b0
         try clear c30b1
         try clear c31
         try clear c31b0
         try clear c31b1
         try clear c33
         try clear c35
         try clear c36
         try clear c36b0
         try clear c36b1
         try clear c41
         try clear p2
         try clear p6
         obtain ⟨x118_3, rfl, HA, HK3, HO_7, HB⟩ := hrel
         cases gk with
         | zero => exact absurd HA.out (by simp [potsherdlaw13_NameBack.l0])
         | succ k3 =>
          have H := HA.out; clear HA; simp only [potsherdlaw13_NameBack.l0] at H
          by_cases c42 : x118_3 < (l0.length : Int)
          ·
           rw [if_pos c42] at H; have c42b0 : decide (x118_3 < (l0.length : Int)) = true := decide_eq_true c42; clear c42
           by_cases c43 : 0 ≤ x118_3
           ·
            rw [if_pos c43] at H; have c43b0 : decide (0 ≤ x118_3) = true := decide_eq_true c43; clear c43
            by_cases c44 : x118_3 < (l0.length : Int)
            ·
             rw [if_pos c44] at H; have c44b0 : decide (x118_3 < (l0.length : Int)) = true := decide_eq_true c44; clear c44; replace H := Option.bind_eq_some_iff.mp H; obtain ⟨t342, A450, H⟩ := H; replace H : (if t342 = ((rd_T38 l0 x118_3).f1) then (potsherdlaw13_NameBack.l0 k3 t320 l0 (l0.length : Int) (wrap64 (x118_3 + 1))) else (some false)) = some true := H; have A45 := Aside0.mk A450; clear A450
             by_cases c46 : t342 = ((rd_T38 l0 x118_3).f1)
             ·
              rw [if_pos c46] at H; have c46b0 : (t342 == ((rd_T38 l0 x118_3).f1)) = true := beq_iff_eq.mpr c46; have c46b1 : (t342 != ((rd_T38 l0 x118_3).f1)) = false := bne_eq_false_iff_eq.mpr c46; clear c46; have H' := Aside0.mk H; clear H; have p340 : 0 ≤ (x118_3 : Int) := of_decide_eq_true (by first | (with_reducible assumption) | assumption); have q340 : x118_3 < (l0.length : Int) := of_decide_eq_true (by first | (with_reducible assumption) | assumption); obtain ⟨ad340, e340, hx340_0, hx340_1⟩ := at_T38 HR0.out x118_3 p340 q340
              cases e340
              replace hx340_0 := (HB.out.cell (World.block_lt_of_cell? w _ hx340_0)).trans hx340_0; replace hx340_1 := (HB.out.cell (World.block_lt_of_cell? w _ hx340_1)).trans hx340_1; replace p340 := eq_true p340; replace q340 := eq_true q340
              try go_wp2_with (first | ((with_reducible refine gate_dst (N := 14) rfl ?_); (try (refine gate_guard (by rfl) ?_; dsimp only)); refine box_event ?hg (N := 14) ?hd (cs := #[.string (⟨#[]⟩ : ByteArray), .int .i64 0]) (t := 38) ?hr ?_; (case hd => rfl); (case hg => rfl); (case hr => first | (go_simp; done) | (go_simp; rfl)); intro gb341 hg w47 hbox hb; have n0_ := Aside0.mk (Kd.R_below (Kd.R_elderB (by (with_reducible repeat (first | apply Kd.R_alloc | apply Kd.R_drewN | apply Kd.R_drew)); exact HO_7.out) gb341 (Nat.le_of_eq hg.symm)) hb); have n1_ := Aside0.mk (below_step (by repeat (first | (with_reducible first | exact HB.out | apply wA | apply wN | apply wD) | exact HB.out)) hb); have n2_ := Aside0.mk (hbox); have n3_ := Aside0.mk ((by rw [hg]; exact (below_size (by repeat (first | (with_reducible first | exact HB.out | apply wA | apply wN | apply wD) | exact HB.out))) : w.heap.size ≤ gb341)); have n4_ := Aside0.mk ((by rw [hg]; exact (below_size (by repeat (first | (with_reducible first | exact HB.out | apply wA | apply wN | apply wD) | exact HB.out))) : w.heap.size ≤ gb341)); clear HO_7; clear HB; have HO_7 := n0_; have HB := n1_; have BK341 := n2_; have GW341 := n3_; have GE341 := n4_; clear n0_ n1_ n2_ n3_ n4_; clear hb hbox hg; have hcz48_0 : w47.cell? ⟨gb341, 0, none⟩ = some (.string (⟨#[]⟩ : ByteArray)) := (bC BK341.out 0).trans rfl; have hcz48_1 : w47.cell? ⟨gb341, 1, none⟩ = some (.int .i64 0) := (bC BK341.out 1).trans rfl; have hfz48_0 := bZ BK341.out 0; have hfz48_1 := bZ BK341.out 1))
              have n0_ : Aside0 (Kd.R k38 38 ((w47.setCell ⟨gb341, 0, none⟩ (.string ((rd_T38 l0 x118_3).f0))).setCell ⟨gb341, 1, none⟩ (.int .i64 ((rd_T38 l0 x118_3).f1))) w.heap.size (fun k_ => k_ ≠ gb341) (.slice Ao27 t320.length co27) t320) := ⟨by (with_reducible repeat (first | apply Kd.R_alloc | apply Kd.R_drewN | apply Kd.R_drew)); exact Kd.R_mono (Kd.R_far (p := ⟨gb341, 1, none⟩) (Kd.R_far (p := ⟨gb341, 0, none⟩) (Kd.R_mono HO_7.out (fun k_ hk => (⟨hk, hk.2⟩ : _ ∧ k_ ≠ gb341))) (fun _ hk => hk.2) (.string ((rd_T38 l0 x118_3).f0))) (fun _ hk => hk.2) (.int .i64 ((rd_T38 l0 x118_3).f1))) (fun _ hk => hk.1.2)⟩
              have n1_ : Aside0 (((w47.setCell ⟨gb341, 0, none⟩ (.string ((rd_T38 l0 x118_3).f0))).setCell ⟨gb341, 1, none⟩ (.int .i64 ((rd_T38 l0 x118_3).f1))).heap[gb341]? = some (.cells #[.string ((rd_T38 l0 x118_3).f0), .int .i64 ((rd_T38 l0 x118_3).f1)] 38 (0, 0))) := ⟨by (with_reducible repeat (first | refine bN ?_ _ | refine bD ?_ | refine bA ?_ _)); refine blk_put (cs := #[.string ((rd_T38 l0 x118_3).f0), .int .i64 0]) ?_ 1 _ rfl; (with_reducible repeat (first | refine bN ?_ _ | refine bD ?_ | refine bA ?_ _)); refine blk_put (cs := #[.string (⟨#[]⟩ : ByteArray), .int .i64 0]) ?_ 0 _ rfl; (with_reducible repeat (first | refine bN ?_ _ | refine bD ?_ | refine bA ?_ _)); exact BK341.out⟩
              have n2_ : Aside0 (Below w.heap.size w ((w47.setCell ⟨gb341, 0, none⟩ (.string ((rd_T38 l0 x118_3).f0))).setCell ⟨gb341, 1, none⟩ (.int .i64 ((rd_T38 l0 x118_3).f1)))) := ⟨by repeat (first | (with_reducible first | exact HB.out | apply wA | apply wN | apply wD | refine wS ?_ GE341.out) | exact HB.out)⟩
              (try clear HO_7)
              (try clear BK341)
              (try clear HB)
              generalize ((w47.setCell ⟨gb341, 0, none⟩ (.string ((rd_T38 l0 x118_3).f0))).setCell ⟨gb341, 1, none⟩ (.int .i64 ((rd_T38 l0 x118_3).f1))) = w49 at n0_ n1_ n2_ ⊢; have HO_7 := n0_; have BK341 := n1_; have HB := n2_; clear n0_ n1_ n2_; have n0_ := Aside0.mk (Kd.R_drew HO_7.out); have n1_ := Aside0.mk (bD BK341.out); have n2_ := Aside0.mk (wD HB.out); clear HO_7; clear BK341; clear HB; have HO_7 := n0_; have BK341 := n1_; have HB := n2_; clear n0_ n1_ n2_; refine start_ (n := 7) (S := fun w' => w'.cell? ⟨gb341, 0, none⟩ = some (.string ((rd_T38 l0 x118_3).f0)) ∧ w'.cell? ⟨gb341, 1, none⟩ = some (.int .i64 ((rd_T38 l0 x118_3).f1))) (ds := []) B16_0 (by kernel_rfl) rfl rfl ⟨(bC BK341.out 0).trans rfl, (bC BK341.out 1).trans rfl⟩ (fun hHeld => ?_); generalize w49.drew = w50 at HO_7 BK341 HB hHeld ⊢; refine pure_ (i := 0) (N := some 122) (v := ?_) (a' := ?_) B16_1 rfl rfl (by kernel_rfl) (fun _ _ _ h => h) (Or.inl ⟨by rfl, ?_⟩) ?_ ?_; rotate_left
              ·
               intro w'; go_simp; with_reducible rfl
              rotate_left
              ·
               simp only [Act.put, lT, l0_, lS, i64_w, i32_w]; rfl
              refine pure_ (i := 1) (N := some 123) (v := ?_) (a' := ?_) B16_2 rfl rfl (by kernel_rfl) (fun _ _ _ h => h) (Or.inl ⟨by rfl, ?_⟩) ?_ ?_; rotate_left
              ·
               intro w'; go_simp; with_reducible rfl
              rotate_left
              ·
               simp only [Act.put, lT, l0_, lS, i64_w, i32_w]; rfl
              refine pure_ (i := 4) (N := some 126) (v := ?_) (a' := ?_) B16_3 rfl rfl (by kernel_rfl) (fun _ _ _ h => h) (Or.inl ⟨by rfl, ?_⟩) ?_ ?_; rotate_left
              ·
               intro w'; go_simp; with_reducible rfl
              rotate_left
              ·
               simp only [Act.put, lT, l0_, lS, i64_w, i32_w]; rfl
              refine take_ (i := 2) (N := some 124) (v := ?_) (a' := ?_) B16_4 rfl rfl (by kernel_rfl) (fun _ _ _ h => h) (Or.inl ⟨by rfl, ?_⟩) hHeld ?_ ?_; rotate_left
              ·
               rintro w' ⟨s0, s1⟩; go_simp; with_reducible rfl
              rotate_left
              ·
               simp only [Act.put, lT, l0_, lS, i64_w, i32_w]; rfl
              refine take_ (i := 5) (N := some 127) (v := ?_) (a' := ?_) B16_5 rfl rfl (by kernel_rfl) (fun _ _ _ h => h) (Or.inl ⟨by rfl, ?_⟩) hHeld ?_ ?_; rotate_left
              ·
               rintro w' ⟨s0, s1⟩; go_simp; with_reducible rfl
              rotate_left
              ·
               simp only [Act.put, lT, l0_, lS, i64_w, i32_w]; rfl
              refine one_ (i := 3) (N := some 125) B16_6 rfl rfl (by kernel_rfl) (by decide) (fun K hK => ?_); refine goes_ Try.func17 (by kernel_rfl) rfl #[.slice Ao27 t320.length co27, .string ((rd_T38 l0 x118_3).f0)] (by rfl) rfl rfl (by (try simp only [List.map_toArray, List.map_cons, List.map_nil]); first | done | rfl | (simp only [List.length_drop, List.length_take]; rfl)) ?_
              with_reducible refine (name_Find.calls _ _ t320 ((rd_T38 l0 x118_3).f0) t342 _ ?side1 ?side2 A45.out).mono ?_
              (case side1 => repeat (first | exact (Kd.R_reads' HO_7.out).2.2 | (with_reducible refine Kd.C_alloc ?_ _) | (with_reducible refine Kd.C_drewN ?_ _) | (with_reducible refine Kd.C_drew ?_)))
              (case side2 => exact (Kd.R_reads' HO_7.out).2.1)
              rintro e w51 ⟨rfl, hb⟩; refine ⟨_, rfl, ?_⟩; have n0_ := Aside0.mk (Kd.R_below (by (with_reducible repeat (first | apply Kd.R_alloc | apply Kd.R_drewN | apply Kd.R_drew)); exact HO_7.out) hb)
              have n1_ := Aside0.mk (bB (g := gb341) (o := .cells #[.string ((rd_T38 l0 x118_3).f0), .int .i64 ((rd_T38 l0 x118_3).f1)] 38 (0, 0)) (by (with_reducible repeat (first | refine bN ?_ _ | refine bD ?_ | refine bA ?_ _)); exact BK341.out) hb)
              have n2_ := Aside0.mk (below_step (by repeat (first | (with_reducible first | exact HB.out | apply wA | apply wN | apply wD | refine wS ?_ GE341.out) | exact HB.out)) hb); clear HO_7; clear BK341; clear HB; have HO_7 := n0_; have BK341 := n1_; have HB := n2_; clear n0_ n1_ n2_
              (try clear hb)
              (try clear hb2)
              (try clear hk)
              (try clear hi)
              refine hK.out _ _ ⟨(bC BK341.out 0).trans rfl, (bC BK341.out 1).trans rfl⟩ (fun hHeld => ?_); clear hK K; refine norm_ (a' := ?_) ?_ ?_; rotate_left
              ·
               show Act.put _ (some 125) _ = _
               simp only [Act.put, lT, l0_, lS, i64_w, i32_w]; rfl
              refine pure_ (i := 6) (N := some 128) (v := ?_) (a' := ?_) B16_7 rfl rfl (by kernel_rfl) (fun _ _ _ h => h) (Or.inl ⟨by rfl, ?_⟩) ?_ ?_; rotate_left
              ·
               intro w'; go_simp; with_reducible rfl
              rotate_left
              ·
               simp only [Act.put, lT, l0_, lS, i64_w, i32_w]; rfl
              refine done_ (by kernel_rfl) ?_
              try go_wp2
              go_roundg k3
              case measure => have := HJ3.out; have := HJ24.out; have := HK3.out; omega
              case rel => exact ⟨(wrap64 (x118_3 + 1)), (by first | rfl | (simp; done) | (simp [*]; done)), H', ⟨by have := HJ3.out; have := HJ24.out; have := HK3.out; omega⟩, ⟨by (with_reducible repeat (first | apply Kd.R_alloc | apply Kd.R_drewN | apply Kd.R_drew)); exact Kd.R_mono HO_7.out (fun _ hk => trivial)⟩, ⟨by repeat (first | (with_reducible first | exact HB.out | apply wA | apply wN | apply wD | refine wS ?_ GE341.out) | exact HB.out)⟩⟩
             ·
              rw [if_neg c46] at H; have c46b0 : (t342 == ((rd_T38 l0 x118_3).f1)) = false := beq_eq_false_iff_ne.mpr c46; have c46b1 : (t342 != ((rd_T38 l0 x118_3).f1)) = true := bne_iff_ne.mpr c46; exact absurd H (by simp)
            ·
             rw [if_neg c44] at H; exact absurd H (by simp)
           ·
            rw [if_neg c43] at H; exact absurd H (by simp)
          ·
           rw [if_neg c42] at H; have c42b0 : decide (x118_3 < (l0.length : Int)) = false := decide_eq_false c42; clear c42; replace H := Option.bind_eq_some_iff.mp H; obtain ⟨t343, A520, H⟩ := H; replace H : (some t343) = some true := H; have A52 := Aside0.mk A520; clear A520; have HRET := Aside0.mk (Option.some.inj H); clear H
           go_wp2_with (first | ((with_reducible refine gate_callee (f := 12) rfl ?_); refine goesL_ (some 130) rfl rfl Try.func12 (by kernel_rfl) rfl #[] rfl (by (try simp only [List.map_toArray, List.map_cons, List.map_nil]); first | done | rfl | (simp only [List.length_drop, List.length_take]; rfl)) ?_; (with_reducible refine (potsherdlaw13_awake.calls k3  t343 _ A52.out).mono ?_); rintro e w53 ⟨rfl, hb⟩; refine ⟨_, rfl, ?_⟩; have n0_ := Aside0.mk (Kd.R_below (by (with_reducible repeat (first | apply Kd.R_alloc | apply Kd.R_drewN | apply Kd.R_drew)); exact HO_7.out) hb); have n1_ := Aside0.mk (below_step (by repeat (first | (with_reducible first | exact HB.out | apply wA | apply wN | apply wD) | exact HB.out)) hb); clear HO_7; clear HB; have HO_7 := n0_; have HB := n1_; clear n0_ n1_; (try clear hb); (try clear hb2); (try clear hk); (try clear hi)))
           go_ret
           exact ⟨by first | rfl | exact congrArg (fun b_ => Ending.returned (Value.bool b_)) HRET.out | (rw [HRET.out]) | (simp [errW_none, errW_some] <;> rfl) | (simp [*, errW_none, errW_some] <;> rfl), by repeat (first | (with_reducible first | exact HB.out | apply wA | apply wN | apply wD) | exact HB.out)⟩
    ·
     rw [if_neg c22] at H; have c22b0 : (t323 == 0) = false := beq_eq_false_iff_ne.mpr c22; have c22b1 : (t323 != 0) = true := bne_iff_ne.mpr c22
     by_cases c54 : (t320.length : Int) = 0
     ·
      rw [if_pos c54] at H; have c54b0 : ((t320.length : Int) == 0) = true := beq_iff_eq.mpr c54; have c54b1 : ((t320.length : Int) != 0) = false := bne_eq_false_iff_eq.mpr c54; clear c54
      by_cases c55 : t323 = 1
      ·
       rw [if_pos c55] at H; have c55b0 : (t323 == 1) = true := beq_iff_eq.mpr c55; have c55b1 : (t323 != 1) = false := bne_eq_false_iff_eq.mpr c55; clear c55; replace H := Option.bind_eq_some_iff.mp H; obtain ⟨t324, A560, H⟩ := H; replace H : (some t324) = some true := H; have A56 := Aside0.mk A560; clear A560; have HRET := Aside0.mk (Option.some.inj H); clear H
       go_wp2_with (first | ((with_reducible refine gate_callee (f := 14) rfl ?_); refine goesL_ (some 38) rfl rfl Try.func14 (by kernel_rfl) rfl #[.slice A0 l0.length c0, .string a1, .int .i64 a2] rfl (by (try simp only [List.map_toArray, List.map_cons, List.map_nil]); first | done | rfl | (simp only [List.length_drop, List.length_take]; rfl)) ?_; (with_reducible refine (name_With.calls kj3 (fun k_ => k_ < w.heap.size) _ _ l0 a1 a2 t320 t323 _ ?side1 A21.out).mono ?_); (case side1 => exact Kd.V_mk HC0.out (Kd.F_below (Kd.C_F k38_heap HR0.out) (by repeat (first | (with_reducible first | exact HB.out | apply wA | apply wN | apply wD) | exact HB.out)))); rintro e w57 ⟨v321, rfl, ho0, hb⟩; refine ⟨_, rfl, ?_⟩; have n0_ := Aside0.mk (Kd.R_lower (Kd.R_mono (ok' := fun k_ => True) ho0 (fun _ hk_ => trivial)) (below_size (by repeat (first | (with_reducible first | exact HB.out | apply wA | apply wN | apply wD) | exact HB.out)))); have n1_ := Aside0.mk (below_step (by repeat (first | (with_reducible first | exact HB.out | apply wA | apply wN | apply wD) | exact HB.out)) hb); clear HB; have HO322 := n0_; have HB := n1_; clear n0_ n1_; (try clear hb); (try clear hb2); (try clear hk); (try clear hi); (try clear ho0); obtain ⟨Ao58, co58, eo58⟩ := Kd.R_slice HO322.out; subst eo58) | (go_at_call 12; (with_reducible refine (potsherdlaw13_awake.calls kj3  t324 _ A56.out).mono ?_); rintro e w59 ⟨rfl, hb⟩; have n0_ := Aside0.mk (Kd.R_below (by (with_reducible repeat (first | apply Kd.R_alloc | apply Kd.R_drewN | apply Kd.R_drew)); exact HO322.out) hb); have n1_ := Aside0.mk (below_step (by repeat (first | (with_reducible first | exact HB.out | apply wA | apply wN | apply wD) | exact HB.out)) hb); clear HO322; clear HB; have HO322 := n0_; have HB := n1_; clear n0_ n1_; (try clear hb); (try clear hb2); (try clear hk); (try clear hi)))
       go_ret
       exact ⟨by first | rfl | exact congrArg (fun b_ => Ending.returned (Value.bool b_)) HRET.out | (rw [HRET.out]) | (simp [errW_none, errW_some] <;> rfl) | (simp [*, errW_none, errW_some] <;> rfl), by repeat (first | (with_reducible first | exact HB.out | apply wA | apply wN | apply wD) | exact HB.out)⟩
      ·
       rw [if_neg c55] at H; have c55b0 : (t323 == 1) = false := beq_eq_false_iff_ne.mpr c55; have c55b1 : (t323 != 1) = true := bne_iff_ne.mpr c55
       by_cases c60 : t323 = 9
       ·
        rw [if_pos c60] at H; have c60b0 : (t323 == 9) = true := beq_iff_eq.mpr c60; have c60b1 : (t323 != 9) = false := bne_eq_false_iff_eq.mpr c60; clear c60; replace H := Option.bind_eq_some_iff.mp H; obtain ⟨t325, A610, H⟩ := H; replace H : (if t325 ≥ 0 then ((potsherdlaw13_awake.f kj3).bind fun t326 => (some t326)) else (if t323 = 14 then (if (l0.length : Int) = 10 then ((potsherdlaw13_awake.f kj3).bind fun t327 => (some t327)) else (some false)) else (some false))) = some true := H; have A61 := Aside0.mk A610; clear A610
        by_cases c62 : t325 ≥ 0
        ·
         rw [if_pos c62] at H; have c62b0 : decide (0 ≤ t325) = true := decide_eq_true c62; clear c62; replace H := Option.bind_eq_some_iff.mp H; obtain ⟨t326, A630, H⟩ := H; replace H : (some t326) = some true := H; have A63 := Aside0.mk A630; clear A630; have HRET := Aside0.mk (Option.some.inj H); clear H
         go_wp2_with (first | ((with_reducible refine gate_callee (f := 14) rfl ?_); refine goesL_ (some 38) rfl rfl Try.func14 (by kernel_rfl) rfl #[.slice A0 l0.length c0, .string a1, .int .i64 a2] rfl (by (try simp only [List.map_toArray, List.map_cons, List.map_nil]); first | done | rfl | (simp only [List.length_drop, List.length_take]; rfl)) ?_; (with_reducible refine (name_With.calls kj3 (fun k_ => k_ < w.heap.size) _ _ l0 a1 a2 t320 t323 _ ?side1 A21.out).mono ?_); (case side1 => exact Kd.V_mk HC0.out (Kd.F_below (Kd.C_F k38_heap HR0.out) (by repeat (first | (with_reducible first | exact HB.out | apply wA | apply wN | apply wD) | exact HB.out)))); rintro e w64 ⟨v321, rfl, ho0, hb⟩; refine ⟨_, rfl, ?_⟩; have n0_ := Aside0.mk (Kd.R_lower (Kd.R_mono (ok' := fun k_ => True) ho0 (fun _ hk_ => trivial)) (below_size (by repeat (first | (with_reducible first | exact HB.out | apply wA | apply wN | apply wD) | exact HB.out)))); have n1_ := Aside0.mk (below_step (by repeat (first | (with_reducible first | exact HB.out | apply wA | apply wN | apply wD) | exact HB.out)) hb); clear HB; have HO322 := n0_; have HB := n1_; clear n0_ n1_; (try clear hb); (try clear hb2); (try clear hk); (try clear hi); (try clear ho0); obtain ⟨Ao65, co65, eo65⟩ := Kd.R_slice HO322.out; subst eo65) | (go_at_call 17; (with_reducible refine (name_Find.calls _ _ l0 a1 t325 _ ?side1 ?side2 A61.out).mono ?_); (case side1 => repeat (first | exact (Kd.C_below HR0.out HB.out) | (with_reducible refine Kd.C_alloc ?_ _) | (with_reducible refine Kd.C_drewN ?_ _) | (with_reducible refine Kd.C_drew ?_))); (case side2 => exact HC0.out); rintro e w66 ⟨rfl, hb⟩; have n0_ := Aside0.mk (Kd.R_below (by (with_reducible repeat (first | apply Kd.R_alloc | apply Kd.R_drewN | apply Kd.R_drew)); exact HO322.out) hb); have n1_ := Aside0.mk (below_step (by repeat (first | (with_reducible first | exact HB.out | apply wA | apply wN | apply wD) | exact HB.out)) hb); clear HO322; clear HB; have HO322 := n0_; have HB := n1_; clear n0_ n1_; (try clear hb); (try clear hb2); (try clear hk); (try clear hi)) | (go_at_call 12; (with_reducible refine (potsherdlaw13_awake.calls kj3  t326 _ A63.out).mono ?_); rintro e w67 ⟨rfl, hb⟩; have n0_ := Aside0.mk (Kd.R_below (by (with_reducible repeat (first | apply Kd.R_alloc | apply Kd.R_drewN | apply Kd.R_drew)); exact HO322.out) hb); have n1_ := Aside0.mk (below_step (by repeat (first | (with_reducible first | exact HB.out | apply wA | apply wN | apply wD) | exact HB.out)) hb); clear HO322; clear HB; have HO322 := n0_; have HB := n1_; clear n0_ n1_; (try clear hb); (try clear hb2); (try clear hk); (try clear hi)))
         go_ret
         exact ⟨by first | rfl | exact congrArg (fun b_ => Ending.returned (Value.bool b_)) HRET.out | (rw [HRET.out]) | (simp [errW_none, errW_some] <;> rfl) | (simp [*, errW_none, errW_some] <;> rfl), by repeat (first | (with_reducible first | exact HB.out | apply wA | apply wN | apply wD) | exact HB.out)⟩
        ·
         rw [if_neg c62] at H; have c62b0 : decide (0 ≤ t325) = false := decide_eq_false c62; clear c62
         by_cases c68 : t323 = 14
         ·
          rw [if_pos c68] at H; have c68b0 : (t323 == 14) = true := beq_iff_eq.mpr c68; have c68b1 : (t323 != 14) = false := bne_eq_false_iff_eq.mpr c68; clear c68
          by_cases c69 : (l0.length : Int) = 10
          ·
           rw [if_pos c69] at H; have c69b0 : ((l0.length : Int) == 10) = true := beq_iff_eq.mpr c69; have c69b1 : ((l0.length : Int) != 10) = false := bne_eq_false_iff_eq.mpr c69; clear c69; replace H := Option.bind_eq_some_iff.mp H; obtain ⟨t327, A700, H⟩ := H; replace H : (some t327) = some true := H; have A70 := Aside0.mk A700; clear A700; have HRET := Aside0.mk (Option.some.inj H); clear H
           go_wp2_with (first | ((with_reducible refine gate_callee (f := 14) rfl ?_); refine goesL_ (some 38) rfl rfl Try.func14 (by kernel_rfl) rfl #[.slice A0 l0.length c0, .string a1, .int .i64 a2] rfl (by (try simp only [List.map_toArray, List.map_cons, List.map_nil]); first | done | rfl | (simp only [List.length_drop, List.length_take]; rfl)) ?_; (with_reducible refine (name_With.calls kj3 (fun k_ => k_ < w.heap.size) _ _ l0 a1 a2 t320 t323 _ ?side1 A21.out).mono ?_); (case side1 => exact Kd.V_mk HC0.out (Kd.F_below (Kd.C_F k38_heap HR0.out) (by repeat (first | (with_reducible first | exact HB.out | apply wA | apply wN | apply wD) | exact HB.out)))); rintro e w71 ⟨v321, rfl, ho0, hb⟩; refine ⟨_, rfl, ?_⟩; have n0_ := Aside0.mk (Kd.R_lower (Kd.R_mono (ok' := fun k_ => True) ho0 (fun _ hk_ => trivial)) (below_size (by repeat (first | (with_reducible first | exact HB.out | apply wA | apply wN | apply wD) | exact HB.out)))); have n1_ := Aside0.mk (below_step (by repeat (first | (with_reducible first | exact HB.out | apply wA | apply wN | apply wD) | exact HB.out)) hb); clear HB; have HO322 := n0_; have HB := n1_; clear n0_ n1_; (try clear hb); (try clear hb2); (try clear hk); (try clear hi); (try clear ho0); obtain ⟨Ao72, co72, eo72⟩ := Kd.R_slice HO322.out; subst eo72) | (go_at_call 17; (with_reducible refine (name_Find.calls _ _ l0 a1 t325 _ ?side1 ?side2 A61.out).mono ?_); (case side1 => repeat (first | exact (Kd.C_below HR0.out HB.out) | (with_reducible refine Kd.C_alloc ?_ _) | (with_reducible refine Kd.C_drewN ?_ _) | (with_reducible refine Kd.C_drew ?_))); (case side2 => exact HC0.out); rintro e w73 ⟨rfl, hb⟩; have n0_ := Aside0.mk (Kd.R_below (by (with_reducible repeat (first | apply Kd.R_alloc | apply Kd.R_drewN | apply Kd.R_drew)); exact HO322.out) hb); have n1_ := Aside0.mk (below_step (by repeat (first | (with_reducible first | exact HB.out | apply wA | apply wN | apply wD) | exact HB.out)) hb); clear HO322; clear HB; have HO322 := n0_; have HB := n1_; clear n0_ n1_; (try clear hb); (try clear hb2); (try clear hk); (try clear hi)) | (go_at_call 12; (with_reducible refine (potsherdlaw13_awake.calls kj3  t327 _ A70.out).mono ?_); rintro e w74 ⟨rfl, hb⟩; have n0_ := Aside0.mk (Kd.R_below (by (with_reducible repeat (first | apply Kd.R_alloc | apply Kd.R_drewN | apply Kd.R_drew)); exact HO322.out) hb); have n1_ := Aside0.mk (below_step (by repeat (first | (with_reducible first | exact HB.out | apply wA | apply wN | apply wD) | exact HB.out)) hb); clear HO322; clear HB; have HO322 := n0_; have HB := n1_; clear n0_ n1_; (try clear hb); (try clear hb2); (try clear hk); (try clear hi)))
           go_ret
           exact ⟨by first | rfl | exact congrArg (fun b_ => Ending.returned (Value.bool b_)) HRET.out | (rw [HRET.out]) | (simp [errW_none, errW_some] <;> rfl) | (simp [*, errW_none, errW_some] <;> rfl), by repeat (first | (with_reducible first | exact HB.out | apply wA | apply wN | apply wD) | exact HB.out)⟩
          ·
           rw [if_neg c69] at H; have c69b0 : ((l0.length : Int) == 10) = false := beq_eq_false_iff_ne.mpr c69; have c69b1 : ((l0.length : Int) != 10) = true := bne_iff_ne.mpr c69; exact absurd H (by simp)
         ·
          rw [if_neg c68] at H; have c68b0 : (t323 == 14) = false := beq_eq_false_iff_ne.mpr c68; have c68b1 : (t323 != 14) = true := bne_iff_ne.mpr c68; exact absurd H (by simp)
       ·
        rw [if_neg c60] at H; have c60b0 : (t323 == 9) = false := beq_eq_false_iff_ne.mpr c60; have c60b1 : (t323 != 9) = true := bne_iff_ne.mpr c60
        by_cases c75 : t323 = 14
        ·
         rw [if_pos c75] at H; have c75b0 : (t323 == 14) = true := beq_iff_eq.mpr c75; have c75b1 : (t323 != 14) = false := bne_eq_false_iff_eq.mpr c75; clear c75
         by_cases c76 : (l0.length : Int) = 10
         ·
          rw [if_pos c76] at H; have c76b0 : ((l0.length : Int) == 10) = true := beq_iff_eq.mpr c76; have c76b1 : ((l0.length : Int) != 10) = false := bne_eq_false_iff_eq.mpr c76; clear c76; replace H := Option.bind_eq_some_iff.mp H; obtain ⟨t328, A770, H⟩ := H; replace H : (some t328) = some true := H; have A77 := Aside0.mk A770; clear A770; have HRET := Aside0.mk (Option.some.inj H); clear H
          go_wp2_with (first | ((with_reducible refine gate_callee (f := 14) rfl ?_); refine goesL_ (some 38) rfl rfl Try.func14 (by kernel_rfl) rfl #[.slice A0 l0.length c0, .string a1, .int .i64 a2] rfl (by (try simp only [List.map_toArray, List.map_cons, List.map_nil]); first | done | rfl | (simp only [List.length_drop, List.length_take]; rfl)) ?_; (with_reducible refine (name_With.calls kj3 (fun k_ => k_ < w.heap.size) _ _ l0 a1 a2 t320 t323 _ ?side1 A21.out).mono ?_); (case side1 => exact Kd.V_mk HC0.out (Kd.F_below (Kd.C_F k38_heap HR0.out) (by repeat (first | (with_reducible first | exact HB.out | apply wA | apply wN | apply wD) | exact HB.out)))); rintro e w78 ⟨v321, rfl, ho0, hb⟩; refine ⟨_, rfl, ?_⟩; have n0_ := Aside0.mk (Kd.R_lower (Kd.R_mono (ok' := fun k_ => True) ho0 (fun _ hk_ => trivial)) (below_size (by repeat (first | (with_reducible first | exact HB.out | apply wA | apply wN | apply wD) | exact HB.out)))); have n1_ := Aside0.mk (below_step (by repeat (first | (with_reducible first | exact HB.out | apply wA | apply wN | apply wD) | exact HB.out)) hb); clear HB; have HO322 := n0_; have HB := n1_; clear n0_ n1_; (try clear hb); (try clear hb2); (try clear hk); (try clear hi); (try clear ho0); obtain ⟨Ao79, co79, eo79⟩ := Kd.R_slice HO322.out; subst eo79) | (go_at_call 12; (with_reducible refine (potsherdlaw13_awake.calls kj3  t328 _ A77.out).mono ?_); rintro e w80 ⟨rfl, hb⟩; have n0_ := Aside0.mk (Kd.R_below (by (with_reducible repeat (first | apply Kd.R_alloc | apply Kd.R_drewN | apply Kd.R_drew)); exact HO322.out) hb); have n1_ := Aside0.mk (below_step (by repeat (first | (with_reducible first | exact HB.out | apply wA | apply wN | apply wD) | exact HB.out)) hb); clear HO322; clear HB; have HO322 := n0_; have HB := n1_; clear n0_ n1_; (try clear hb); (try clear hb2); (try clear hk); (try clear hi)))
          go_ret
          exact ⟨by first | rfl | exact congrArg (fun b_ => Ending.returned (Value.bool b_)) HRET.out | (rw [HRET.out]) | (simp [errW_none, errW_some] <;> rfl) | (simp [*, errW_none, errW_some] <;> rfl), by repeat (first | (with_reducible first | exact HB.out | apply wA | apply wN | apply wD) | exact HB.out)⟩
         ·
          rw [if_neg c76] at H; have c76b0 : ((l0.length : Int) == 10) = false := beq_eq_false_iff_ne.mpr c76; have c76b1 : ((l0.length : Int) != 10) = true := bne_iff_ne.mpr c76; exact absurd H (by simp)
        ·
         rw [if_neg c75] at H; have c75b0 : (t323 == 14) = false := beq_eq_false_iff_ne.mpr c75; have c75b1 : (t323 != 14) = true := bne_iff_ne.mpr c75; exact absurd H (by simp)
     ·
      rw [if_neg c54] at H; have c54b0 : ((t320.length : Int) == 0) = false := beq_eq_false_iff_ne.mpr c54; have c54b1 : ((t320.length : Int) != 0) = true := bne_iff_ne.mpr c54
      have c54b2 : ¬ (t320 = []) := fun h_ => c54 (by rw [h_]; rfl)
      exact absurd H (by simp)

end Go.Proofs.Ytbaiicnibiogpaa.PName
