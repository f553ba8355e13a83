/- The Go functions that these laws reach, each as a Lean function with the same answers (a law itself where it answers true), and the proof that the code comes to them; conditions: those of each theorem. Laid by a program of this session over the print. -/
import Derived.Test.YtkigiehkckjlhaaZMakesPMakesx0
import Derived.Test.YtkigiehkckjlhaaZMakesPMakesx17
import Derived.Test.YtkigiehkckjlhaaZMakesPMakesx24
import Derived.Test.YtkigiehkckjlhaaZMakesPMakesx25
namespace Go.Proofs.Ytkigiehkckjlhaa.PMakes
open Go.RowKit Go.Proofs.YtkigiehkckjlhaaW.PrintWords Go.Proofs.YtkigiehkckjlhaaW.PrintLast Go.Proofs.YtkigiehkckjlhaaW.PrintMore
attribute [local go_sem] max2_int min2_int max_two min_two max_three min_three max_four min_four   -- for this text's walks alone
set_option linter.unusedVariables false
set_option linter.unusedSimpArgs false
open Go.Proofs.YtkigiehkckjlhaaW.PrintWords renaming blk_drewN → bN, blk_drew → bD, blk_alloc → bA, below_set → wS, below_alloc → wA, pw_below_drewN → wN, below_drew1 → wD, blk_below → bB, blk_far → bF, blk_cell → bC, blk_frozen → bZ
open List renaming setIfInBounds_toArray → lT, set_cons_zero → l0_, set_cons_succ → lS
def potsherdlaw20_FileMakes.l0 : Nat → List Int → List Int → Int → Int → Int → Int → Int → Int → Int → List Int → Option (Bool)
 | 0, _, _, _, _, _, _, _, _, _, _ => none
 | k + 1, x0, x25, x26, x27, x485000, x485001, x485002, x485003, x485004, x485005 => if x27 < x26 then (if 0 ≤ x27 then (if x27 < (x25.length : Int) then (if x27 < (x0.length : Int) then (if x27 < x485003 then (if x485004 > (-1000) then (if x485004 < 1000 then (if x27 ≥ x485004 then (if (wrap64 (x27 - x485004)) < (x485005.length : Int) then (if 0 ≤ (wrap64 (x27 - x485004)) then (if (rd x25 x27) = (rd x485005 (wrap64 (x27 - x485004))) then (potsherdlaw20_FileMakes.l0 k x0 x25 x26 (wrap64 (x27 + 1)) x485000 x485001 x485002 x485003 x485004 x485005) else (some false)) else (none)) else (if (rd x25 x27) = (rd x0 x27) then (potsherdlaw20_FileMakes.l0 k x0 x25 x26 (wrap64 (x27 + 1)) x485000 x485001 x485002 x485003 x485004 x485005) else (some false))) else (if (rd x25 x27) = (rd x0 x27) then (potsherdlaw20_FileMakes.l0 k x0 x25 x26 (wrap64 (x27 + 1)) x485000 x485001 x485002 x485003 x485004 x485005) else (some false))) else (if (rd x25 x27) = (rd x0 x27) then (potsherdlaw20_FileMakes.l0 k x0 x25 x26 (wrap64 (x27 + 1)) x485000 x485001 x485002 x485003 x485004 x485005) else (some false))) else (if (rd x25 x27) = (rd x0 x27) then (potsherdlaw20_FileMakes.l0 k x0 x25 x26 (wrap64 (x27 + 1)) x485000 x485001 x485002 x485003 x485004 x485005) else (some false))) else (if x485004 > (-1000) then (if x485004 < 1000 then (if x27 ≥ x485004 then (if (wrap64 (x27 - x485004)) < (x485005.length : Int) then (if 0 ≤ (wrap64 (x27 - x485004)) then (if (rd x25 x27) = (rd x485005 (wrap64 (x27 - x485004))) then (potsherdlaw20_FileMakes.l0 k x0 x25 x26 (wrap64 (x27 + 1)) x485000 x485001 x485002 x485003 x485004 x485005) else (some false)) else (none)) else (if (rd x25 x27) = 0 then (potsherdlaw20_FileMakes.l0 k x0 x25 x26 (wrap64 (x27 + 1)) x485000 x485001 x485002 x485003 x485004 x485005) else (some false))) else (if (rd x25 x27) = 0 then (potsherdlaw20_FileMakes.l0 k x0 x25 x26 (wrap64 (x27 + 1)) x485000 x485001 x485002 x485003 x485004 x485005) else (some false))) else (if (rd x25 x27) = 0 then (potsherdlaw20_FileMakes.l0 k x0 x25 x26 (wrap64 (x27 + 1)) x485000 x485001 x485002 x485003 x485004 x485005) else (some false))) else (if (rd x25 x27) = 0 then (potsherdlaw20_FileMakes.l0 k x0 x25 x26 (wrap64 (x27 + 1)) x485000 x485001 x485002 x485003 x485004 x485005) else (some false)))) else (if x485004 > (-1000) then (if x485004 < 1000 then (if x27 ≥ x485004 then (if (wrap64 (x27 - x485004)) < (x485005.length : Int) then (if 0 ≤ (wrap64 (x27 - x485004)) then (if (rd x25 x27) = (rd x485005 (wrap64 (x27 - x485004))) then (potsherdlaw20_FileMakes.l0 k x0 x25 x26 (wrap64 (x27 + 1)) x485000 x485001 x485002 x485003 x485004 x485005) else (some false)) else (none)) else (if (rd x25 x27) = 0 then (potsherdlaw20_FileMakes.l0 k x0 x25 x26 (wrap64 (x27 + 1)) x485000 x485001 x485002 x485003 x485004 x485005) else (some false))) else (if (rd x25 x27) = 0 then (potsherdlaw20_FileMakes.l0 k x0 x25 x26 (wrap64 (x27 + 1)) x485000 x485001 x485002 x485003 x485004 x485005) else (some false))) else (if (rd x25 x27) = 0 then (potsherdlaw20_FileMakes.l0 k x0 x25 x26 (wrap64 (x27 + 1)) x485000 x485001 x485002 x485003 x485004 x485005) else (some false))) else (if (rd x25 x27) = 0 then (potsherdlaw20_FileMakes.l0 k x0 x25 x26 (wrap64 (x27 + 1)) x485000 x485001 x485002 x485003 x485004 x485005) else (some false)))) else (none)) else (none)) else ((potsherdlaw20_awake.f k).bind fun t498 => (some t498))
def potsherdlaw20_FileMakes.f (k : Nat) (l0 : List Int) (a1_0 : Int) (a1_1 : Int) (a1_2 : Int) (a1_3 : Int) (a1_4 : Int) (l1_5 : List Int) : Option (Bool) := if (l0.length : Int) > 100 then ((potsherdlaw20_awake.f k).bind fun t485 => (some t485)) else ((potsherdlaw20_light.f k (([(⟨a1_0, a1_1, a1_2, a1_3, a1_4, l1_5⟩ : S60)] : List (S60)))).bind fun t489 => (if t489 = true then ((file_Make.f l0 a1_0 a1_1 a1_2 a1_3 a1_4 l1_5).bind fun t490 => (if (t490.length : Int) = 16 then (potsherdlaw20_FileMakes.l0 k l0 t490 (t490.length : Int) 0 a1_0 a1_1 a1_2 a1_3 a1_4 l1_5) else (some false))) else ((potsherdlaw20_awake.f k).bind fun t499 => (some t499))))
theorem potsherdlaw20_FileMakes.mono_l : ∀ k, (∀ y0 y1 y2 y3 y4 y5 y6 y7 y8 y9, LeO (potsherdlaw20_FileMakes.l0 k y0 y1 y2 y3 y4 y5 y6 y7 y8 y9) (potsherdlaw20_FileMakes.l0 (k + 1) y0 y1 y2 y3 y4 y5 y6 y7 y8 y9))
 | 0 => fun _ _ _ _ _ _ _ _ _ _ r h => by simp [potsherdlaw20_FileMakes.l0] at h
 | k + 1 => by
  have ih0 := potsherdlaw20_FileMakes.mono_l k
  ·
   intro y0 y1 y2 y3 y4 y5 y6 y7 y8 y9
   unfold potsherdlaw20_FileMakes.l0
   repeat' first
   | (with_reducible exact ih0 _ _ _ _ _ _ _ _ _ _)
   | (with_reducible exact potsherdlaw20_awake.mono _)
   | (with_reducible exact potsherdlaw20_light.mono _ _)
   | (with_reducible exact LeO.refl _)
   | (with_reducible exact LeO.none _)
   | (with_reducible refine LeO.ite ?_ ?_)
   | (with_reducible refine LeO.bind ?_ (fun _ => ?_))
   | exact ih0 _ _ _ _ _ _ _ _ _ _
   | exact potsherdlaw20_awake.mono _
   | exact potsherdlaw20_light.mono _ _
   | exact LeO.none _
   | refine LeO.ite ?_ ?_
   | refine LeO.bind ?_ (fun _ => ?_)
theorem potsherdlaw20_FileMakes.mono : ∀ a0 a1 a2 a3 a4 a5 a6 k, LeO (potsherdlaw20_FileMakes.f k a0 a1 a2 a3 a4 a5 a6) (potsherdlaw20_FileMakes.f (k + 1) a0 a1 a2 a3 a4 a5 a6) := by
 intro a0 a1 a2 a3 a4 a5 a6 k; have ih0 := potsherdlaw20_FileMakes.mono_l k
 unfold potsherdlaw20_FileMakes.f
 repeat' first
  | (with_reducible exact ih0 _ _ _ _ _ _ _ _ _ _)
  | (with_reducible exact potsherdlaw20_awake.mono _)
  | (with_reducible exact potsherdlaw20_light.mono _ _)
  | (with_reducible exact LeO.refl _)
  | (with_reducible exact LeO.none _)
  | (with_reducible refine LeO.ite ?_ ?_)
  | (with_reducible refine LeO.bind ?_ (fun _ => ?_))
  | exact ih0 _ _ _ _ _ _ _ _ _ _
  | exact potsherdlaw20_awake.mono _
  | exact potsherdlaw20_light.mono _ _
  | exact LeO.none _
  | refine LeO.ite ?_ ?_
  | refine LeO.bind ?_ (fun _ => ?_)
set_option maxHeartbeats 8000000 in
set_option maxRecDepth 100000 in
theorem potsherdlaw20_FileMakes.calls (k : Nat) (A0 : Option Addr) (c0 : Nat) (l0 : List Int) (a1_0 : Int) (a1_1 : Int) (a1_2 : Int) (a1_3 : Int) (a1_4 : Int) (P1_5_ : Nat → Prop) (A1_5 : Option Addr) (c1_5 : Nat) (l1_5 : List Int) (w : World) (hr0 : Kd.C (Kd.int .u8) w A0 l0.length l0) (hc0 : l0.length ≤ c0) (hs1_5 : Kd.V (Kd.int .u8) 5 w w.heap.size (fun k_ => P1_5_ k_) (.slice A1_5 l1_5.length c1_5) l1_5) (h : potsherdlaw20_FileMakes.f k l0 a1_0 a1_1 a1_2 a1_3 a1_4 l1_5 = some true) :
 Calls Try.prog 9 #[.slice A0 l0.length c0, .agg #[.int .i64 a1_0, .int .i64 a1_1, .int .i64 a1_2, .int .i64 a1_3, .int .i64 a1_4, .slice A1_5 l1_5.length c1_5]] w fun e w' => e = .returned (.bool true) ∧ Below w.heap.size w w' := by
 have hu60 := Try.underlying60; have HR0 := Aside0.mk hr0; have HC0 := Aside0.mk hc0; clear hr0 hc0; have HO1_5 := Aside0.mk (show Kd.V (Kd.int .u8) 5 w w.heap.size (fun k_ => (P1_5_ k_ ∨ w.heap.size ≤ k_)) (.slice A1_5 l1_5.length c1_5) l1_5 from Kd.V_mono hs1_5 (fun k_ hk => .inl hk)); have HB := Aside0.mk (Below.refl w.heap.size w); have H : (if (l0.length : Int) > 100 then ((potsherdlaw20_awake.f k).bind fun t485 => (some t485)) else ((potsherdlaw20_light.f k (([(⟨a1_0, a1_1, a1_2, a1_3, a1_4, l1_5⟩ : S60)] : List (S60)))).bind fun t489 => (if t489 = true then ((file_Make.f l0 a1_0 a1_1 a1_2 a1_3 a1_4 l1_5).bind fun t490 => (if (t490.length : Int) = 16 then (potsherdlaw20_FileMakes.l0 k l0 t490 (t490.length : Int) 0 a1_0 a1_1 a1_2 a1_3 a1_4 l1_5) else (some false))) else ((potsherdlaw20_awake.f k).bind fun t499 => (some t499))))) = some true := h; clear h
 by_cases c3 : (l0.length : Int) > 100
 ·
  rw [if_pos c3] at H; have c3b0 : decide (100 < (l0.length : Int)) = true := decide_eq_true c3; have c3b1 : decide (100 < l0.length) = true := decide_eq_true (by omega); clear c3; replace H := Option.bind_eq_some_iff.mp H; obtain ⟨t485, A40, H⟩ := H; replace H : (some t485) = some true := H; have A4 := Aside0.mk A40; clear A40; have HRET := Aside0.mk (Option.some.inj H); clear H
  go_enter Try.func9, Try.ntmps9
  go_wp2_with (first | ((with_reducible refine gate_dst (N := 3) rfl ?_); (try (refine gate_guard (by rfl) ?_; dsimp only)); refine box_event ?hg (N := 3) ?hd (cs := #[.int .i64 a1_0, .int .i64 a1_1, .int .i64 a1_2, .int .i64 a1_3, .int .i64 a1_4, .slice A1_5 l1_5.length c1_5]) (t := 60) ?hr ?_; (case hd => rfl); (case hg => rfl); (case hr => first | (go_simp; done) | (go_simp; rfl)); intro gb484 hg w5 hbox hb; have n0_ := Aside0.mk (Kd.V_below (Kd.V_elderB (by (with_reducible repeat (first | apply Kd.V_alloc | apply Kd.V_drewN | apply Kd.V_drew)); exact HO1_5.out) gb484 (Nat.le_of_eq hg.symm)) hb); have n1_ := Aside0.mk (below_step (by repeat (first | (with_reducible first | exact HB.out | apply wA | apply wN | apply wD) | exact HB.out)) hb); have n2_ := Aside0.mk (hbox); have n3_ := Aside0.mk ((by rw [hg]; exact (below_size (by repeat (first | (with_reducible first | exact HB.out | apply wA | apply wN | apply wD) | exact HB.out))) : w.heap.size ≤ gb484)); have n4_ := Aside0.mk ((by rw [hg]; exact (below_size (by repeat (first | (with_reducible first | exact HB.out | apply wA | apply wN | apply wD) | exact HB.out))) : w.heap.size ≤ gb484)); clear HO1_5; clear HB; have HO1_5 := n0_; have HB := n1_; have BK484 := n2_; have GW484 := n3_; have GE484 := n4_; clear n0_ n1_ n2_ n3_ n4_; clear hb hbox hg) | ((with_reducible refine gate_callee (f := 33) rfl ?_); refine goesL_ (some 18) rfl rfl Try.func33 (by kernel_rfl) rfl #[] rfl (by (try simp only [List.map_toArray, List.map_cons, List.map_nil]); first | done | rfl | (simp only [List.length_drop, List.length_take]; rfl)) ?_; (with_reducible refine (potsherdlaw20_awake.calls k  t485 _ A4.out).mono ?_); rintro e w6 ⟨rfl, hb⟩; refine ⟨_, rfl, ?_⟩; have n0_ := Aside0.mk (Kd.V_below (by (with_reducible repeat (first | apply Kd.V_alloc | apply Kd.V_drewN | apply Kd.V_drew)); exact HO1_5.out) hb); have n1_ := Aside0.mk (bB (g := gb484) (o := .cells #[.int .i64 a1_0, .int .i64 a1_1, .int .i64 a1_2, .int .i64 a1_3, .int .i64 a1_4, .slice A1_5 l1_5.length c1_5] 60 (0, 0)) (by (with_reducible repeat (first | refine bN ?_ _ | refine bD ?_ | refine bA ?_ _)); exact BK484.out) hb); have n2_ := Aside0.mk (below_step (by repeat (first | (with_reducible first | exact HB.out | apply wA | apply wN | apply wD | refine wS ?_ GE484.out) | exact HB.out)) hb); clear HO1_5; clear BK484; clear HB; have HO1_5 := n0_; have BK484 := n1_; have HB := n2_; clear n0_ n1_ n2_; (try clear hb); (try clear hb2); (try clear hk); (try clear hi)))
  go_ret
  exact ⟨by first | rfl | exact congrArg (fun b_ => Ending.returned (Value.bool b_)) HRET.out | (rw [HRET.out]) | (simp [errW_none, errW_some] <;> rfl) | (simp [*, errW_none, errW_some] <;> rfl), by repeat (first | (with_reducible first | exact HB.out | apply wA | apply wN | apply wD | refine wS ?_ GE484.out) | exact HB.out)⟩
 ·
  rw [if_neg c3] at H; have c3b0 : decide (100 < (l0.length : Int)) = false := decide_eq_false c3; have c3b1 : decide (100 < l0.length) = false := decide_eq_false (by omega); clear c3; obtain ⟨y486, hy486⟩ : ∃ y_ : List (S60), y_ = (([(⟨a1_0, a1_1, a1_2, a1_3, a1_4, l1_5⟩ : S60)] : List (S60))) := ⟨_, rfl⟩
  replace H : ((potsherdlaw20_light.f k y486).bind fun t489 => (if t489 = true then ((file_Make.f l0 a1_0 a1_1 a1_2 a1_3 a1_4 l1_5).bind fun t490 => (if (t490.length : Int) = 16 then (potsherdlaw20_FileMakes.l0 k l0 t490 (t490.length : Int) 0 a1_0 a1_1 a1_2 a1_3 a1_4 l1_5) else (some false))) else ((potsherdlaw20_awake.f k).bind fun t499 => (some t499)))) = some true := by first | (rw [hy486]; with_reducible exact H) | (have H2_ := (Option.bind_some _ _).symm.trans H; rw [hy486]; with_reducible exact H2_) | (have H2_ := (Option.bind_some _ _).symm.trans H; with_reducible exact H2_) | with_reducible exact H | (rw [hy486]; exact H) | exact H
  have Ny486 := Aside0.mk hy486; clear hy486; replace H := Option.bind_eq_some_iff.mp H; obtain ⟨t489, A70, H⟩ := H; replace H : (if t489 = true then ((file_Make.f l0 a1_0 a1_1 a1_2 a1_3 a1_4 l1_5).bind fun t490 => (if (t490.length : Int) = 16 then (potsherdlaw20_FileMakes.l0 k l0 t490 (t490.length : Int) 0 a1_0 a1_1 a1_2 a1_3 a1_4 l1_5) else (some false))) else ((potsherdlaw20_awake.f k).bind fun t499 => (some t499))) = some true := H; have A7 := Aside0.mk A70; clear A70
  by_cases c8 : t489 = true
  ·
   subst c8
   have H1 : ((file_Make.f l0 a1_0 a1_1 a1_2 a1_3 a1_4 l1_5).bind fun t490 => (if (t490.length : Int) = 16 then (potsherdlaw20_FileMakes.l0 k l0 t490 (t490.length : Int) 0 a1_0 a1_1 a1_2 a1_3 a1_4 l1_5) else (some false))) = some true := by rw [if_pos rfl] at H; exact H
   clear H; have H := H1; clear H1; replace H := Option.bind_eq_some_iff.mp H; obtain ⟨t490, A90, H⟩ := H; replace H : (if (t490.length : Int) = 16 then (potsherdlaw20_FileMakes.l0 k l0 t490 (t490.length : Int) 0 a1_0 a1_1 a1_2 a1_3 a1_4 l1_5) else (some false)) = some true := H; have A9 := Aside0.mk A90; clear A90
   by_cases c10 : (t490.length : Int) = 16
   ·
    rw [if_pos c10] at H; have c10b0 : ((t490.length : Int) == 16) = true := beq_iff_eq.mpr c10; have c10b1 : ((t490.length : Int) != 16) = false := bne_eq_false_iff_eq.mpr c10; clear c10; have H' := Aside0.mk H; clear H
    go_enter Try.func9, Try.ntmps9
    go_wp2_with (first | ((with_reducible refine gate_dst (N := 3) rfl ?_); (try (refine gate_guard (by rfl) ?_; dsimp only)); refine box_event ?hg (N := 3) ?hd (cs := #[.int .i64 a1_0, .int .i64 a1_1, .int .i64 a1_2, .int .i64 a1_3, .int .i64 a1_4, .slice A1_5 l1_5.length c1_5]) (t := 60) ?hr ?_; (case hd => rfl); (case hg => rfl); (case hr => first | (go_simp; done) | (go_simp; rfl)); intro gb484 hg w11 hbox hb; have n0_ := Aside0.mk (Kd.V_below (Kd.V_elderB (by (with_reducible repeat (first | apply Kd.V_alloc | apply Kd.V_drewN | apply Kd.V_drew)); exact HO1_5.out) gb484 (Nat.le_of_eq hg.symm)) hb); have n1_ := Aside0.mk (below_step (by repeat (first | (with_reducible first | exact HB.out | apply wA | apply wN | apply wD) | exact HB.out)) hb); have n2_ := Aside0.mk (hbox); have n3_ := Aside0.mk ((by rw [hg]; exact (below_size (by repeat (first | (with_reducible first | exact HB.out | apply wA | apply wN | apply wD) | exact HB.out))) : w.heap.size ≤ gb484)); have n4_ := Aside0.mk ((by rw [hg]; exact (below_size (by repeat (first | (with_reducible first | exact HB.out | apply wA | apply wN | apply wD) | exact HB.out))) : w.heap.size ≤ gb484)); clear HO1_5; clear HB; have HO1_5 := n0_; have HB := n1_; have BK484 := n2_; have GW484 := n3_; have GE484 := n4_; clear n0_ n1_ n2_ n3_ n4_; clear hb hbox hg; have hcz12_0 : w11.cell? ⟨gb484, 0, none⟩ = some (.int .i64 a1_0) := (bC BK484.out 0).trans rfl; have hcz12_1 : w11.cell? ⟨gb484, 1, none⟩ = some (.int .i64 a1_1) := (bC BK484.out 1).trans rfl; have hcz12_2 : w11.cell? ⟨gb484, 2, none⟩ = some (.int .i64 a1_2) := (bC BK484.out 2).trans rfl; have hcz12_3 : w11.cell? ⟨gb484, 3, none⟩ = some (.int .i64 a1_3) := (bC BK484.out 3).trans rfl; have hcz12_4 : w11.cell? ⟨gb484, 4, none⟩ = some (.int .i64 a1_4) := (bC BK484.out 4).trans rfl; have hcz12_5 : w11.cell? ⟨gb484, 5, none⟩ = some (.slice A1_5 l1_5.length c1_5) := (bC BK484.out 5).trans rfl; have hfz12_0 := bZ BK484.out 0; have hfz12_1 := bZ BK484.out 1; have hfz12_2 := bZ BK484.out 2; have hfz12_3 := bZ BK484.out 3; have hfz12_4 := bZ BK484.out 4; have hfz12_5 := bZ BK484.out 5) | ((with_reducible refine gate_dst (N := 14) rfl ?_); (try (refine gate_guard (by rfl) ?_; dsimp only)); refine Kd.N_lit k60 _ 60 ?hg (N' := 14) ?hd (xs := ([(⟨a1_0, a1_1, a1_2, a1_3, a1_4, l1_5⟩ : S60)] : List (S60))) (inner := [.int .i64 a1_0, .int .i64 a1_1, .int .i64 a1_2, .int .i64 a1_3, .int .i64 a1_4, .slice A1_5 l1_5.length c1_5]) (ok := (fun k_ => (P1_5_ k_ ∨ w.heap.size ≤ k_) ∧ k_ ≠ gb484)) (okp := (fun k_ => (P1_5_ k_ ∨ w.heap.size ≤ k_) ∧ k_ ≠ gb484)) ?hr ?hp (fun _ hk => hk) ((show ∀ k_, w11.heap.size ≤ k_ → (fun k_ => (P1_5_ k_ ∨ w.heap.size ≤ k_) ∧ k_ ≠ gb484) k_ from fun k_ hk => ⟨(.inr (Nat.le_trans (below_size (by repeat (first | (with_reducible first | exact HB.out | apply wA | apply wN | apply wD | refine wS ?_ GE484.out) | exact HB.out))) hk)), Kd.freshB (g := gb484) (o := .cells #[.int .i64 a1_0, .int .i64 a1_1, .int .i64 a1_2, .int .i64 a1_3, .int .i64 a1_4, .slice A1_5 l1_5.length c1_5] 60 (0, 0)) (by (with_reducible repeat (first | refine bN ?_ _ | refine bD ?_ | refine bA ?_ _)); exact BK484.out) k_ hk⟩) _ (Nat.le_refl _)) (Below.refl _ _) (Nat.le_refl _) (by simp) ?_; (case hd => rfl); (case hg => rfl); (case hr => first | (go_simp; done) | (go_simp; rfl)); (case hp => exact (Reps.c6 (show Kd.FK k60 _ _ (⟨a1_0, a1_1, a1_2, a1_3, a1_4, l1_5⟩ : S60) [.int .i64 a1_0, .int .i64 a1_1, .int .i64 a1_2, .int .i64 a1_3, .int .i64 a1_4, .slice A1_5 l1_5.length c1_5] from (k60_mkF _ _ (⟨a1_0, a1_1, a1_2, a1_3, a1_4, l1_5⟩ : S60) (Kd.V_reads' (Kd.V_mono (ok' := (fun k_ => (P1_5_ k_ ∨ w.heap.size ≤ k_) ∧ k_ ≠ gb484)) (HO1_5.out) (fun k_ hk => ⟨hk.1, hk.2⟩))).2.1 (Kd.V_F (Kd.V_mono (ok' := (fun k_ => (P1_5_ k_ ∨ w.heap.size ≤ k_) ∧ k_ ≠ gb484)) (HO1_5.out) (fun k_ hk => ⟨hk.1, hk.2⟩))))) (Reps.none _ _))); intro v487 w13 ho14 hb hg_ hnew_; clear hg_ hnew_; (first | rw [← Ny486.out] at ho14 | (simp only [Int.reduceToNat] at ho14; rw [← Ny486.out] at ho14)); have n0_ := Aside0.mk (Kd.V_elder' (by (with_reducible repeat (first | apply Kd.V_alloc | apply Kd.V_drewN | apply Kd.V_drew)); exact HO1_5.out) (Kd.N_base ho14) hb); have n1_ := Aside0.mk (Kd.N_lower ho14 (below_size (by repeat (first | (with_reducible first | exact HB.out | apply wA | apply wN | apply wD | refine wS ?_ GE484.out) | exact HB.out)))); have n2_ := Aside0.mk (bB (g := gb484) (o := .cells #[.int .i64 a1_0, .int .i64 a1_1, .int .i64 a1_2, .int .i64 a1_3, .int .i64 a1_4, .slice A1_5 l1_5.length c1_5] 60 (0, 0)) (by (with_reducible repeat (first | refine bN ?_ _ | refine bD ?_ | refine bA ?_ _)); exact BK484.out) hb); have n3_ := Aside0.mk (below_step (by repeat (first | (with_reducible first | exact HB.out | apply wA | apply wN | apply wD | refine wS ?_ GE484.out) | exact HB.out)) hb); clear HO1_5; clear BK484; clear HB; have HO1_5 := n0_; have HO488 := n1_; have BK484 := n2_; have HB := n3_; clear n0_ n1_ n2_ n3_; clear hb ho14; obtain ⟨Ao15, co15, eo15⟩ := Kd.N_slice HO488.out; subst eo15) | (go_at_call 35; (with_reducible refine (potsherdlaw20_light.calls k _ _ y486 true _ ?side1 ?side2 A7.out).mono ?_); (case side1 => repeat (first | exact (Kd.N_reads' HO488.out).2.2 | (with_reducible refine Kd.C_alloc ?_ _) | (with_reducible refine Kd.C_drewN ?_ _) | (with_reducible refine Kd.C_drew ?_))); (case side2 => exact (Kd.N_reads' HO488.out).2.1); rintro e w16 ⟨rfl, hb⟩; have n0_ := Aside0.mk (Kd.V_below (by (with_reducible repeat (first | apply Kd.V_alloc | apply Kd.V_drewN | apply Kd.V_drew)); exact HO1_5.out) hb); have n1_ := Aside0.mk (Kd.N_below (by (with_reducible repeat (first | apply Kd.N_alloc | apply Kd.N_drewN | apply Kd.N_drew)); exact HO488.out) hb); have n2_ := Aside0.mk (bB (g := gb484) (o := .cells #[.int .i64 a1_0, .int .i64 a1_1, .int .i64 a1_2, .int .i64 a1_3, .int .i64 a1_4, .slice A1_5 l1_5.length c1_5] 60 (0, 0)) (by (with_reducible repeat (first | refine bN ?_ _ | refine bD ?_ | refine bA ?_ _)); exact BK484.out) hb); have n3_ := Aside0.mk (below_step (by repeat (first | (with_reducible first | exact HB.out | apply wA | apply wN | apply wD | refine wS ?_ GE484.out) | exact HB.out)) hb); clear HO1_5; clear HO488; clear BK484; clear HB; have HO1_5 := n0_; have HO488 := n1_; have BK484 := n2_; have HB := n3_; clear n0_ n1_ n2_ n3_; (try clear hb); (try clear hb2); (try clear hk); (try clear hi); have hcz17_0 : w16.cell? ⟨gb484, 0, none⟩ = some (.int .i64 a1_0) := (bC BK484.out 0).trans rfl; have hcz17_1 : w16.cell? ⟨gb484, 1, none⟩ = some (.int .i64 a1_1) := (bC BK484.out 1).trans rfl; have hcz17_2 : w16.cell? ⟨gb484, 2, none⟩ = some (.int .i64 a1_2) := (bC BK484.out 2).trans rfl; have hcz17_3 : w16.cell? ⟨gb484, 3, none⟩ = some (.int .i64 a1_3) := (bC BK484.out 3).trans rfl; have hcz17_4 : w16.cell? ⟨gb484, 4, none⟩ = some (.int .i64 a1_4) := (bC BK484.out 4).trans rfl; have hcz17_5 : w16.cell? ⟨gb484, 5, none⟩ = some (.slice A1_5 l1_5.length c1_5) := (bC BK484.out 5).trans rfl; have hfz17_0 := bZ BK484.out 0; have hfz17_1 := bZ BK484.out 1; have hfz17_2 := bZ BK484.out 2; have hfz17_3 := bZ BK484.out 3; have hfz17_4 := bZ BK484.out 4; have hfz17_5 := bZ BK484.out 5) | ((with_reducible refine gate_callee (f := 37) rfl ?_); refine goesL_ (some 21) rfl rfl Try.func37 (by kernel_rfl) rfl #[.slice A0 l0.length c0, .agg #[.int .i64 a1_0, .int .i64 a1_1, .int .i64 a1_2, .int .i64 a1_3, .int .i64 a1_4, .slice A1_5 l1_5.length c1_5]] rfl (by (try simp only [List.map_toArray, List.map_cons, List.map_nil]); first | done | rfl | (simp only [List.length_drop, List.length_take]; rfl)) ?_; (with_reducible refine (file_Make.calls _ _ l0 a1_0 a1_1 a1_2 a1_3 a1_4 _ _ l1_5 t490 _ ?side1 ?side2 ?side3 ?side4 A9.out).mono ?_); (case side1 => repeat (first | exact (Kd.C_below HR0.out HB.out) | (with_reducible refine Kd.C_alloc ?_ _) | (with_reducible refine Kd.C_drewN ?_ _) | (with_reducible refine Kd.C_drew ?_))); (case side2 => exact HC0.out); (case side3 => repeat (first | exact (Kd.V_reads' HO1_5.out).2.2 | (with_reducible refine Kd.C_alloc ?_ _) | (with_reducible refine Kd.C_drewN ?_ _) | (with_reducible refine Kd.C_drew ?_))); (case side4 => exact (Kd.V_reads' HO1_5.out).2.1); rintro e w18 ⟨v491, rfl, ho0, hb⟩; refine ⟨_, rfl, ?_⟩; have n0_ := Aside0.mk (Kd.V_elder' (by (with_reducible repeat (first | apply Kd.V_alloc | apply Kd.V_drewN | apply Kd.V_drew)); exact HO1_5.out) (Kd.R_base ho0) hb); have n1_ := Aside0.mk (Kd.N_elder' (by (with_reducible repeat (first | apply Kd.N_alloc | apply Kd.N_drewN | apply Kd.N_drew)); exact HO488.out) (Kd.R_base ho0) hb); have n2_ := Aside0.mk (Kd.R_lower (Kd.R_newM (M := fun k_ => (w.heap.size ≤ k_)) ho0 (below_size (by repeat (first | (with_reducible first | exact HB.out | apply wA | apply wN | apply wD | refine wS ?_ GE484.out) | exact HB.out))) (fun k_ h_ => h_)) (below_size (by repeat (first | (with_reducible first | exact HB.out | apply wA | apply wN | apply wD | refine wS ?_ GE484.out) | exact HB.out)))); have n3_ := Aside0.mk (bB (g := gb484) (o := .cells #[.int .i64 a1_0, .int .i64 a1_1, .int .i64 a1_2, .int .i64 a1_3, .int .i64 a1_4, .slice A1_5 l1_5.length c1_5] 60 (0, 0)) (by (with_reducible repeat (first | refine bN ?_ _ | refine bD ?_ | refine bA ?_ _)); exact BK484.out) hb); have n4_ := Aside0.mk (below_step (by repeat (first | (with_reducible first | exact HB.out | apply wA | apply wN | apply wD | refine wS ?_ GE484.out) | exact HB.out)) hb); clear HO1_5; clear HO488; clear BK484; clear HB; have HO1_5 := n0_; have HO488 := n1_; have HO492 := n2_; have BK484 := n3_; have HB := n4_; clear n0_ n1_ n2_ n3_ n4_; (try clear hb); (try clear hb2); (try clear hk); (try clear hi); (try clear ho0); obtain ⟨Ao19, co19, eo19⟩ := Kd.R_slice HO492.out; subst eo19))
    go_loopg [27] k (fun kq v27 w' => ∃ (x27_1 : Int), v27 = .int .i64 x27_1 ∧ Aside0 (potsherdlaw20_FileMakes.l0 kq l0 t490 (t490.length : Int) x27_1 a1_0 a1_1 a1_2 a1_3 a1_4 l1_5 = some true) ∧ Aside0 (kq ≤ k) ∧ Aside0 (Kd.R (Kd.int .u8) 5 w' w.heap.size (fun k_ => (w.heap.size ≤ k_)) (.slice Ao19 t490.length co19) t490) ∧ Aside0 (Kd.V (Kd.int .u8) 5 w' w.heap.size (fun k_ => (P1_5_ k_ ∨ w.heap.size ≤ k_) ∧ some k_ ≠ ((.slice Ao19 t490.length co19) : Value).ownBlock ∧ k_ ≠ gb484) (.slice A1_5 l1_5.length c1_5) l1_5) ∧ Aside0 (w'.heap[gb484]? = some (.cells #[.int .i64 a1_0, .int .i64 a1_1, .int .i64 a1_2, .int .i64 a1_3, .int .i64 a1_4, (.slice A1_5 l1_5.length c1_5)] 60 (0, 0))) ∧ Aside0 (Below w.heap.size w w'))
    case atStart => exact ⟨(0), (by first | rfl | (simp; done) | (simp [*]; done)), H', ⟨Nat.le_refl _⟩, ⟨by (with_reducible repeat (first | apply Kd.R_alloc | apply Kd.R_drewN | apply Kd.R_drew)); exact Kd.R_mono HO492.out (fun _ hk => hk.1)⟩, ⟨by (with_reducible repeat (first | apply Kd.V_alloc | apply Kd.V_drewN | apply Kd.V_drew)); exact Kd.V_mono HO1_5.out (fun _ hk => ⟨hk.1.1.1, ⟨hk.2, hk.1.1.2⟩⟩)⟩, ⟨by (with_reducible repeat (first | refine bN ?_ _ | refine bD ?_ | refine bA ?_ _)); exact BK484.out⟩, ⟨by repeat (first | (with_reducible first | exact HB.out | apply wA | apply wN | apply wD | refine wS ?_ GE484.out) | exact HB.out)⟩⟩
    case round =>
     clear H'
     try clear c1
     try clear p2
     try clear c3
     try clear c3b0
     try clear c3b1
     try clear c6
     try clear c8
     try clear c9
     try clear c10
     try clear c10b0
     try clear c10b1
     try clear hcz12_0
     try clear hcz12_1
     try clear hcz12_2
     try clear hcz12_3
     try clear hcz12_4
     try clear hcz12_5
     try clear hcz17_0
     try clear hcz17_1
     try clear hcz17_2
     try clear hcz17_3
     try clear hcz17_4
     try clear hcz17_5
     try clear hfz12_0
     try clear hfz12_1
     try clear hfz12_2
     try clear hfz12_3
     try clear hfz12_4
     try clear hfz12_5
     try clear hfz17_0
     try clear hfz17_1
     try clear hfz17_2
     try clear hfz17_3
     try clear hfz17_4
     try clear hfz17_5
     obtain ⟨x27_1, rfl, HA, HK1, HO_25, HO_485005, BK484, HB⟩ := hrel
     cases gk with
     | zero => exact absurd HA.out (by simp [potsherdlaw20_FileMakes.l0])
     | succ k1 =>
      have H := HA.out; clear HA; simp only [potsherdlaw20_FileMakes.l0] at H
      by_cases c20 : x27_1 < (t490.length : Int)
      ·
       rw [if_pos c20] at H; have c20b0 : decide (x27_1 < (t490.length : Int)) = true := decide_eq_true c20; clear c20
       by_cases c21 : 0 ≤ x27_1
       ·
        rw [if_pos c21] at H; have c21b0 : decide (0 ≤ x27_1) = true := decide_eq_true c21; clear c21
        by_cases c22 : x27_1 < (t490.length : Int)
        ·
         rw [if_pos c22] at H; have c22b0 : decide (x27_1 < (t490.length : Int)) = true := decide_eq_true c22; clear c22
         by_cases c23 : x27_1 < (l0.length : Int)
         ·
          rw [if_pos c23] at H; have c23b0 : decide (x27_1 < (l0.length : Int)) = true := decide_eq_true c23; clear c23
          by_cases c24 : x27_1 < a1_3
          ·
           rw [if_pos c24] at H; have c24b0 : decide (x27_1 < a1_3) = true := decide_eq_true c24; clear c24
           by_cases c25 : a1_4 > (-1000)
           ·
            rw [if_pos c25] at H; have c25b0 : decide ((-1000) < a1_4) = true := decide_eq_true c25; clear c25
            by_cases c26 : a1_4 < 1000
            ·
             rw [if_pos c26] at H; have c26b0 : decide (a1_4 < 1000) = true := decide_eq_true c26; clear c26
             by_cases c27 : x27_1 ≥ a1_4
             ·
              rw [if_pos c27] at H; have c27b0 : decide (a1_4 ≤ x27_1) = true := decide_eq_true c27; clear c27
              by_cases c28 : (wrap64 (x27_1 - a1_4)) < (l1_5.length : Int)
              ·
               rw [if_pos c28] at H; have c28b0 : decide ((wrap64 (x27_1 - a1_4)) < (l1_5.length : Int)) = true := decide_eq_true c28; clear c28; obtain ⟨ji29, hji29⟩ : ∃ j_ : Int, (wrap64 (x27_1 - a1_4)) = j_ := ⟨_, rfl⟩
               replace H : (if 0 ≤ (ji29) then (if (rd t490 x27_1) = (rd l1_5 (ji29)) then (potsherdlaw20_FileMakes.l0 k1 l0 t490 (t490.length : Int) (wrap64 (x27_1 + 1)) a1_0 a1_1 a1_2 a1_3 a1_4 l1_5) else (some false)) else (none)) = some true := by first | (rw [hji29] at H; exact H) | (simp only [hji29] at H ⊢; exact H)
               (try rw [hji29] at c28b0)
               have hji29w : (IntKind.i64.wrap (x27_1 - a1_4)) = ji29 := (i64_w _).trans hji29
               by_cases c30 : 0 ≤ (ji29)
               ·
                rw [if_pos c30] at H; have c30b0 : decide (0 ≤ (ji29)) = true := decide_eq_true c30; clear c30
                by_cases c31 : (rd t490 x27_1) = (rd l1_5 (ji29))
                ·
                 rw [if_pos c31] at H; have c31b0 : ((rd t490 x27_1) == (rd l1_5 (ji29))) = true := beq_iff_eq.mpr c31; have c31b1 : ((rd t490 x27_1) != (rd l1_5 (ji29))) = false := bne_eq_false_iff_eq.mpr c31; clear c31; have H' := Aside0.mk H; clear H; have p493 : 0 ≤ (x27_1 : Int) := of_decide_eq_true (by first | (with_reducible assumption) | assumption); have q493 : x27_1 < (t490.length : Int) := of_decide_eq_true (by first | (with_reducible assumption) | assumption); obtain ⟨ad493, e493, hx493_0⟩ := Kd.at_int (Kd.R_reads' HO_25.out).2.2 x27_1 p493 q493
                 cases e493
                 replace p493 := eq_true p493; replace q493 := eq_true q493; have hcz32_0 : wr.cell? ⟨gb484, 0, none⟩ = some (.int .i64 a1_0) := (bC BK484.out 0).trans rfl; have hcz32_1 : wr.cell? ⟨gb484, 1, none⟩ = some (.int .i64 a1_1) := (bC BK484.out 1).trans rfl; have hcz32_2 : wr.cell? ⟨gb484, 2, none⟩ = some (.int .i64 a1_2) := (bC BK484.out 2).trans rfl; have hcz32_3 : wr.cell? ⟨gb484, 3, none⟩ = some (.int .i64 a1_3) := (bC BK484.out 3).trans rfl; have hcz32_4 : wr.cell? ⟨gb484, 4, none⟩ = some (.int .i64 a1_4) := (bC BK484.out 4).trans rfl; have hcz32_5 : wr.cell? ⟨gb484, 5, none⟩ = some (.slice A1_5 l1_5.length c1_5) := (bC BK484.out 5).trans rfl; have hfz32_0 := bZ BK484.out 0; have hfz32_1 := bZ BK484.out 1; have hfz32_2 := bZ BK484.out 2; have hfz32_3 := bZ BK484.out 3; have hfz32_4 := bZ BK484.out 4; have hfz32_5 := bZ BK484.out 5; have p494 : 0 ≤ (x27_1 : Int) := of_decide_eq_true (by first | (with_reducible assumption) | assumption); have q494 : x27_1 < (l0.length : Int) := of_decide_eq_true (by first | (with_reducible assumption) | assumption); obtain ⟨ad494, e494, hx494_0⟩ := Kd.at_int HR0.out x27_1 p494 q494
                 cases e494
                 replace hx494_0 := (HB.out.cell (World.block_lt_of_cell? w _ hx494_0)).trans hx494_0; replace p494 := eq_true p494; replace q494 := eq_true q494; have p495 : 0 ≤ ((ji29) : Int) := of_decide_eq_true (by first | (with_reducible assumption) | assumption); have q495 : (ji29) < (l1_5.length : Int) := of_decide_eq_true (by first | (with_reducible assumption) | assumption); obtain ⟨ad495, e495, hx495_0⟩ := Kd.at_int (Kd.V_reads' HO_485005.out).2.2 (ji29) p495 q495
                 cases e495
                 replace p495 := eq_true p495; replace q495 := eq_true q495
                 go_wp2
                 go_roundg k1
                 case measure => have := HK1.out; omega
                 case rel => exact ⟨(wrap64 (x27_1 + 1)), (by first | rfl | (simp; done) | (simp [*]; done)), H', ⟨by have := HK1.out; omega⟩, ⟨by (with_reducible repeat (first | apply Kd.R_alloc | apply Kd.R_drewN | apply Kd.R_drew)); exact HO_25.out⟩, ⟨by (with_reducible repeat (first | apply Kd.V_alloc | apply Kd.V_drewN | apply Kd.V_drew)); exact HO_485005.out⟩, ⟨by (with_reducible repeat (first | refine bN ?_ _ | refine bD ?_ | refine bA ?_ _)); exact BK484.out⟩, ⟨by repeat (first | (with_reducible first | exact HB.out | apply wA | apply wN | apply wD | refine wS ?_ GE484.out) | exact HB.out)⟩⟩
                ·
                 rw [if_neg c31] at H; have c31b0 : ((rd t490 x27_1) == (rd l1_5 (ji29))) = false := beq_eq_false_iff_ne.mpr c31; have c31b1 : ((rd t490 x27_1) != (rd l1_5 (ji29))) = true := bne_iff_ne.mpr c31; exact absurd H (by simp)
               ·
                rw [if_neg c30] at H; exact absurd H (by simp)
              ·
               rw [if_neg c28] at H; have c28b0 : decide ((wrap64 (x27_1 - a1_4)) < (l1_5.length : Int)) = false := decide_eq_false c28; clear c28
               by_cases c33 : (rd t490 x27_1) = (rd l0 x27_1)
               ·
                rw [if_pos c33] at H; have c33b0 : ((rd t490 x27_1) == (rd l0 x27_1)) = true := beq_iff_eq.mpr c33; have c33b1 : ((rd t490 x27_1) != (rd l0 x27_1)) = false := bne_eq_false_iff_eq.mpr c33; clear c33; have H' := Aside0.mk H; clear H; have p493 : 0 ≤ (x27_1 : Int) := of_decide_eq_true (by first | (with_reducible assumption) | assumption); have q493 : x27_1 < (t490.length : Int) := of_decide_eq_true (by first | (with_reducible assumption) | assumption); obtain ⟨ad493, e493, hx493_0⟩ := Kd.at_int (Kd.R_reads' HO_25.out).2.2 x27_1 p493 q493
                cases e493
                replace p493 := eq_true p493; replace q493 := eq_true q493; have hcz34_0 : wr.cell? ⟨gb484, 0, none⟩ = some (.int .i64 a1_0) := (bC BK484.out 0).trans rfl; have hcz34_1 : wr.cell? ⟨gb484, 1, none⟩ = some (.int .i64 a1_1) := (bC BK484.out 1).trans rfl; have hcz34_2 : wr.cell? ⟨gb484, 2, none⟩ = some (.int .i64 a1_2) := (bC BK484.out 2).trans rfl; have hcz34_3 : wr.cell? ⟨gb484, 3, none⟩ = some (.int .i64 a1_3) := (bC BK484.out 3).trans rfl; have hcz34_4 : wr.cell? ⟨gb484, 4, none⟩ = some (.int .i64 a1_4) := (bC BK484.out 4).trans rfl; have hcz34_5 : wr.cell? ⟨gb484, 5, none⟩ = some (.slice A1_5 l1_5.length c1_5) := (bC BK484.out 5).trans rfl; have hfz34_0 := bZ BK484.out 0; have hfz34_1 := bZ BK484.out 1; have hfz34_2 := bZ BK484.out 2; have hfz34_3 := bZ BK484.out 3; have hfz34_4 := bZ BK484.out 4; have hfz34_5 := bZ BK484.out 5; have p494 : 0 ≤ (x27_1 : Int) := of_decide_eq_true (by first | (with_reducible assumption) | assumption); have q494 : x27_1 < (l0.length : Int) := of_decide_eq_true (by first | (with_reducible assumption) | assumption); obtain ⟨ad494, e494, hx494_0⟩ := Kd.at_int HR0.out x27_1 p494 q494
                cases e494
                replace hx494_0 := (HB.out.cell (World.block_lt_of_cell? w _ hx494_0)).trans hx494_0; replace p494 := eq_true p494; replace q494 := eq_true q494
                go_wp2
                go_roundg k1
                case measure => have := HK1.out; omega
                case rel => exact ⟨(wrap64 (x27_1 + 1)), (by first | rfl | (simp; done) | (simp [*]; done)), H', ⟨by have := HK1.out; omega⟩, ⟨by (with_reducible repeat (first | apply Kd.R_alloc | apply Kd.R_drewN | apply Kd.R_drew)); exact HO_25.out⟩, ⟨by (with_reducible repeat (first | apply Kd.V_alloc | apply Kd.V_drewN | apply Kd.V_drew)); exact HO_485005.out⟩, ⟨by (with_reducible repeat (first | refine bN ?_ _ | refine bD ?_ | refine bA ?_ _)); exact BK484.out⟩, ⟨by repeat (first | (with_reducible first | exact HB.out | apply wA | apply wN | apply wD | refine wS ?_ GE484.out) | exact HB.out)⟩⟩
               ·
                rw [if_neg c33] at H; have c33b0 : ((rd t490 x27_1) == (rd l0 x27_1)) = false := beq_eq_false_iff_ne.mpr c33; have c33b1 : ((rd t490 x27_1) != (rd l0 x27_1)) = true := bne_iff_ne.mpr c33; exact absurd H (by simp)
             ·
              rw [if_neg c27] at H; have c27b0 : decide (a1_4 ≤ x27_1) = false := decide_eq_false c27; clear c27
              by_cases c35 : (rd t490 x27_1) = (rd l0 x27_1)
              ·
               rw [if_pos c35] at H; have c35b0 : ((rd t490 x27_1) == (rd l0 x27_1)) = true := beq_iff_eq.mpr c35; have c35b1 : ((rd t490 x27_1) != (rd l0 x27_1)) = false := bne_eq_false_iff_eq.mpr c35; clear c35; have H' := Aside0.mk H; clear H; have p493 : 0 ≤ (x27_1 : Int) := of_decide_eq_true (by first | (with_reducible assumption) | assumption); have q493 : x27_1 < (t490.length : Int) := of_decide_eq_true (by first | (with_reducible assumption) | assumption); obtain ⟨ad493, e493, hx493_0⟩ := Kd.at_int (Kd.R_reads' HO_25.out).2.2 x27_1 p493 q493
               cases e493
               replace p493 := eq_true p493; replace q493 := eq_true q493; have hcz36_0 : wr.cell? ⟨gb484, 0, none⟩ = some (.int .i64 a1_0) := (bC BK484.out 0).trans rfl; have hcz36_1 : wr.cell? ⟨gb484, 1, none⟩ = some (.int .i64 a1_1) := (bC BK484.out 1).trans rfl; have hcz36_2 : wr.cell? ⟨gb484, 2, none⟩ = some (.int .i64 a1_2) := (bC BK484.out 2).trans rfl; have hcz36_3 : wr.cell? ⟨gb484, 3, none⟩ = some (.int .i64 a1_3) := (bC BK484.out 3).trans rfl; have hcz36_4 : wr.cell? ⟨gb484, 4, none⟩ = some (.int .i64 a1_4) := (bC BK484.out 4).trans rfl; have hcz36_5 : wr.cell? ⟨gb484, 5, none⟩ = some (.slice A1_5 l1_5.length c1_5) := (bC BK484.out 5).trans rfl; have hfz36_0 := bZ BK484.out 0; have hfz36_1 := bZ BK484.out 1; have hfz36_2 := bZ BK484.out 2; have hfz36_3 := bZ BK484.out 3; have hfz36_4 := bZ BK484.out 4; have hfz36_5 := bZ BK484.out 5; have p494 : 0 ≤ (x27_1 : Int) := of_decide_eq_true (by first | (with_reducible assumption) | assumption); have q494 : x27_1 < (l0.length : Int) := of_decide_eq_true (by first | (with_reducible assumption) | assumption); obtain ⟨ad494, e494, hx494_0⟩ := Kd.at_int HR0.out x27_1 p494 q494
               cases e494
               replace hx494_0 := (HB.out.cell (World.block_lt_of_cell? w _ hx494_0)).trans hx494_0; replace p494 := eq_true p494; replace q494 := eq_true q494
               go_wp2
               go_roundg k1
               case measure => have := HK1.out; omega
               case rel => exact ⟨(wrap64 (x27_1 + 1)), (by first | rfl | (simp; done) | (simp [*]; done)), H', ⟨by have := HK1.out; omega⟩, ⟨by (with_reducible repeat (first | apply Kd.R_alloc | apply Kd.R_drewN | apply Kd.R_drew)); exact HO_25.out⟩, ⟨by (with_reducible repeat (first | apply Kd.V_alloc | apply Kd.V_drewN | apply Kd.V_drew)); exact HO_485005.out⟩, ⟨by (with_reducible repeat (first | refine bN ?_ _ | refine bD ?_ | refine bA ?_ _)); exact BK484.out⟩, ⟨by repeat (first | (with_reducible first | exact HB.out | apply wA | apply wN | apply wD | refine wS ?_ GE484.out) | exact HB.out)⟩⟩
              ·
               rw [if_neg c35] at H; have c35b0 : ((rd t490 x27_1) == (rd l0 x27_1)) = false := beq_eq_false_iff_ne.mpr c35; have c35b1 : ((rd t490 x27_1) != (rd l0 x27_1)) = true := bne_iff_ne.mpr c35; exact absurd H (by simp)
            ·
             rw [if_neg c26] at H; have c26b0 : decide (a1_4 < 1000) = false := decide_eq_false c26; clear c26
             by_cases c37 : (rd t490 x27_1) = (rd l0 x27_1)
             ·
              rw [if_pos c37] at H; have c37b0 : ((rd t490 x27_1) == (rd l0 x27_1)) = true := beq_iff_eq.mpr c37; have c37b1 : ((rd t490 x27_1) != (rd l0 x27_1)) = false := bne_eq_false_iff_eq.mpr c37; clear c37; have H' := Aside0.mk H; clear H; have p493 : 0 ≤ (x27_1 : Int) := of_decide_eq_true (by first | (with_reducible assumption) | assumption); have q493 : x27_1 < (t490.length : Int) := of_decide_eq_true (by first | (with_reducible assumption) | assumption); obtain ⟨ad493, e493, hx493_0⟩ := Kd.at_int (Kd.R_reads' HO_25.out).2.2 x27_1 p493 q493
              cases e493
              replace p493 := eq_true p493; replace q493 := eq_true q493; have hcz38_0 : wr.cell? ⟨gb484, 0, none⟩ = some (.int .i64 a1_0) := (bC BK484.out 0).trans rfl; have hcz38_1 : wr.cell? ⟨gb484, 1, none⟩ = some (.int .i64 a1_1) := (bC BK484.out 1).trans rfl; have hcz38_2 : wr.cell? ⟨gb484, 2, none⟩ = some (.int .i64 a1_2) := (bC BK484.out 2).trans rfl; have hcz38_3 : wr.cell? ⟨gb484, 3, none⟩ = some (.int .i64 a1_3) := (bC BK484.out 3).trans rfl; have hcz38_4 : wr.cell? ⟨gb484, 4, none⟩ = some (.int .i64 a1_4) := (bC BK484.out 4).trans rfl; have hcz38_5 : wr.cell? ⟨gb484, 5, none⟩ = some (.slice A1_5 l1_5.length c1_5) := (bC BK484.out 5).trans rfl; have hfz38_0 := bZ BK484.out 0; have hfz38_1 := bZ BK484.out 1; have hfz38_2 := bZ BK484.out 2; have hfz38_3 := bZ BK484.out 3; have hfz38_4 := bZ BK484.out 4; have hfz38_5 := bZ BK484.out 5; have p494 : 0 ≤ (x27_1 : Int) := of_decide_eq_true (by first | (with_reducible assumption) | assumption); have q494 : x27_1 < (l0.length : Int) := of_decide_eq_true (by first | (with_reducible assumption) | assumption); obtain ⟨ad494, e494, hx494_0⟩ := Kd.at_int HR0.out x27_1 p494 q494
              cases e494
              replace hx494_0 := (HB.out.cell (World.block_lt_of_cell? w _ hx494_0)).trans hx494_0; replace p494 := eq_true p494; replace q494 := eq_true q494
              go_wp2
              go_roundg k1
              case measure => have := HK1.out; omega
              case rel => exact ⟨(wrap64 (x27_1 + 1)), (by first | rfl | (simp; done) | (simp [*]; done)), H', ⟨by have := HK1.out; omega⟩, ⟨by (with_reducible repeat (first | apply Kd.R_alloc | apply Kd.R_drewN | apply Kd.R_drew)); exact HO_25.out⟩, ⟨by (with_reducible repeat (first | apply Kd.V_alloc | apply Kd.V_drewN | apply Kd.V_drew)); exact HO_485005.out⟩, ⟨by (with_reducible repeat (first | refine bN ?_ _ | refine bD ?_ | refine bA ?_ _)); exact BK484.out⟩, ⟨by repeat (first | (with_reducible first | exact HB.out | apply wA | apply wN | apply wD | refine wS ?_ GE484.out) | exact HB.out)⟩⟩
             ·
              rw [if_neg c37] at H; have c37b0 : ((rd t490 x27_1) == (rd l0 x27_1)) = false := beq_eq_false_iff_ne.mpr c37; have c37b1 : ((rd t490 x27_1) != (rd l0 x27_1)) = true := bne_iff_ne.mpr c37; exact absurd H (by simp)
           ·
            rw [if_neg c25] at H; have c25b0 : decide ((-1000) < a1_4) = false := decide_eq_false c25; clear c25
            by_cases c39 : (rd t490 x27_1) = (rd l0 x27_1)
            ·
             rw [if_pos c39] at H; have c39b0 : ((rd t490 x27_1) == (rd l0 x27_1)) = true := beq_iff_eq.mpr c39; have c39b1 : ((rd t490 x27_1) != (rd l0 x27_1)) = false := bne_eq_false_iff_eq.mpr c39; clear c39; have H' := Aside0.mk H; clear H; have p493 : 0 ≤ (x27_1 : Int) := of_decide_eq_true (by first | (with_reducible assumption) | assumption); have q493 : x27_1 < (t490.length : Int) := of_decide_eq_true (by first | (with_reducible assumption) | assumption); obtain ⟨ad493, e493, hx493_0⟩ := Kd.at_int (Kd.R_reads' HO_25.out).2.2 x27_1 p493 q493
             cases e493
             replace p493 := eq_true p493; replace q493 := eq_true q493; have hcz40_0 : wr.cell? ⟨gb484, 0, none⟩ = some (.int .i64 a1_0) := (bC BK484.out 0).trans rfl; have hcz40_1 : wr.cell? ⟨gb484, 1, none⟩ = some (.int .i64 a1_1) := (bC BK484.out 1).trans rfl; have hcz40_2 : wr.cell? ⟨gb484, 2, none⟩ = some (.int .i64 a1_2) := (bC BK484.out 2).trans rfl; have hcz40_3 : wr.cell? ⟨gb484, 3, none⟩ = some (.int .i64 a1_3) := (bC BK484.out 3).trans rfl; have hcz40_4 : wr.cell? ⟨gb484, 4, none⟩ = some (.int .i64 a1_4) := (bC BK484.out 4).trans rfl; have hcz40_5 : wr.cell? ⟨gb484, 5, none⟩ = some (.slice A1_5 l1_5.length c1_5) := (bC BK484.out 5).trans rfl; have hfz40_0 := bZ BK484.out 0; have hfz40_1 := bZ BK484.out 1; have hfz40_2 := bZ BK484.out 2; have hfz40_3 := bZ BK484.out 3; have hfz40_4 := bZ BK484.out 4; have hfz40_5 := bZ BK484.out 5; have p494 : 0 ≤ (x27_1 : Int) := of_decide_eq_true (by first | (with_reducible assumption) | assumption); have q494 : x27_1 < (l0.length : Int) := of_decide_eq_true (by first | (with_reducible assumption) | assumption); obtain ⟨ad494, e494, hx494_0⟩ := Kd.at_int HR0.out x27_1 p494 q494
             cases e494
             replace hx494_0 := (HB.out.cell (World.block_lt_of_cell? w _ hx494_0)).trans hx494_0; replace p494 := eq_true p494; replace q494 := eq_true q494
             go_wp2
             go_roundg k1
             case measure => have := HK1.out; omega
             case rel => exact ⟨(wrap64 (x27_1 + 1)), (by first | rfl | (simp; done) | (simp [*]; done)), H', ⟨by have := HK1.out; omega⟩, ⟨by (with_reducible repeat (first | apply Kd.R_alloc | apply Kd.R_drewN | apply Kd.R_drew)); exact HO_25.out⟩, ⟨by (with_reducible repeat (first | apply Kd.V_alloc | apply Kd.V_drewN | apply Kd.V_drew)); exact HO_485005.out⟩, ⟨by (with_reducible repeat (first | refine bN ?_ _ | refine bD ?_ | refine bA ?_ _)); exact BK484.out⟩, ⟨by repeat (first | (with_reducible first | exact HB.out | apply wA | apply wN | apply wD | refine wS ?_ GE484.out) | exact HB.out)⟩⟩
            ·
             rw [if_neg c39] at H; have c39b0 : ((rd t490 x27_1) == (rd l0 x27_1)) = false := beq_eq_false_iff_ne.mpr c39; have c39b1 : ((rd t490 x27_1) != (rd l0 x27_1)) = true := bne_iff_ne.mpr c39; exact absurd H (by simp)
          ·
           rw [if_neg c24] at H; have c24b0 : decide (x27_1 < a1_3) = false := decide_eq_false c24; clear c24
           by_cases c41 : a1_4 > (-1000)
           ·
            rw [if_pos c41] at H; have c41b0 : decide ((-1000) < a1_4) = true := decide_eq_true c41; clear c41
            by_cases c42 : a1_4 < 1000
            ·
             rw [if_pos c42] at H; have c42b0 : decide (a1_4 < 1000) = true := decide_eq_true c42; clear c42
             by_cases c43 : x27_1 ≥ a1_4
             ·
              rw [if_pos c43] at H; have c43b0 : decide (a1_4 ≤ x27_1) = true := decide_eq_true c43; clear c43
              by_cases c44 : (wrap64 (x27_1 - a1_4)) < (l1_5.length : Int)
              ·
               rw [if_pos c44] at H; have c44b0 : decide ((wrap64 (x27_1 - a1_4)) < (l1_5.length : Int)) = true := decide_eq_true c44; clear c44; obtain ⟨ji45, hji45⟩ : ∃ j_ : Int, (wrap64 (x27_1 - a1_4)) = j_ := ⟨_, rfl⟩
               replace H : (if 0 ≤ (ji45) then (if (rd t490 x27_1) = (rd l1_5 (ji45)) then (potsherdlaw20_FileMakes.l0 k1 l0 t490 (t490.length : Int) (wrap64 (x27_1 + 1)) a1_0 a1_1 a1_2 a1_3 a1_4 l1_5) else (some false)) else (none)) = some true := by first | (rw [hji45] at H; exact H) | (simp only [hji45] at H ⊢; exact H)
               (try rw [hji45] at c44b0)
               have hji45w : (IntKind.i64.wrap (x27_1 - a1_4)) = ji45 := (i64_w _).trans hji45
               by_cases c46 : 0 ≤ (ji45)
               ·
                rw [if_pos c46] at H; have c46b0 : decide (0 ≤ (ji45)) = true := decide_eq_true c46; clear c46
                by_cases c47 : (rd t490 x27_1) = (rd l1_5 (ji45))
                ·
                 rw [if_pos c47] at H; have c47b0 : ((rd t490 x27_1) == (rd l1_5 (ji45))) = true := beq_iff_eq.mpr c47; have c47b1 : ((rd t490 x27_1) != (rd l1_5 (ji45))) = false := bne_eq_false_iff_eq.mpr c47; clear c47; have H' := Aside0.mk H; clear H; have p493 : 0 ≤ (x27_1 : Int) := of_decide_eq_true (by first | (with_reducible assumption) | assumption); have q493 : x27_1 < (t490.length : Int) := of_decide_eq_true (by first | (with_reducible assumption) | assumption); obtain ⟨ad493, e493, hx493_0⟩ := Kd.at_int (Kd.R_reads' HO_25.out).2.2 x27_1 p493 q493
                 cases e493
                 replace p493 := eq_true p493; replace q493 := eq_true q493; have hcz48_0 : wr.cell? ⟨gb484, 0, none⟩ = some (.int .i64 a1_0) := (bC BK484.out 0).trans rfl; have hcz48_1 : wr.cell? ⟨gb484, 1, none⟩ = some (.int .i64 a1_1) := (bC BK484.out 1).trans rfl; have hcz48_2 : wr.cell? ⟨gb484, 2, none⟩ = some (.int .i64 a1_2) := (bC BK484.out 2).trans rfl; have hcz48_3 : wr.cell? ⟨gb484, 3, none⟩ = some (.int .i64 a1_3) := (bC BK484.out 3).trans rfl; have hcz48_4 : wr.cell? ⟨gb484, 4, none⟩ = some (.int .i64 a1_4) := (bC BK484.out 4).trans rfl; have hcz48_5 : wr.cell? ⟨gb484, 5, none⟩ = some (.slice A1_5 l1_5.length c1_5) := (bC BK484.out 5).trans rfl; have hfz48_0 := bZ BK484.out 0; have hfz48_1 := bZ BK484.out 1; have hfz48_2 := bZ BK484.out 2; have hfz48_3 := bZ BK484.out 3; have hfz48_4 := bZ BK484.out 4; have hfz48_5 := bZ BK484.out 5; have p496 : 0 ≤ ((ji45) : Int) := of_decide_eq_true (by first | (with_reducible assumption) | assumption); have q496 : (ji45) < (l1_5.length : Int) := of_decide_eq_true (by first | (with_reducible assumption) | assumption); obtain ⟨ad496, e496, hx496_0⟩ := Kd.at_int (Kd.V_reads' HO_485005.out).2.2 (ji45) p496 q496
                 cases e496
                 replace p496 := eq_true p496; replace q496 := eq_true q496
                 go_wp2
                 go_roundg k1
                 case measure => have := HK1.out; omega
                 case rel => exact ⟨(wrap64 (x27_1 + 1)), (by first | rfl | (simp; done) | (simp [*]; done)), H', ⟨by have := HK1.out; omega⟩, ⟨by (with_reducible repeat (first | apply Kd.R_alloc | apply Kd.R_drewN | apply Kd.R_drew)); exact HO_25.out⟩, ⟨by (with_reducible repeat (first | apply Kd.V_alloc | apply Kd.V_drewN | apply Kd.V_drew)); exact HO_485005.out⟩, ⟨by (with_reducible repeat (first | refine bN ?_ _ | refine bD ?_ | refine bA ?_ _)); exact BK484.out⟩, ⟨by repeat (first | (with_reducible first | exact HB.out | apply wA | apply wN | apply wD | refine wS ?_ GE484.out) | exact HB.out)⟩⟩
                ·
                 rw [if_neg c47] at H; have c47b0 : ((rd t490 x27_1) == (rd l1_5 (ji45))) = false := beq_eq_false_iff_ne.mpr c47; have c47b1 : ((rd t490 x27_1) != (rd l1_5 (ji45))) = true := bne_iff_ne.mpr c47; exact absurd H (by simp)
               ·
                rw [if_neg c46] at H; exact absurd H (by simp)
              ·
               rw [if_neg c44] at H; have c44b0 : decide ((wrap64 (x27_1 - a1_4)) < (l1_5.length : Int)) = false := decide_eq_false c44; clear c44
               by_cases c49 : (rd t490 x27_1) = 0
               ·
                rw [if_pos c49] at H; have c49b0 : ((rd t490 x27_1) == 0) = true := beq_iff_eq.mpr c49; have c49b1 : ((rd t490 x27_1) != 0) = false := bne_eq_false_iff_eq.mpr c49; clear c49; have H' := Aside0.mk H; clear H; have p493 : 0 ≤ (x27_1 : Int) := of_decide_eq_true (by first | (with_reducible assumption) | assumption); have q493 : x27_1 < (t490.length : Int) := of_decide_eq_true (by first | (with_reducible assumption) | assumption); obtain ⟨ad493, e493, hx493_0⟩ := Kd.at_int (Kd.R_reads' HO_25.out).2.2 x27_1 p493 q493
                cases e493
                replace p493 := eq_true p493; replace q493 := eq_true q493; have hcz50_0 : wr.cell? ⟨gb484, 0, none⟩ = some (.int .i64 a1_0) := (bC BK484.out 0).trans rfl; have hcz50_1 : wr.cell? ⟨gb484, 1, none⟩ = some (.int .i64 a1_1) := (bC BK484.out 1).trans rfl; have hcz50_2 : wr.cell? ⟨gb484, 2, none⟩ = some (.int .i64 a1_2) := (bC BK484.out 2).trans rfl; have hcz50_3 : wr.cell? ⟨gb484, 3, none⟩ = some (.int .i64 a1_3) := (bC BK484.out 3).trans rfl; have hcz50_4 : wr.cell? ⟨gb484, 4, none⟩ = some (.int .i64 a1_4) := (bC BK484.out 4).trans rfl; have hcz50_5 : wr.cell? ⟨gb484, 5, none⟩ = some (.slice A1_5 l1_5.length c1_5) := (bC BK484.out 5).trans rfl; have hfz50_0 := bZ BK484.out 0; have hfz50_1 := bZ BK484.out 1; have hfz50_2 := bZ BK484.out 2; have hfz50_3 := bZ BK484.out 3; have hfz50_4 := bZ BK484.out 4; have hfz50_5 := bZ BK484.out 5
                go_wp2
                go_roundg k1
                case measure => have := HK1.out; omega
                case rel => exact ⟨(wrap64 (x27_1 + 1)), (by first | rfl | (simp; done) | (simp [*]; done)), H', ⟨by have := HK1.out; omega⟩, ⟨by (with_reducible repeat (first | apply Kd.R_alloc | apply Kd.R_drewN | apply Kd.R_drew)); exact HO_25.out⟩, ⟨by (with_reducible repeat (first | apply Kd.V_alloc | apply Kd.V_drewN | apply Kd.V_drew)); exact HO_485005.out⟩, ⟨by (with_reducible repeat (first | refine bN ?_ _ | refine bD ?_ | refine bA ?_ _)); exact BK484.out⟩, ⟨by repeat (first | (with_reducible first | exact HB.out | apply wA | apply wN | apply wD | refine wS ?_ GE484.out) | exact HB.out)⟩⟩
               ·
                rw [if_neg c49] at H; have c49b0 : ((rd t490 x27_1) == 0) = false := beq_eq_false_iff_ne.mpr c49; have c49b1 : ((rd t490 x27_1) != 0) = true := bne_iff_ne.mpr c49; exact absurd H (by simp)
             ·
              rw [if_neg c43] at H; have c43b0 : decide (a1_4 ≤ x27_1) = false := decide_eq_false c43; clear c43
              by_cases c51 : (rd t490 x27_1) = 0
              ·
               rw [if_pos c51] at H; have c51b0 : ((rd t490 x27_1) == 0) = true := beq_iff_eq.mpr c51; have c51b1 : ((rd t490 x27_1) != 0) = false := bne_eq_false_iff_eq.mpr c51; clear c51; have H' := Aside0.mk H; clear H; have p493 : 0 ≤ (x27_1 : Int) := of_decide_eq_true (by first | (with_reducible assumption) | assumption); have q493 : x27_1 < (t490.length : Int) := of_decide_eq_true (by first | (with_reducible assumption) | assumption); obtain ⟨ad493, e493, hx493_0⟩ := Kd.at_int (Kd.R_reads' HO_25.out).2.2 x27_1 p493 q493
               cases e493
               replace p493 := eq_true p493; replace q493 := eq_true q493; have hcz52_0 : wr.cell? ⟨gb484, 0, none⟩ = some (.int .i64 a1_0) := (bC BK484.out 0).trans rfl; have hcz52_1 : wr.cell? ⟨gb484, 1, none⟩ = some (.int .i64 a1_1) := (bC BK484.out 1).trans rfl; have hcz52_2 : wr.cell? ⟨gb484, 2, none⟩ = some (.int .i64 a1_2) := (bC BK484.out 2).trans rfl; have hcz52_3 : wr.cell? ⟨gb484, 3, none⟩ = some (.int .i64 a1_3) := (bC BK484.out 3).trans rfl; have hcz52_4 : wr.cell? ⟨gb484, 4, none⟩ = some (.int .i64 a1_4) := (bC BK484.out 4).trans rfl; have hcz52_5 : wr.cell? ⟨gb484, 5, none⟩ = some (.slice A1_5 l1_5.length c1_5) := (bC BK484.out 5).trans rfl; have hfz52_0 := bZ BK484.out 0; have hfz52_1 := bZ BK484.out 1; have hfz52_2 := bZ BK484.out 2; have hfz52_3 := bZ BK484.out 3; have hfz52_4 := bZ BK484.out 4; have hfz52_5 := bZ BK484.out 5
               go_wp2
               go_roundg k1
               case measure => have := HK1.out; omega
               case rel => exact ⟨(wrap64 (x27_1 + 1)), (by first | rfl | (simp; done) | (simp [*]; done)), H', ⟨by have := HK1.out; omega⟩, ⟨by (with_reducible repeat (first | apply Kd.R_alloc | apply Kd.R_drewN | apply Kd.R_drew)); exact HO_25.out⟩, ⟨by (with_reducible repeat (first | apply Kd.V_alloc | apply Kd.V_drewN | apply Kd.V_drew)); exact HO_485005.out⟩, ⟨by (with_reducible repeat (first | refine bN ?_ _ | refine bD ?_ | refine bA ?_ _)); exact BK484.out⟩, ⟨by repeat (first | (with_reducible first | exact HB.out | apply wA | apply wN | apply wD | refine wS ?_ GE484.out) | exact HB.out)⟩⟩
              ·
               rw [if_neg c51] at H; have c51b0 : ((rd t490 x27_1) == 0) = false := beq_eq_false_iff_ne.mpr c51; have c51b1 : ((rd t490 x27_1) != 0) = true := bne_iff_ne.mpr c51; exact absurd H (by simp)
            ·
             rw [if_neg c42] at H; have c42b0 : decide (a1_4 < 1000) = false := decide_eq_false c42; clear c42
             by_cases c53 : (rd t490 x27_1) = 0
             ·
              rw [if_pos c53] at H; have c53b0 : ((rd t490 x27_1) == 0) = true := beq_iff_eq.mpr c53; have c53b1 : ((rd t490 x27_1) != 0) = false := bne_eq_false_iff_eq.mpr c53; clear c53; have H' := Aside0.mk H; clear H; have p493 : 0 ≤ (x27_1 : Int) := of_decide_eq_true (by first | (with_reducible assumption) | assumption); have q493 : x27_1 < (t490.length : Int) := of_decide_eq_true (by first | (with_reducible assumption) | assumption); obtain ⟨ad493, e493, hx493_0⟩ := Kd.at_int (Kd.R_reads' HO_25.out).2.2 x27_1 p493 q493
              cases e493
              replace p493 := eq_true p493; replace q493 := eq_true q493; have hcz54_0 : wr.cell? ⟨gb484, 0, none⟩ = some (.int .i64 a1_0) := (bC BK484.out 0).trans rfl; have hcz54_1 : wr.cell? ⟨gb484, 1, none⟩ = some (.int .i64 a1_1) := (bC BK484.out 1).trans rfl; have hcz54_2 : wr.cell? ⟨gb484, 2, none⟩ = some (.int .i64 a1_2) := (bC BK484.out 2).trans rfl; have hcz54_3 : wr.cell? ⟨gb484, 3, none⟩ = some (.int .i64 a1_3) := (bC BK484.out 3).trans rfl; have hcz54_4 : wr.cell? ⟨gb484, 4, none⟩ = some (.int .i64 a1_4) := (bC BK484.out 4).trans rfl; have hcz54_5 : wr.cell? ⟨gb484, 5, none⟩ = some (.slice A1_5 l1_5.length c1_5) := (bC BK484.out 5).trans rfl; have hfz54_0 := bZ BK484.out 0; have hfz54_1 := bZ BK484.out 1; have hfz54_2 := bZ BK484.out 2; have hfz54_3 := bZ BK484.out 3; have hfz54_4 := bZ BK484.out 4; have hfz54_5 := bZ BK484.out 5
              go_wp2
              go_roundg k1
              case measure => have := HK1.out; omega
              case rel => exact ⟨(wrap64 (x27_1 + 1)), (by first | rfl | (simp; done) | (simp [*]; done)), H', ⟨by have := HK1.out; omega⟩, ⟨by (with_reducible repeat (first | apply Kd.R_alloc | apply Kd.R_drewN | apply Kd.R_drew)); exact HO_25.out⟩, ⟨by (with_reducible repeat (first | apply Kd.V_alloc | apply Kd.V_drewN | apply Kd.V_drew)); exact HO_485005.out⟩, ⟨by (with_reducible repeat (first | refine bN ?_ _ | refine bD ?_ | refine bA ?_ _)); exact BK484.out⟩, ⟨by repeat (first | (with_reducible first | exact HB.out | apply wA | apply wN | apply wD | refine wS ?_ GE484.out) | exact HB.out)⟩⟩
             ·
              rw [if_neg c53] at H; have c53b0 : ((rd t490 x27_1) == 0) = false := beq_eq_false_iff_ne.mpr c53; have c53b1 : ((rd t490 x27_1) != 0) = true := bne_iff_ne.mpr c53; exact absurd H (by simp)
           ·
            rw [if_neg c41] at H; have c41b0 : decide ((-1000) < a1_4) = false := decide_eq_false c41; clear c41
            by_cases c55 : (rd t490 x27_1) = 0
            ·
             rw [if_pos c55] at H; have c55b0 : ((rd t490 x27_1) == 0) = true := beq_iff_eq.mpr c55; have c55b1 : ((rd t490 x27_1) != 0) = false := bne_eq_false_iff_eq.mpr c55; clear c55; have H' := Aside0.mk H; clear H; have p493 : 0 ≤ (x27_1 : Int) := of_decide_eq_true (by first | (with_reducible assumption) | assumption); have q493 : x27_1 < (t490.length : Int) := of_decide_eq_true (by first | (with_reducible assumption) | assumption); obtain ⟨ad493, e493, hx493_0⟩ := Kd.at_int (Kd.R_reads' HO_25.out).2.2 x27_1 p493 q493
             cases e493
             replace p493 := eq_true p493; replace q493 := eq_true q493; have hcz56_0 : wr.cell? ⟨gb484, 0, none⟩ = some (.int .i64 a1_0) := (bC BK484.out 0).trans rfl; have hcz56_1 : wr.cell? ⟨gb484, 1, none⟩ = some (.int .i64 a1_1) := (bC BK484.out 1).trans rfl; have hcz56_2 : wr.cell? ⟨gb484, 2, none⟩ = some (.int .i64 a1_2) := (bC BK484.out 2).trans rfl; have hcz56_3 : wr.cell? ⟨gb484, 3, none⟩ = some (.int .i64 a1_3) := (bC BK484.out 3).trans rfl; have hcz56_4 : wr.cell? ⟨gb484, 4, none⟩ = some (.int .i64 a1_4) := (bC BK484.out 4).trans rfl; have hcz56_5 : wr.cell? ⟨gb484, 5, none⟩ = some (.slice A1_5 l1_5.length c1_5) := (bC BK484.out 5).trans rfl; have hfz56_0 := bZ BK484.out 0; have hfz56_1 := bZ BK484.out 1; have hfz56_2 := bZ BK484.out 2; have hfz56_3 := bZ BK484.out 3; have hfz56_4 := bZ BK484.out 4; have hfz56_5 := bZ BK484.out 5
             go_wp2
             go_roundg k1
             case measure => have := HK1.out; omega
             case rel => exact ⟨(wrap64 (x27_1 + 1)), (by first | rfl | (simp; done) | (simp [*]; done)), H', ⟨by have := HK1.out; omega⟩, ⟨by (with_reducible repeat (first | apply Kd.R_alloc | apply Kd.R_drewN | apply Kd.R_drew)); exact HO_25.out⟩, ⟨by (with_reducible repeat (first | apply Kd.V_alloc | apply Kd.V_drewN | apply Kd.V_drew)); exact HO_485005.out⟩, ⟨by (with_reducible repeat (first | refine bN ?_ _ | refine bD ?_ | refine bA ?_ _)); exact BK484.out⟩, ⟨by repeat (first | (with_reducible first | exact HB.out | apply wA | apply wN | apply wD | refine wS ?_ GE484.out) | exact HB.out)⟩⟩
            ·
             rw [if_neg c55] at H; have c55b0 : ((rd t490 x27_1) == 0) = false := beq_eq_false_iff_ne.mpr c55; have c55b1 : ((rd t490 x27_1) != 0) = true := bne_iff_ne.mpr c55; exact absurd H (by simp)
         ·
          rw [if_neg c23] at H; have c23b0 : decide (x27_1 < (l0.length : Int)) = false := decide_eq_false c23; clear c23
          by_cases c57 : a1_4 > (-1000)
          ·
           rw [if_pos c57] at H; have c57b0 : decide ((-1000) < a1_4) = true := decide_eq_true c57; clear c57
           by_cases c58 : a1_4 < 1000
           ·
            rw [if_pos c58] at H; have c58b0 : decide (a1_4 < 1000) = true := decide_eq_true c58; clear c58
            by_cases c59 : x27_1 ≥ a1_4
            ·
             rw [if_pos c59] at H; have c59b0 : decide (a1_4 ≤ x27_1) = true := decide_eq_true c59; clear c59
             by_cases c60 : (wrap64 (x27_1 - a1_4)) < (l1_5.length : Int)
             ·
              rw [if_pos c60] at H; have c60b0 : decide ((wrap64 (x27_1 - a1_4)) < (l1_5.length : Int)) = true := decide_eq_true c60; clear c60; obtain ⟨ji61, hji61⟩ : ∃ j_ : Int, (wrap64 (x27_1 - a1_4)) = j_ := ⟨_, rfl⟩
              replace H : (if 0 ≤ (ji61) then (if (rd t490 x27_1) = (rd l1_5 (ji61)) then (potsherdlaw20_FileMakes.l0 k1 l0 t490 (t490.length : Int) (wrap64 (x27_1 + 1)) a1_0 a1_1 a1_2 a1_3 a1_4 l1_5) else (some false)) else (none)) = some true := by first | (rw [hji61] at H; exact H) | (simp only [hji61] at H ⊢; exact H)
              (try rw [hji61] at c60b0)
              have hji61w : (IntKind.i64.wrap (x27_1 - a1_4)) = ji61 := (i64_w _).trans hji61
              by_cases c62 : 0 ≤ (ji61)
              ·
               rw [if_pos c62] at H; have c62b0 : decide (0 ≤ (ji61)) = true := decide_eq_true c62; clear c62
               by_cases c63 : (rd t490 x27_1) = (rd l1_5 (ji61))
               ·
                rw [if_pos c63] at H; have c63b0 : ((rd t490 x27_1) == (rd l1_5 (ji61))) = true := beq_iff_eq.mpr c63; have c63b1 : ((rd t490 x27_1) != (rd l1_5 (ji61))) = false := bne_eq_false_iff_eq.mpr c63; clear c63; have H' := Aside0.mk H; clear H; have p493 : 0 ≤ (x27_1 : Int) := of_decide_eq_true (by first | (with_reducible assumption) | assumption); have q493 : x27_1 < (t490.length : Int) := of_decide_eq_true (by first | (with_reducible assumption) | assumption); obtain ⟨ad493, e493, hx493_0⟩ := Kd.at_int (Kd.R_reads' HO_25.out).2.2 x27_1 p493 q493
                cases e493
                replace p493 := eq_true p493; replace q493 := eq_true q493; have hcz64_0 : wr.cell? ⟨gb484, 0, none⟩ = some (.int .i64 a1_0) := (bC BK484.out 0).trans rfl; have hcz64_1 : wr.cell? ⟨gb484, 1, none⟩ = some (.int .i64 a1_1) := (bC BK484.out 1).trans rfl; have hcz64_2 : wr.cell? ⟨gb484, 2, none⟩ = some (.int .i64 a1_2) := (bC BK484.out 2).trans rfl; have hcz64_3 : wr.cell? ⟨gb484, 3, none⟩ = some (.int .i64 a1_3) := (bC BK484.out 3).trans rfl; have hcz64_4 : wr.cell? ⟨gb484, 4, none⟩ = some (.int .i64 a1_4) := (bC BK484.out 4).trans rfl; have hcz64_5 : wr.cell? ⟨gb484, 5, none⟩ = some (.slice A1_5 l1_5.length c1_5) := (bC BK484.out 5).trans rfl; have hfz64_0 := bZ BK484.out 0; have hfz64_1 := bZ BK484.out 1; have hfz64_2 := bZ BK484.out 2; have hfz64_3 := bZ BK484.out 3; have hfz64_4 := bZ BK484.out 4; have hfz64_5 := bZ BK484.out 5; have p497 : 0 ≤ ((ji61) : Int) := of_decide_eq_true (by first | (with_reducible assumption) | assumption); have q497 : (ji61) < (l1_5.length : Int) := of_decide_eq_true (by first | (with_reducible assumption) | assumption); obtain ⟨ad497, e497, hx497_0⟩ := Kd.at_int (Kd.V_reads' HO_485005.out).2.2 (ji61) p497 q497
                cases e497
                replace p497 := eq_true p497; replace q497 := eq_true q497
                go_wp2
                go_roundg k1
                case measure => have := HK1.out; omega
                case rel => exact ⟨(wrap64 (x27_1 + 1)), (by first | rfl | (simp; done) | (simp [*]; done)), H', ⟨by have := HK1.out; omega⟩, ⟨by (with_reducible repeat (first | apply Kd.R_alloc | apply Kd.R_drewN | apply Kd.R_drew)); exact HO_25.out⟩, ⟨by (with_reducible repeat (first | apply Kd.V_alloc | apply Kd.V_drewN | apply Kd.V_drew)); exact HO_485005.out⟩, ⟨by (with_reducible repeat (first | refine bN ?_ _ | refine bD ?_ | refine bA ?_ _)); exact BK484.out⟩, ⟨by repeat (first | (with_reducible first | exact HB.out | apply wA | apply wN | apply wD | refine wS ?_ GE484.out) | exact HB.out)⟩⟩
               ·
                rw [if_neg c63] at H; have c63b0 : ((rd t490 x27_1) == (rd l1_5 (ji61))) = false := beq_eq_false_iff_ne.mpr c63; have c63b1 : ((rd t490 x27_1) != (rd l1_5 (ji61))) = true := bne_iff_ne.mpr c63; exact absurd H (by simp)
              ·
               rw [if_neg c62] at H; exact absurd H (by simp)
             ·
              rw [if_neg c60] at H; have c60b0 : decide ((wrap64 (x27_1 - a1_4)) < (l1_5.length : Int)) = false := decide_eq_false c60; clear c60
              by_cases c65 : (rd t490 x27_1) = 0
              ·
               rw [if_pos c65] at H; have c65b0 : ((rd t490 x27_1) == 0) = true := beq_iff_eq.mpr c65; have c65b1 : ((rd t490 x27_1) != 0) = false := bne_eq_false_iff_eq.mpr c65; clear c65; have H' := Aside0.mk H; clear H; have p493 : 0 ≤ (x27_1 : Int) := of_decide_eq_true (by first | (with_reducible assumption) | assumption); have q493 : x27_1 < (t490.length : Int) := of_decide_eq_true (by first | (with_reducible assumption) | assumption); obtain ⟨ad493, e493, hx493_0⟩ := Kd.at_int (Kd.R_reads' HO_25.out).2.2 x27_1 p493 q493
               cases e493
               replace p493 := eq_true p493; replace q493 := eq_true q493; have hcz66_0 : wr.cell? ⟨gb484, 0, none⟩ = some (.int .i64 a1_0) := (bC BK484.out 0).trans rfl; have hcz66_1 : wr.cell? ⟨gb484, 1, none⟩ = some (.int .i64 a1_1) := (bC BK484.out 1).trans rfl; have hcz66_2 : wr.cell? ⟨gb484, 2, none⟩ = some (.int .i64 a1_2) := (bC BK484.out 2).trans rfl; have hcz66_3 : wr.cell? ⟨gb484, 3, none⟩ = some (.int .i64 a1_3) := (bC BK484.out 3).trans rfl; have hcz66_4 : wr.cell? ⟨gb484, 4, none⟩ = some (.int .i64 a1_4) := (bC BK484.out 4).trans rfl; have hcz66_5 : wr.cell? ⟨gb484, 5, none⟩ = some (.slice A1_5 l1_5.length c1_5) := (bC BK484.out 5).trans rfl; have hfz66_0 := bZ BK484.out 0; have hfz66_1 := bZ BK484.out 1; have hfz66_2 := bZ BK484.out 2; have hfz66_3 := bZ BK484.out 3; have hfz66_4 := bZ BK484.out 4; have hfz66_5 := bZ BK484.out 5
               go_wp2
               go_roundg k1
               case measure => have := HK1.out; omega
               case rel => exact ⟨(wrap64 (x27_1 + 1)), (by first | rfl | (simp; done) | (simp [*]; done)), H', ⟨by have := HK1.out; omega⟩, ⟨by (with_reducible repeat (first | apply Kd.R_alloc | apply Kd.R_drewN | apply Kd.R_drew)); exact HO_25.out⟩, ⟨by (with_reducible repeat (first | apply Kd.V_alloc | apply Kd.V_drewN | apply Kd.V_drew)); exact HO_485005.out⟩, ⟨by (with_reducible repeat (first | refine bN ?_ _ | refine bD ?_ | refine bA ?_ _)); exact BK484.out⟩, ⟨by repeat (first | (with_reducible first | exact HB.out | apply wA | apply wN | apply wD | refine wS ?_ GE484.out) | exact HB.out)⟩⟩
              ·
               rw [if_neg c65] at H; have c65b0 : ((rd t490 x27_1) == 0) = false := beq_eq_false_iff_ne.mpr c65; have c65b1 : ((rd t490 x27_1) != 0) = true := bne_iff_ne.mpr c65; exact absurd H (by simp)
            ·
             rw [if_neg c59] at H; have c59b0 : decide (a1_4 ≤ x27_1) = false := decide_eq_false c59; clear c59
             by_cases c67 : (rd t490 x27_1) = 0
             ·
              rw [if_pos c67] at H; have c67b0 : ((rd t490 x27_1) == 0) = true := beq_iff_eq.mpr c67; have c67b1 : ((rd t490 x27_1) != 0) = false := bne_eq_false_iff_eq.mpr c67; clear c67; have H' := Aside0.mk H; clear H; have p493 : 0 ≤ (x27_1 : Int) := of_decide_eq_true (by first | (with_reducible assumption) | assumption); have q493 : x27_1 < (t490.length : Int) := of_decide_eq_true (by first | (with_reducible assumption) | assumption); obtain ⟨ad493, e493, hx493_0⟩ := Kd.at_int (Kd.R_reads' HO_25.out).2.2 x27_1 p493 q493
              cases e493
              replace p493 := eq_true p493; replace q493 := eq_true q493; have hcz68_0 : wr.cell? ⟨gb484, 0, none⟩ = some (.int .i64 a1_0) := (bC BK484.out 0).trans rfl; have hcz68_1 : wr.cell? ⟨gb484, 1, none⟩ = some (.int .i64 a1_1) := (bC BK484.out 1).trans rfl; have hcz68_2 : wr.cell? ⟨gb484, 2, none⟩ = some (.int .i64 a1_2) := (bC BK484.out 2).trans rfl; have hcz68_3 : wr.cell? ⟨gb484, 3, none⟩ = some (.int .i64 a1_3) := (bC BK484.out 3).trans rfl; have hcz68_4 : wr.cell? ⟨gb484, 4, none⟩ = some (.int .i64 a1_4) := (bC BK484.out 4).trans rfl; have hcz68_5 : wr.cell? ⟨gb484, 5, none⟩ = some (.slice A1_5 l1_5.length c1_5) := (bC BK484.out 5).trans rfl; have hfz68_0 := bZ BK484.out 0; have hfz68_1 := bZ BK484.out 1; have hfz68_2 := bZ BK484.out 2; have hfz68_3 := bZ BK484.out 3; have hfz68_4 := bZ BK484.out 4; have hfz68_5 := bZ BK484.out 5
              go_wp2
              go_roundg k1
              case measure => have := HK1.out; omega
              case rel => exact ⟨(wrap64 (x27_1 + 1)), (by first | rfl | (simp; done) | (simp [*]; done)), H', ⟨by have := HK1.out; omega⟩, ⟨by (with_reducible repeat (first | apply Kd.R_alloc | apply Kd.R_drewN | apply Kd.R_drew)); exact HO_25.out⟩, ⟨by (with_reducible repeat (first | apply Kd.V_alloc | apply Kd.V_drewN | apply Kd.V_drew)); exact HO_485005.out⟩, ⟨by (with_reducible repeat (first | refine bN ?_ _ | refine bD ?_ | refine bA ?_ _)); exact BK484.out⟩, ⟨by repeat (first | (with_reducible first | exact HB.out | apply wA | apply wN | apply wD | refine wS ?_ GE484.out) | exact HB.out)⟩⟩
             ·
              rw [if_neg c67] at H; have c67b0 : ((rd t490 x27_1) == 0) = false := beq_eq_false_iff_ne.mpr c67; have c67b1 : ((rd t490 x27_1) != 0) = true := bne_iff_ne.mpr c67; exact absurd H (by simp)
           ·
            rw [if_neg c58] at H; have c58b0 : decide (a1_4 < 1000) = false := decide_eq_false c58; clear c58
            by_cases c69 : (rd t490 x27_1) = 0
            ·
             rw [if_pos c69] at H; have c69b0 : ((rd t490 x27_1) == 0) = true := beq_iff_eq.mpr c69; have c69b1 : ((rd t490 x27_1) != 0) = false := bne_eq_false_iff_eq.mpr c69; clear c69; have H' := Aside0.mk H; clear H; have p493 : 0 ≤ (x27_1 : Int) := of_decide_eq_true (by first | (with_reducible assumption) | assumption); have q493 : x27_1 < (t490.length : Int) := of_decide_eq_true (by first | (with_reducible assumption) | assumption); obtain ⟨ad493, e493, hx493_0⟩ := Kd.at_int (Kd.R_reads' HO_25.out).2.2 x27_1 p493 q493
             cases e493
             replace p493 := eq_true p493; replace q493 := eq_true q493; have hcz70_0 : wr.cell? ⟨gb484, 0, none⟩ = some (.int .i64 a1_0) := (bC BK484.out 0).trans rfl; have hcz70_1 : wr.cell? ⟨gb484, 1, none⟩ = some (.int .i64 a1_1) := (bC BK484.out 1).trans rfl; have hcz70_2 : wr.cell? ⟨gb484, 2, none⟩ = some (.int .i64 a1_2) := (bC BK484.out 2).trans rfl; have hcz70_3 : wr.cell? ⟨gb484, 3, none⟩ = some (.int .i64 a1_3) := (bC BK484.out 3).trans rfl; have hcz70_4 : wr.cell? ⟨gb484, 4, none⟩ = some (.int .i64 a1_4) := (bC BK484.out 4).trans rfl; have hcz70_5 : wr.cell? ⟨gb484, 5, none⟩ = some (.slice A1_5 l1_5.length c1_5) := (bC BK484.out 5).trans rfl; have hfz70_0 := bZ BK484.out 0; have hfz70_1 := bZ BK484.out 1; have hfz70_2 := bZ BK484.out 2; have hfz70_3 := bZ BK484.out 3; have hfz70_4 := bZ BK484.out 4; have hfz70_5 := bZ BK484.out 5
             go_wp2
             go_roundg k1
             case measure => have := HK1.out; omega
             case rel => exact ⟨(wrap64 (x27_1 + 1)), (by first | rfl | (simp; done) | (simp [*]; done)), H', ⟨by have := HK1.out; omega⟩, ⟨by (with_reducible repeat (first | apply Kd.R_alloc | apply Kd.R_drewN | apply Kd.R_drew)); exact HO_25.out⟩, ⟨by (with_reducible repeat (first | apply Kd.V_alloc | apply Kd.V_drewN | apply Kd.V_drew)); exact HO_485005.out⟩, ⟨by (with_reducible repeat (first | refine bN ?_ _ | refine bD ?_ | refine bA ?_ _)); exact BK484.out⟩, ⟨by repeat (first | (with_reducible first | exact HB.out | apply wA | apply wN | apply wD | refine wS ?_ GE484.out) | exact HB.out)⟩⟩
            ·
             rw [if_neg c69] at H; have c69b0 : ((rd t490 x27_1) == 0) = false := beq_eq_false_iff_ne.mpr c69; have c69b1 : ((rd t490 x27_1) != 0) = true := bne_iff_ne.mpr c69; exact absurd H (by simp)
          ·
           rw [if_neg c57] at H; have c57b0 : decide ((-1000) < a1_4) = false := decide_eq_false c57; clear c57
           by_cases c71 : (rd t490 x27_1) = 0
           ·
            rw [if_pos c71] at H; have c71b0 : ((rd t490 x27_1) == 0) = true := beq_iff_eq.mpr c71; have c71b1 : ((rd t490 x27_1) != 0) = false := bne_eq_false_iff_eq.mpr c71; clear c71; have H' := Aside0.mk H; clear H; have p493 : 0 ≤ (x27_1 : Int) := of_decide_eq_true (by first | (with_reducible assumption) | assumption); have q493 : x27_1 < (t490.length : Int) := of_decide_eq_true (by first | (with_reducible assumption) | assumption); obtain ⟨ad493, e493, hx493_0⟩ := Kd.at_int (Kd.R_reads' HO_25.out).2.2 x27_1 p493 q493
            cases e493
            replace p493 := eq_true p493; replace q493 := eq_true q493; have hcz72_0 : wr.cell? ⟨gb484, 0, none⟩ = some (.int .i64 a1_0) := (bC BK484.out 0).trans rfl; have hcz72_1 : wr.cell? ⟨gb484, 1, none⟩ = some (.int .i64 a1_1) := (bC BK484.out 1).trans rfl; have hcz72_2 : wr.cell? ⟨gb484, 2, none⟩ = some (.int .i64 a1_2) := (bC BK484.out 2).trans rfl; have hcz72_3 : wr.cell? ⟨gb484, 3, none⟩ = some (.int .i64 a1_3) := (bC BK484.out 3).trans rfl; have hcz72_4 : wr.cell? ⟨gb484, 4, none⟩ = some (.int .i64 a1_4) := (bC BK484.out 4).trans rfl; have hcz72_5 : wr.cell? ⟨gb484, 5, none⟩ = some (.slice A1_5 l1_5.length c1_5) := (bC BK484.out 5).trans rfl; have hfz72_0 := bZ BK484.out 0; have hfz72_1 := bZ BK484.out 1; have hfz72_2 := bZ BK484.out 2; have hfz72_3 := bZ BK484.out 3; have hfz72_4 := bZ BK484.out 4; have hfz72_5 := bZ BK484.out 5
            go_wp2
            go_roundg k1
            case measure => have := HK1.out; omega
            case rel => exact ⟨(wrap64 (x27_1 + 1)), (by first | rfl | (simp; done) | (simp [*]; done)), H', ⟨by have := HK1.out; omega⟩, ⟨by (with_reducible repeat (first | apply Kd.R_alloc | apply Kd.R_drewN | apply Kd.R_drew)); exact HO_25.out⟩, ⟨by (with_reducible repeat (first | apply Kd.V_alloc | apply Kd.V_drewN | apply Kd.V_drew)); exact HO_485005.out⟩, ⟨by (with_reducible repeat (first | refine bN ?_ _ | refine bD ?_ | refine bA ?_ _)); exact BK484.out⟩, ⟨by repeat (first | (with_reducible first | exact HB.out | apply wA | apply wN | apply wD | refine wS ?_ GE484.out) | exact HB.out)⟩⟩
           ·
            rw [if_neg c71] at H; have c71b0 : ((rd t490 x27_1) == 0) = false := beq_eq_false_iff_ne.mpr c71; have c71b1 : ((rd t490 x27_1) != 0) = true := bne_iff_ne.mpr c71; exact absurd H (by simp)
        ·
         rw [if_neg c22] at H; exact absurd H (by simp)
       ·
        rw [if_neg c21] at H; exact absurd H (by simp)
      ·
       rw [if_neg c20] at H; have c20b0 : decide (x27_1 < (t490.length : Int)) = false := decide_eq_false c20; clear c20; replace H := Option.bind_eq_some_iff.mp H; obtain ⟨t498, A730, H⟩ := H; replace H : (some t498) = some true := H; have A73 := Aside0.mk A730; clear A730; have HRET := Aside0.mk (Option.some.inj H); clear H
       go_wp2_with (first | ((with_reducible refine gate_callee (f := 33) rfl ?_); refine goesL_ (some 82) rfl rfl Try.func33 (by kernel_rfl) rfl #[] rfl (by (try simp only [List.map_toArray, List.map_cons, List.map_nil]); first | done | rfl | (simp only [List.length_drop, List.length_take]; rfl)) ?_; (with_reducible refine (potsherdlaw20_awake.calls k1  t498 _ A73.out).mono ?_); rintro e w74 ⟨rfl, hb⟩; refine ⟨_, rfl, ?_⟩; have n0_ := Aside0.mk (Kd.R_below (by (with_reducible repeat (first | apply Kd.R_alloc | apply Kd.R_drewN | apply Kd.R_drew)); exact HO_25.out) hb); have n1_ := Aside0.mk (Kd.V_below (by (with_reducible repeat (first | apply Kd.V_alloc | apply Kd.V_drewN | apply Kd.V_drew)); exact HO_485005.out) hb); have n2_ := Aside0.mk (bB (g := gb484) (o := .cells #[.int .i64 a1_0, .int .i64 a1_1, .int .i64 a1_2, .int .i64 a1_3, .int .i64 a1_4, .slice A1_5 l1_5.length c1_5] 60 (0, 0)) (by (with_reducible repeat (first | refine bN ?_ _ | refine bD ?_ | refine bA ?_ _)); exact BK484.out) hb); have n3_ := Aside0.mk (below_step (by repeat (first | (with_reducible first | exact HB.out | apply wA | apply wN | apply wD | refine wS ?_ GE484.out) | exact HB.out)) hb); clear HO_25; clear HO_485005; clear BK484; clear HB; have HO_25 := n0_; have HO_485005 := n1_; have BK484 := n2_; have HB := n3_; clear n0_ n1_ n2_ n3_; (try clear hb); (try clear hb2); (try clear hk); (try clear hi)))
       go_ret
       exact ⟨by first | rfl | exact congrArg (fun b_ => Ending.returned (Value.bool b_)) HRET.out | (rw [HRET.out]) | (simp [errW_none, errW_some] <;> rfl) | (simp [*, errW_none, errW_some] <;> rfl), by repeat (first | (with_reducible first | exact HB.out | apply wA | apply wN | apply wD | refine wS ?_ GE484.out) | exact HB.out)⟩
   ·
    rw [if_neg c10] at H; have c10b0 : ((t490.length : Int) == 16) = false := beq_eq_false_iff_ne.mpr c10; have c10b1 : ((t490.length : Int) != 16) = true := bne_iff_ne.mpr c10; exact absurd H (by simp)
  ·
   replace c8 := Bool.eq_false_iff.mpr c8; subst c8
   have H1 : ((potsherdlaw20_awake.f k).bind fun t499 => (some t499)) = some true := by rw [if_neg (show ¬ (false = true) by decide)] at H; exact H
   clear H; have H := H1; clear H1; replace H := Option.bind_eq_some_iff.mp H; obtain ⟨t499, A750, H⟩ := H; replace H : (some t499) = some true := H; have A75 := Aside0.mk A750; clear A750; have HRET := Aside0.mk (Option.some.inj H); clear H
   go_enter Try.func9, Try.ntmps9
   go_wp2_with (first | ((with_reducible refine gate_dst (N := 3) rfl ?_); (try (refine gate_guard (by rfl) ?_; dsimp only)); refine box_event ?hg (N := 3) ?hd (cs := #[.int .i64 a1_0, .int .i64 a1_1, .int .i64 a1_2, .int .i64 a1_3, .int .i64 a1_4, .slice A1_5 l1_5.length c1_5]) (t := 60) ?hr ?_; (case hd => rfl); (case hg => rfl); (case hr => first | (go_simp; done) | (go_simp; rfl)); intro gb484 hg w76 hbox hb; have n0_ := Aside0.mk (Kd.V_below (Kd.V_elderB (by (with_reducible repeat (first | apply Kd.V_alloc | apply Kd.V_drewN | apply Kd.V_drew)); exact HO1_5.out) gb484 (Nat.le_of_eq hg.symm)) hb); have n1_ := Aside0.mk (below_step (by repeat (first | (with_reducible first | exact HB.out | apply wA | apply wN | apply wD) | exact HB.out)) hb); have n2_ := Aside0.mk (hbox); have n3_ := Aside0.mk ((by rw [hg]; exact (below_size (by repeat (first | (with_reducible first | exact HB.out | apply wA | apply wN | apply wD) | exact HB.out))) : w.heap.size ≤ gb484)); have n4_ := Aside0.mk ((by rw [hg]; exact (below_size (by repeat (first | (with_reducible first | exact HB.out | apply wA | apply wN | apply wD) | exact HB.out))) : w.heap.size ≤ gb484)); clear HO1_5; clear HB; have HO1_5 := n0_; have HB := n1_; have BK484 := n2_; have GW484 := n3_; have GE484 := n4_; clear n0_ n1_ n2_ n3_ n4_; clear hb hbox hg; have hcz77_0 : w76.cell? ⟨gb484, 0, none⟩ = some (.int .i64 a1_0) := (bC BK484.out 0).trans rfl; have hcz77_1 : w76.cell? ⟨gb484, 1, none⟩ = some (.int .i64 a1_1) := (bC BK484.out 1).trans rfl; have hcz77_2 : w76.cell? ⟨gb484, 2, none⟩ = some (.int .i64 a1_2) := (bC BK484.out 2).trans rfl; have hcz77_3 : w76.cell? ⟨gb484, 3, none⟩ = some (.int .i64 a1_3) := (bC BK484.out 3).trans rfl; have hcz77_4 : w76.cell? ⟨gb484, 4, none⟩ = some (.int .i64 a1_4) := (bC BK484.out 4).trans rfl; have hcz77_5 : w76.cell? ⟨gb484, 5, none⟩ = some (.slice A1_5 l1_5.length c1_5) := (bC BK484.out 5).trans rfl; have hfz77_0 := bZ BK484.out 0; have hfz77_1 := bZ BK484.out 1; have hfz77_2 := bZ BK484.out 2; have hfz77_3 := bZ BK484.out 3; have hfz77_4 := bZ BK484.out 4; have hfz77_5 := bZ BK484.out 5) | ((with_reducible refine gate_dst (N := 14) rfl ?_); (try (refine gate_guard (by rfl) ?_; dsimp only)); refine Kd.N_lit k60 _ 60 ?hg (N' := 14) ?hd (xs := ([(⟨a1_0, a1_1, a1_2, a1_3, a1_4, l1_5⟩ : S60)] : List (S60))) (inner := [.int .i64 a1_0, .int .i64 a1_1, .int .i64 a1_2, .int .i64 a1_3, .int .i64 a1_4, .slice A1_5 l1_5.length c1_5]) (ok := (fun k_ => (P1_5_ k_ ∨ w.heap.size ≤ k_) ∧ k_ ≠ gb484)) (okp := (fun k_ => (P1_5_ k_ ∨ w.heap.size ≤ k_) ∧ k_ ≠ gb484)) ?hr ?hp (fun _ hk => hk) ((show ∀ k_, w76.heap.size ≤ k_ → (fun k_ => (P1_5_ k_ ∨ w.heap.size ≤ k_) ∧ k_ ≠ gb484) k_ from fun k_ hk => ⟨(.inr (Nat.le_trans (below_size (by repeat (first | (with_reducible first | exact HB.out | apply wA | apply wN | apply wD | refine wS ?_ GE484.out) | exact HB.out))) hk)), Kd.freshB (g := gb484) (o := .cells #[.int .i64 a1_0, .int .i64 a1_1, .int .i64 a1_2, .int .i64 a1_3, .int .i64 a1_4, .slice A1_5 l1_5.length c1_5] 60 (0, 0)) (by (with_reducible repeat (first | refine bN ?_ _ | refine bD ?_ | refine bA ?_ _)); exact BK484.out) k_ hk⟩) _ (Nat.le_refl _)) (Below.refl _ _) (Nat.le_refl _) (by simp) ?_; (case hd => rfl); (case hg => rfl); (case hr => first | (go_simp; done) | (go_simp; rfl)); (case hp => exact (Reps.c6 (show Kd.FK k60 _ _ (⟨a1_0, a1_1, a1_2, a1_3, a1_4, l1_5⟩ : S60) [.int .i64 a1_0, .int .i64 a1_1, .int .i64 a1_2, .int .i64 a1_3, .int .i64 a1_4, .slice A1_5 l1_5.length c1_5] from (k60_mkF _ _ (⟨a1_0, a1_1, a1_2, a1_3, a1_4, l1_5⟩ : S60) (Kd.V_reads' (Kd.V_mono (ok' := (fun k_ => (P1_5_ k_ ∨ w.heap.size ≤ k_) ∧ k_ ≠ gb484)) (HO1_5.out) (fun k_ hk => ⟨hk.1, hk.2⟩))).2.1 (Kd.V_F (Kd.V_mono (ok' := (fun k_ => (P1_5_ k_ ∨ w.heap.size ≤ k_) ∧ k_ ≠ gb484)) (HO1_5.out) (fun k_ hk => ⟨hk.1, hk.2⟩))))) (Reps.none _ _))); intro v487 w78 ho79 hb hg_ hnew_; clear hg_ hnew_; (first | rw [← Ny486.out] at ho79 | (simp only [Int.reduceToNat] at ho79; rw [← Ny486.out] at ho79)); have n0_ := Aside0.mk (Kd.V_elder' (by (with_reducible repeat (first | apply Kd.V_alloc | apply Kd.V_drewN | apply Kd.V_drew)); exact HO1_5.out) (Kd.N_base ho79) hb); have n1_ := Aside0.mk (Kd.N_lower ho79 (below_size (by repeat (first | (with_reducible first | exact HB.out | apply wA | apply wN | apply wD | refine wS ?_ GE484.out) | exact HB.out)))); have n2_ := Aside0.mk (bB (g := gb484) (o := .cells #[.int .i64 a1_0, .int .i64 a1_1, .int .i64 a1_2, .int .i64 a1_3, .int .i64 a1_4, .slice A1_5 l1_5.length c1_5] 60 (0, 0)) (by (with_reducible repeat (first | refine bN ?_ _ | refine bD ?_ | refine bA ?_ _)); exact BK484.out) hb); have n3_ := Aside0.mk (below_step (by repeat (first | (with_reducible first | exact HB.out | apply wA | apply wN | apply wD | refine wS ?_ GE484.out) | exact HB.out)) hb); clear HO1_5; clear BK484; clear HB; have HO1_5 := n0_; have HO488 := n1_; have BK484 := n2_; have HB := n3_; clear n0_ n1_ n2_ n3_; clear hb ho79; obtain ⟨Ao80, co80, eo80⟩ := Kd.N_slice HO488.out; subst eo80) | (go_at_call 35; (with_reducible refine (potsherdlaw20_light.calls k _ _ y486 false _ ?side1 ?side2 A7.out).mono ?_); (case side1 => repeat (first | exact (Kd.N_reads' HO488.out).2.2 | (with_reducible refine Kd.C_alloc ?_ _) | (with_reducible refine Kd.C_drewN ?_ _) | (with_reducible refine Kd.C_drew ?_))); (case side2 => exact (Kd.N_reads' HO488.out).2.1); rintro e w81 ⟨rfl, hb⟩; have n0_ := Aside0.mk (Kd.V_below (by (with_reducible repeat (first | apply Kd.V_alloc | apply Kd.V_drewN | apply Kd.V_drew)); exact HO1_5.out) hb); have n1_ := Aside0.mk (Kd.N_below (by (with_reducible repeat (first | apply Kd.N_alloc | apply Kd.N_drewN | apply Kd.N_drew)); exact HO488.out) hb); have n2_ := Aside0.mk (bB (g := gb484) (o := .cells #[.int .i64 a1_0, .int .i64 a1_1, .int .i64 a1_2, .int .i64 a1_3, .int .i64 a1_4, .slice A1_5 l1_5.length c1_5] 60 (0, 0)) (by (with_reducible repeat (first | refine bN ?_ _ | refine bD ?_ | refine bA ?_ _)); exact BK484.out) hb); have n3_ := Aside0.mk (below_step (by repeat (first | (with_reducible first | exact HB.out | apply wA | apply wN | apply wD | refine wS ?_ GE484.out) | exact HB.out)) hb); clear HO1_5; clear HO488; clear BK484; clear HB; have HO1_5 := n0_; have HO488 := n1_; have BK484 := n2_; have HB := n3_; clear n0_ n1_ n2_ n3_; (try clear hb); (try clear hb2); (try clear hk); (try clear hi)) | ((with_reducible refine gate_callee (f := 33) rfl ?_); refine goesL_ (some 18) rfl rfl Try.func33 (by kernel_rfl) rfl #[] rfl (by (try simp only [List.map_toArray, List.map_cons, List.map_nil]); first | done | rfl | (simp only [List.length_drop, List.length_take]; rfl)) ?_; (with_reducible refine (potsherdlaw20_awake.calls k  t499 _ A75.out).mono ?_); rintro e w82 ⟨rfl, hb⟩; refine ⟨_, rfl, ?_⟩; have n0_ := Aside0.mk (Kd.V_below (by (with_reducible repeat (first | apply Kd.V_alloc | apply Kd.V_drewN | apply Kd.V_drew)); exact HO1_5.out) hb); have n1_ := Aside0.mk (Kd.N_below (by (with_reducible repeat (first | apply Kd.N_alloc | apply Kd.N_drewN | apply Kd.N_drew)); exact HO488.out) hb); have n2_ := Aside0.mk (bB (g := gb484) (o := .cells #[.int .i64 a1_0, .int .i64 a1_1, .int .i64 a1_2, .int .i64 a1_3, .int .i64 a1_4, .slice A1_5 l1_5.length c1_5] 60 (0, 0)) (by (with_reducible repeat (first | refine bN ?_ _ | refine bD ?_ | refine bA ?_ _)); exact BK484.out) hb); have n3_ := Aside0.mk (below_step (by repeat (first | (with_reducible first | exact HB.out | apply wA | apply wN | apply wD | refine wS ?_ GE484.out) | exact HB.out)) hb); clear HO1_5; clear HO488; clear BK484; clear HB; have HO1_5 := n0_; have HO488 := n1_; have BK484 := n2_; have HB := n3_; clear n0_ n1_ n2_ n3_; (try clear hb); (try clear hb2); (try clear hk); (try clear hi)))
   go_ret
   exact ⟨by first | rfl | exact congrArg (fun b_ => Ending.returned (Value.bool b_)) HRET.out | (rw [HRET.out]) | (simp [errW_none, errW_some] <;> rfl) | (simp [*, errW_none, errW_some] <;> rfl), by repeat (first | (with_reducible first | exact HB.out | apply wA | apply wN | apply wD | refine wS ?_ GE484.out) | exact HB.out)⟩
end Go.Proofs.Ytkigiehkckjlhaa.PMakes
