/- The Go functions that these laws reach, each as a Lean function with the same answers (a law itself where it answers true), and the proof that the code comes to them; conditions: those of each theorem. Laid by a program of this session over the print. -/
import Derived.Test.YtkigiehkckjlhaaZMakesPMakesx0
import Derived.Test.YtkigiehkckjlhaaZMakesPMakesx2
import Derived.Test.YtkigiehkckjlhaaZMakesPMakesx5
import Derived.Test.YtkigiehkckjlhaaZMakesPMakesx6
import Derived.Test.YtkigiehkckjlhaaZMakesPMakesx11
namespace Go.Proofs.Ytkigiehkckjlhaa.PMakes
open Go.RowKit Go.Proofs.YtkigiehkckjlhaaW.PrintWords Go.Proofs.YtkigiehkckjlhaaW.PrintLast Go.Proofs.YtkigiehkckjlhaaW.PrintMore
attribute [local go_sem] max2_int min2_int max_two min_two max_three min_three max_four min_four   -- for this text's walks alone
set_option linter.unusedVariables false
set_option linter.unusedSimpArgs false
open Go.Proofs.YtkigiehkckjlhaaW.PrintWords renaming blk_drewN → bN, blk_drew → bD, blk_alloc → bA, below_set → wS, below_alloc → wA, pw_below_drewN → wN, below_drew1 → wD, blk_below → bB, blk_far → bF, blk_cell → bC, blk_frozen → bZ
open List renaming setIfInBounds_toArray → lT, set_cons_zero → l0_, set_cons_succ → lS
abbrev B12_0 : Array Bool := #[false, false, false, false, false, false]
abbrev B12_1 : Array Bool := #[true, false, false, false, false, false]
abbrev B12_2 : Array Bool := #[true, false, true, false, false, false]
abbrev B12_3 : Array Bool := #[true, true, true, false, false, false]
abbrev B12_4 : Array Bool := #[true, true, true, true, false, false]
abbrev B12_5 : Array Bool := #[true, true, true, true, true, false]
abbrev B12_6 : Array Bool := #[true, true, true, true, true, true]
abbrev B12_7 : Array Bool := #[false, false, false, false, false, false, false, false, false, false, false, false]
abbrev B12_8 : Array Bool := #[false, true, false, false, false, false, false, false, false, false, false, false]
abbrev B12_9 : Array Bool := #[false, true, true, false, false, false, false, false, false, false, false, false]
abbrev B12_10 : Array Bool := #[false, true, true, true, false, false, false, false, false, false, false, false]
abbrev B12_11 : Array Bool := #[false, true, true, true, true, false, false, false, false, false, false, false]
abbrev B12_12 : Array Bool := #[false, true, true, true, true, false, true, false, false, false, false, false]
abbrev B12_13 : Array Bool := #[false, true, true, true, true, false, true, true, false, false, false, false]
abbrev B12_14 : Array Bool := #[false, true, true, true, true, false, true, true, true, false, false, false]
abbrev B12_15 : Array Bool := #[true, true, true, true, true, false, true, true, true, false, false, false]
abbrev B12_16 : Array Bool := #[true, true, true, true, true, true, true, true, true, false, false, false]
abbrev B12_17 : Array Bool := #[true, true, true, true, true, true, true, true, true, true, false, false]
abbrev B12_18 : Array Bool := #[true, true, true, true, true, true, true, true, true, true, true, false]
abbrev B12_19 : Array Bool := #[true, true, true, true, true, true, true, true, true, true, true, true]
def dir_May.l0 : Nat → List Int → List Bool → List (S28) → Int → Int → List (S28) → Option (Bool)
 | 0, _, _, _, _, _, _ => none
 | k + 1, x3, x4, x29, x30, x31, x200000 => if x31 < x30 then (if 0 ≤ x31 then (if x31 < (x29.length : Int) then (if x31 < (x3.length : Int) then (if x31 < (x4.length : Int) then ((dir_hangs.f ((rd_T28 x29 x31).f0) ((rd_T28 x29 x31).f1) ((rd_T28 x29 x31).f2) ((rd_T28 x29 x31).f3) ((rd_T28 x29 x31).f4) x31 (rd x3 x31) (rdOf false x4 x31)).bind fun t212 => (if t212 = true then (dir_May.l0 k x3 x4 x29 x30 (wrap64 (x31 + 1)) x200000) else (none))) else (none)) else (none)) else (none)) else (none)) else ((dir_apart.f x200000).bind fun t213 => (some t213))
def dir_May.f (k : Nat) (l0_0 : List (S28)) : Option (Bool) := if (l0_0.length : Int) = 12 then ((api_Node_64.f k l0_0).bind fun t200 => (if t200 = true then (none) else (if 0 < (l0_0.length : Int) then (if ((rd_T28 l0_0 0).f0) = 2 then ((dir_names.f k l0_0).bind fun t202 => ((dir_below.f k l0_0 0).bind fun t205 => (dir_May.l0 k t202 t205 l0_0 (l0_0.length : Int) 0 l0_0))) else (none)) else (none)))) else (none)
theorem dir_May.mono_l : ∀ k, (∀ y0 y1 y2 y3 y4 y5, LeO (dir_May.l0 k y0 y1 y2 y3 y4 y5) (dir_May.l0 (k + 1) y0 y1 y2 y3 y4 y5))
 | 0 => fun _ _ _ _ _ _ r h => by simp [dir_May.l0] at h
 | k + 1 => by
  have ih0 := dir_May.mono_l k
  ·
   intro y0 y1 y2 y3 y4 y5
   unfold dir_May.l0
   repeat' first
   | (with_reducible exact ih0 _ _ _ _ _ _)
   | (with_reducible exact api_Node_64.mono _ _)
   | (with_reducible exact dir_below.mono _ _ _)
   | (with_reducible exact dir_names.mono _ _)
   | (with_reducible exact LeO.refl _)
   | (with_reducible exact LeO.none _)
   | (with_reducible refine LeO.ite ?_ ?_)
   | (with_reducible refine LeO.bind ?_ (fun _ => ?_))
   | exact ih0 _ _ _ _ _ _
   | exact api_Node_64.mono _ _
   | exact dir_below.mono _ _ _
   | exact dir_names.mono _ _
   | exact LeO.none _
   | refine LeO.ite ?_ ?_
   | refine LeO.bind ?_ (fun _ => ?_)
theorem dir_May.mono : ∀ a0 k, LeO (dir_May.f k a0) (dir_May.f (k + 1) a0) := by
 intro a0 k; have ih0 := dir_May.mono_l k
 unfold dir_May.f
 repeat' first
  | (with_reducible exact ih0 _ _ _ _ _ _)
  | (with_reducible exact api_Node_64.mono _ _)
  | (with_reducible exact dir_below.mono _ _ _)
  | (with_reducible exact dir_names.mono _ _)
  | (with_reducible exact LeO.refl _)
  | (with_reducible exact LeO.none _)
  | (with_reducible refine LeO.ite ?_ ?_)
  | (with_reducible refine LeO.bind ?_ (fun _ => ?_))
  | exact ih0 _ _ _ _ _ _
  | exact api_Node_64.mono _ _
  | exact dir_below.mono _ _ _
  | exact dir_names.mono _ _
  | exact LeO.none _
  | refine LeO.ite ?_ ?_
  | refine LeO.bind ?_ (fun _ => ?_)
def dir_May.T7 : Bool × List (List Nat × List Nat) := (true, [([], []), ([], []), ([], []), ([], []), ([2, 3], [2, 3]), ([4], [4]), ([], []), ([], []), ([6, 7], [6, 7]), ([8], [8]), ([0, 1, 5, 9], [0, 1, 5, 9]), ([10], [10])])
def dir_May.B7 : List Nat := [0, 0, 0, 0, 12, 28, 0, 0, 192, 448, 1023, 2047]
theorem dir_May.tab7 : rtab .any (opsOf Try.f55 7) = dir_May.T7 := by kernel_rfl
theorem dir_May.bits7 : waitsOk dir_May.T7.2 dir_May.B7 = true := by kernel_rfl
set_option maxHeartbeats 8000000 in
set_option maxRecDepth 100000 in
theorem dir_May.calls (k : Nat) (A0_0 : Option Addr) (c0_0 : Nat) (l0_0 : List (S28)) (r : Bool) (w : World) (hr0_0 : Kd.C k28 w A0_0 l0_0.length l0_0) (hc0_0 : l0_0.length ≤ c0_0) (h : dir_May.f k l0_0 = some r) :
 Calls Try.prog 55 #[.agg #[.slice A0_0 l0_0.length c0_0]] w fun e w' => e = .returned (.bool r) ∧ Below w.heap.size w w' := by
 have hu24 := Try.underlying24; have hu28 := Try.underlying28; have HR0_0 := Aside0.mk hr0_0; have HC0_0 := Aside0.mk hc0_0; clear hr0_0 hc0_0; have HB := Aside0.mk (Below.refl w.heap.size w); have H : (if (l0_0.length : Int) = 12 then ((api_Node_64.f k l0_0).bind fun t200 => (if t200 = true then (none) else (if 0 < (l0_0.length : Int) then (if ((rd_T28 l0_0 0).f0) = 2 then ((dir_names.f k l0_0).bind fun t202 => ((dir_below.f k l0_0 0).bind fun t205 => (dir_May.l0 k t202 t205 l0_0 (l0_0.length : Int) 0 l0_0))) else (none)) else (none)))) else (none)) = some r := h; clear h
 by_cases c2 : (l0_0.length : Int) = 12
 ·
  rw [if_pos c2] at H; have c2b0 : ((l0_0.length : Int) == 12) = true := beq_iff_eq.mpr c2; have c2b1 : ((l0_0.length : Int) != 12) = false := bne_eq_false_iff_eq.mpr c2; clear c2; replace H := Option.bind_eq_some_iff.mp H; obtain ⟨t200, A30, H⟩ := H; replace H : (if t200 = true then (none) else (if 0 < (l0_0.length : Int) then (if ((rd_T28 l0_0 0).f0) = 2 then ((dir_names.f k l0_0).bind fun t202 => ((dir_below.f k l0_0 0).bind fun t205 => (dir_May.l0 k t202 t205 l0_0 (l0_0.length : Int) 0 l0_0))) else (none)) else (none))) = some r := H; have A3 := Aside0.mk A30; clear A30
  by_cases c4 : t200 = true
  ·
   subst c4
   have H1 : (none) = some r := by rw [if_pos rfl] at H; exact H
   clear H; have H := H1; clear H1; exact absurd H (by simp)
  ·
   replace c4 := Bool.eq_false_iff.mpr c4; subst c4
   have H1 : (if 0 < (l0_0.length : Int) then (if ((rd_T28 l0_0 0).f0) = 2 then ((dir_names.f k l0_0).bind fun t202 => ((dir_below.f k l0_0 0).bind fun t205 => (dir_May.l0 k t202 t205 l0_0 (l0_0.length : Int) 0 l0_0))) else (none)) else (none)) = some r := by rw [if_neg (show ¬ (false = true) by decide)] at H; exact H
   clear H; have H := H1; clear H1
   by_cases c5 : 0 < (l0_0.length : Int)
   ·
    rw [if_pos c5] at H; have c5b0 : decide (0 < (l0_0.length : Int)) = true := decide_eq_true c5; have c5b1 : decide (0 < l0_0.length) = true := decide_eq_true (by omega); clear c5
    by_cases c6 : ((rd_T28 l0_0 0).f0) = 2
    ·
     rw [if_pos c6] at H; have c6b0 : (((rd_T28 l0_0 0).f0) == 2) = true := beq_iff_eq.mpr c6; have c6b1 : (((rd_T28 l0_0 0).f0) != 2) = false := bne_eq_false_iff_eq.mpr c6; clear c6; replace H := Option.bind_eq_some_iff.mp H; obtain ⟨t202, A70, H⟩ := H; replace H : ((dir_below.f k l0_0 0).bind fun t205 => (dir_May.l0 k t202 t205 l0_0 (l0_0.length : Int) 0 l0_0)) = some r := H; have A7 := Aside0.mk A70; clear A70; replace H := Option.bind_eq_some_iff.mp H; obtain ⟨t205, A80, H⟩ := H; replace H : (dir_May.l0 k t202 t205 l0_0 (l0_0.length : Int) 0 l0_0) = some r := H; have A8 := Aside0.mk A80; clear A80; have H' := Aside0.mk H; clear H
     go_enter Try.func55, Try.ntmps55
     try go_wp2_with (first | ((with_reducible refine gate_dst (N := 1) rfl ?_); refine box_event ?hg (N := 1) ?hd (cs := #[.slice A0_0 l0_0.length c0_0]) (t := 24) ?hr ?_; (case hd => rfl); (case hg => rfl); (case hr => first | (go_simp; done) | (go_simp; rfl)); intro gb199 hg w9 hbox hb; have n0_ := Aside0.mk (below_step (by repeat (first | (with_reducible first | exact HB.out | apply wA | apply wN | apply wD) | exact HB.out)) hb); have n1_ := Aside0.mk (hbox); have n2_ := Aside0.mk ((by rw [hg]; exact (below_size (by repeat (first | (with_reducible first | exact HB.out | apply wA | apply wN | apply wD) | exact HB.out))) : w.heap.size ≤ gb199)); have n3_ := Aside0.mk ((by rw [hg]; exact (below_size (by repeat (first | (with_reducible first | exact HB.out | apply wA | apply wN | apply wD) | exact HB.out))) : w.heap.size ≤ gb199)); clear HB; have HB := n0_; have BK199 := n1_; have GW199 := n2_; have GE199 := n3_; clear n0_ n1_ n2_ n3_; clear hb hbox hg; have hcz10_0 : w9.cell? ⟨gb199, 0, none⟩ = some (.slice A0_0 l0_0.length c0_0) := (bC BK199.out 0).trans rfl; have hfz10_0 := bZ BK199.out 0) | (go_at_call 64; (with_reducible refine (api_Node_64.calls k _ _ l0_0 false _ ?side1 ?side2 A3.out).mono ?_); (case side1 => repeat (first | exact (Kd.C_below HR0_0.out HB.out) | (with_reducible refine Kd.C_alloc ?_ _) | (with_reducible refine Kd.C_drewN ?_ _) | (with_reducible refine Kd.C_drew ?_))); (case side2 => exact HC0_0.out); rintro e w11 ⟨rfl, hb⟩; have n0_ := Aside0.mk (bB (g := gb199) (o := .cells #[.slice A0_0 l0_0.length c0_0] 24 (0, 0)) (by (with_reducible repeat (first | refine bN ?_ _ | refine bD ?_ | refine bA ?_ _)); exact BK199.out) hb); have n1_ := Aside0.mk (below_step (by repeat (first | (with_reducible first | exact HB.out | apply wA | apply wN | apply wD | refine wS ?_ GE199.out) | exact HB.out)) hb); clear BK199; clear HB; have BK199 := n0_; have HB := n1_; clear n0_ n1_; (try clear hb); (try clear hb2); (try clear hk); (try clear hi); have hcz12_0 : w11.cell? ⟨gb199, 0, none⟩ = some (.slice A0_0 l0_0.length c0_0) := (bC BK199.out 0).trans rfl; have hfz12_0 := bZ BK199.out 0; have p201 : 0 ≤ (0 : Int) := (by omega); have q201 : 0 < (l0_0.length : Int) := of_decide_eq_true (by first | (with_reducible assumption) | assumption); obtain ⟨ad201, A201_3, c201_3, A201_4, c201_4, e201, hx201_0, hx201_1, hx201_2, hx201_3, hx201_4, hl201_3, hi201_3, hl201_4, hi201_4⟩ := at_T28 HR0_0.out 0 p201 q201; cases e201; have qi201 : (0 < l0_0.length) = True := eq_true (by omega); (try rw [show ((0 : Int)).toNat = 0 from rfl] at hx201_0); (try rw [show 0 * 5 = 0 from rfl] at hx201_0); (try rw [Addr.add_zero'] at hx201_0); (try rw [show ((0 : Int)).toNat = 0 from rfl] at hx201_1); (try rw [show 0 * 5 = 0 from rfl] at hx201_1); (try rw [Addr.add_zero'] at hx201_1); (try rw [show ((0 : Int)).toNat = 0 from rfl] at hx201_2); (try rw [show 0 * 5 = 0 from rfl] at hx201_2); (try rw [Addr.add_zero'] at hx201_2); (try rw [show ((0 : Int)).toNat = 0 from rfl] at hx201_3); (try rw [show 0 * 5 = 0 from rfl] at hx201_3); (try rw [Addr.add_zero'] at hx201_3); (try rw [show ((0 : Int)).toNat = 0 from rfl] at hx201_4); (try rw [show 0 * 5 = 0 from rfl] at hx201_4); (try rw [Addr.add_zero'] at hx201_4); replace hx201_0 := (HB.out.cell (World.block_lt_of_cell? w _ hx201_0)).trans hx201_0; replace hx201_1 := (HB.out.cell (World.block_lt_of_cell? w _ hx201_1)).trans hx201_1; replace hx201_2 := (HB.out.cell (World.block_lt_of_cell? w _ hx201_2)).trans hx201_2; replace hx201_3 := (HB.out.cell (World.block_lt_of_cell? w _ hx201_3)).trans hx201_3; replace hx201_4 := (HB.out.cell (World.block_lt_of_cell? w _ hx201_4)).trans hx201_4; have HR201_3 := Aside0.mk hi201_3; have HC201_3 := Aside0.mk hl201_3; clear hi201_3 hl201_3; have HR201_4 := Aside0.mk hi201_4; have HC201_4 := Aside0.mk hl201_4; clear hi201_4 hl201_4; replace p201 := eq_true p201; replace q201 := eq_true q201))
     have n0_ := Aside0.mk (bD BK199.out); have n1_ := Aside0.mk (wD HB.out); clear BK199; clear HB; have BK199 := n0_; have HB := n1_; clear n0_ n1_; refine start_ (n := 6) (S := fun w' => w'.cell? ⟨gb199, 0, none⟩ = some (.slice (some ad201) l0_0.length c0_0)) (ds := []) B12_0 (by kernel_rfl) rfl rfl ((bC BK199.out 0).trans rfl) (fun hHeld => ?_); generalize w11.drew = w13 at BK199 HB hHeld ⊢; refine take_ (i := 0) (N := some 24) (v := ?_) (a' := ?_) B12_1 rfl rfl (by kernel_rfl) (fun _ _ _ h => h) (Or.inl ⟨by rfl, ?_⟩) hHeld ?_ ?_; rotate_left
     ·
      intro w' s0; go_simp; with_reducible rfl
     rotate_left
     ·
      simp only [Act.put, lT, l0_, lS, i64_w, i32_w]; rfl
     refine take_ (i := 2) (N := some 26) (v := ?_) (a' := ?_) B12_2 rfl rfl (by kernel_rfl) (fun _ _ _ h => h) (Or.inl ⟨by rfl, ?_⟩) hHeld ?_ ?_; rotate_left
     ·
      intro w' s0; go_simp; with_reducible rfl
     rotate_left
     ·
      simp only [Act.put, lT, l0_, lS, i64_w, i32_w]; rfl
     refine one_ (i := 1) (N := some 25) B12_3 rfl rfl (by kernel_rfl) (by decide) (fun K hK => ?_); refine goes_ Try.func72 (by kernel_rfl) rfl #[.agg #[.slice (some ad201) l0_0.length c0_0]] (by rfl) rfl rfl (by (try simp only [List.map_toArray, List.map_cons, List.map_nil]); first | done | rfl | (simp only [List.length_drop, List.length_take]; rfl)) ?_
     with_reducible refine (dir_names.calls k _ _ l0_0 t202 _ ?side1 ?side2 A7.out).mono ?_
     (case side1 => repeat (first | exact (Kd.C_below HR0_0.out HB.out) | (with_reducible refine Kd.C_alloc ?_ _) | (with_reducible refine Kd.C_drewN ?_ _) | (with_reducible refine Kd.C_drew ?_)))
     (case side2 => exact HC0_0.out)
     rintro e w14 ⟨v203, rfl, ho0, hb⟩; refine ⟨_, rfl, ?_⟩; have n0_ := Aside0.mk (Kd.R_lower ho0 (below_size (by repeat (first | (with_reducible first | exact HB.out | apply wA | apply wN | apply wD | refine wS ?_ GE199.out) | exact HB.out)))); have n1_ := Aside0.mk (bB (g := gb199) (o := .cells #[.slice (some ad201) l0_0.length c0_0] 24 (0, 0)) (by (with_reducible repeat (first | refine bN ?_ _ | refine bD ?_ | refine bA ?_ _)); exact BK199.out) hb)
     have n2_ := Aside0.mk (below_step (by repeat (first | (with_reducible first | exact HB.out | apply wA | apply wN | apply wD | refine wS ?_ GE199.out) | exact HB.out)) hb); clear BK199; clear HB; have HO204 := n0_; have BK199 := n1_; have HB := n2_; clear n0_ n1_ n2_
     (try clear hb)
     (try clear hb2)
     (try clear hk)
     (try clear hi)
     (try clear ho0)
     refine hK.out _ _ ((bC BK199.out 0).trans rfl) (fun hHeld => ?_); clear hK K; refine norm_ (a' := ?_) ?_ ?_; rotate_left
     ·
      show Act.put _ (some 25) _ = _
      simp only [Act.put, lT, l0_, lS, i64_w, i32_w]; rfl
     refine one_ (i := 3) (N := some 27) B12_4 rfl rfl (by kernel_rfl) (by decide) (fun K hK => ?_); refine goes_ Try.func73 (by kernel_rfl) rfl #[.agg #[.slice (some ad201) l0_0.length c0_0], .int .i64 0] (by rfl) rfl rfl (by (try simp only [List.map_toArray, List.map_cons, List.map_nil]); first | done | rfl | (simp only [List.length_drop, List.length_take]; rfl)) ?_
     with_reducible refine (dir_below.calls k _ _ l0_0 0 t205 _ ?side1 ?side2 A8.out).mono ?_
     (case side1 => repeat (first | exact (Kd.C_below HR0_0.out HB.out) | (with_reducible refine Kd.C_alloc ?_ _) | (with_reducible refine Kd.C_drewN ?_ _) | (with_reducible refine Kd.C_drew ?_)))
     (case side2 => exact HC0_0.out)
     rintro e w15 ⟨v206, rfl, ho0, hb⟩; refine ⟨_, rfl, ?_⟩; have n0_ := Aside0.mk (Kd.R_below (by (with_reducible repeat (first | apply Kd.R_alloc | apply Kd.R_drewN | apply Kd.R_drew)); exact HO204.out) hb)
     have n1_ := Aside0.mk (Kd.R_lower ho0 (below_size (by repeat (first | (with_reducible first | exact HB.out | apply wA | apply wN | apply wD | refine wS ?_ GE199.out) | exact HB.out)))); have n2_ := Aside0.mk (bB (g := gb199) (o := .cells #[.slice (some ad201) l0_0.length c0_0] 24 (0, 0)) (by (with_reducible repeat (first | refine bN ?_ _ | refine bD ?_ | refine bA ?_ _)); exact BK199.out) hb)
     have n3_ := Aside0.mk (below_step (by repeat (first | (with_reducible first | exact HB.out | apply wA | apply wN | apply wD | refine wS ?_ GE199.out) | exact HB.out)) hb); clear HO204; clear BK199; clear HB; have HO204 := n0_; have HO207 := n1_; have BK199 := n2_; have HB := n3_; clear n0_ n1_ n2_ n3_
     (try clear hb)
     (try clear hb2)
     (try clear hk)
     (try clear hi)
     (try clear ho0)
     refine hK.out _ _ ((bC BK199.out 0).trans rfl) (fun hHeld => ?_); clear hK K; refine norm_ (a' := ?_) ?_ ?_; rotate_left
     ·
      show Act.put _ (some 27) _ = _
      simp only [Act.put, lT, l0_, lS, i64_w, i32_w]; rfl
     refine pure_ (i := 4) (N := some 3) (v := ?_) (a' := ?_) B12_5 rfl rfl (by kernel_rfl) (fun _ _ _ h => h) (Or.inl ⟨by rfl, ?_⟩) ?_ ?_; rotate_left
     ·
      intro w'; go_simp; with_reducible rfl
     rotate_left
     ·
      simp only [Act.put, lT, l0_, lS, i64_w, i32_w]; rfl
     refine pure_ (i := 5) (N := some 4) (v := ?_) (a' := ?_) B12_6 rfl rfl (by kernel_rfl) (fun _ _ _ h => h) (Or.inl ⟨by rfl, ?_⟩) ?_ ?_; rotate_left
     ·
      intro w'; go_simp; with_reducible rfl
     rotate_left
     ·
      simp only [Act.put, lT, l0_, lS, i64_w, i32_w]; rfl
     refine done_ (by kernel_rfl) ?_; have hcz16_0 : w15.cell? ⟨gb199, 0, none⟩ = some (.slice (some ad201) l0_0.length c0_0) := (bC BK199.out 0).trans rfl; have hfz16_0 := bZ BK199.out 0
     try go_wp2
     go_loopg [31] k (fun kq v31 w' => ∃ (x31_1 : Int), v31 = .int .i64 x31_1 ∧ Aside0 (dir_May.l0 kq t202 t205 l0_0 (l0_0.length : Int) x31_1 l0_0 = some r) ∧ Aside0 (kq ≤ k) ∧ Aside0 (Kd.R (Kd.int .i64) 3 w' w.heap.size (fun _ => True) v203 t202) ∧ Aside0 (Kd.R Kd.bool 4 w' w.heap.size (fun _ => True) v206 t205) ∧ Aside0 (w'.heap[gb199]? = some (.cells #[(.slice (some ad201) l0_0.length c0_0)] 24 (0, 0))) ∧ Aside0 (Below w.heap.size w w'))
     case atStart => exact ⟨(0), (by first | rfl | (simp; done) | (simp [*]; done)), H', ⟨Nat.le_refl _⟩, ⟨by (with_reducible repeat (first | apply Kd.R_alloc | apply Kd.R_drewN | apply Kd.R_drew)); exact HO204.out⟩, ⟨by (with_reducible repeat (first | apply Kd.R_alloc | apply Kd.R_drewN | apply Kd.R_drew)); exact HO207.out⟩, ⟨by (with_reducible repeat (first | refine bN ?_ _ | refine bD ?_ | refine bA ?_ _)); exact BK199.out⟩, ⟨by repeat (first | (with_reducible first | exact HB.out | apply wA | apply wN | apply wD | refine wS ?_ GE199.out) | exact HB.out)⟩⟩
     case round =>
      clear H'
      try clear c2
      try clear c2b0
      try clear c2b1
      try clear p2
      try clear q2
      try clear hx2
      try clear qi2
      try clear c4
      try clear c5
      try clear c5b0
      try clear c5b1
      try clear c6
      try clear c6b0
      try clear c6b1
      try clear c7
      try clear hcz10_0
      try clear hcz12_0
      try clear hcz16_0
      try clear hfz10_0
      try clear hfz12_0
      try clear hfz16_0
      try clear hx201_0
      try clear hx201_1
      try clear hx201_2
      try clear hx201_3
      try clear hx201_4
      try clear p201
      try clear q201
      obtain ⟨x31_1, rfl, HA, HK1, HO_3, HO_4, BK199, HB⟩ := hrel
      cases gk with
      | zero => exact absurd HA.out (by simp [dir_May.l0])
      | succ k1 =>
       have H := HA.out; clear HA; simp only [dir_May.l0] at H
       by_cases c17 : x31_1 < (l0_0.length : Int)
       ·
        rw [if_pos c17] at H; have c17b0 : decide (x31_1 < (l0_0.length : Int)) = true := decide_eq_true c17; clear c17
        by_cases c18 : 0 ≤ x31_1
        ·
         rw [if_pos c18] at H; have c18b0 : decide (0 ≤ x31_1) = true := decide_eq_true c18; clear c18
         by_cases c19 : x31_1 < (l0_0.length : Int)
         ·
          rw [if_pos c19] at H; have c19b0 : decide (x31_1 < (l0_0.length : Int)) = true := decide_eq_true c19; clear c19
          by_cases c20 : x31_1 < (t202.length : Int)
          ·
           rw [if_pos c20] at H; have c20b0 : decide (x31_1 < (t202.length : Int)) = true := decide_eq_true c20; clear c20
           by_cases c21 : x31_1 < (t205.length : Int)
           ·
            rw [if_pos c21] at H; have c21b0 : decide (x31_1 < (t205.length : Int)) = true := decide_eq_true c21; clear c21; replace H := Option.bind_eq_some_iff.mp H; obtain ⟨t212, A220, H⟩ := H; replace H : (if t212 = true then (dir_May.l0 k1 t202 t205 l0_0 (l0_0.length : Int) (wrap64 (x31_1 + 1)) l0_0) else (none)) = some r := H; have A22 := Aside0.mk A220; clear A220
            by_cases c23 : t212 = true
            ·
             subst c23
             have H1 : (dir_May.l0 k1 t202 t205 l0_0 (l0_0.length : Int) (wrap64 (x31_1 + 1)) l0_0) = some r := by rw [if_pos rfl] at H; exact H
             clear H; have H := H1; clear H1; have H' := Aside0.mk H; clear H; have p208 : 0 ≤ (x31_1 : Int) := of_decide_eq_true (by first | (with_reducible assumption) | assumption); have q208 : x31_1 < (l0_0.length : Int) := of_decide_eq_true (by first | (with_reducible assumption) | assumption); obtain ⟨ad208, A208_3, c208_3, A208_4, c208_4, e208, hx208_0, hx208_1, hx208_2, hx208_3, hx208_4, hl208_3, hi208_3, hl208_4, hi208_4⟩ := at_T28 HR0_0.out x31_1 p208 q208; obtain rfl : ad201 = ad208 := (by injection e208); replace hx208_0 := (HB.out.cell (World.block_lt_of_cell? w _ hx208_0)).trans hx208_0; replace hx208_1 := (HB.out.cell (World.block_lt_of_cell? w _ hx208_1)).trans hx208_1; replace hx208_2 := (HB.out.cell (World.block_lt_of_cell? w _ hx208_2)).trans hx208_2; replace hx208_3 := (HB.out.cell (World.block_lt_of_cell? w _ hx208_3)).trans hx208_3; replace hx208_4 := (HB.out.cell (World.block_lt_of_cell? w _ hx208_4)).trans hx208_4; have HR208_3 := Aside0.mk hi208_3; have HC208_3 := Aside0.mk hl208_3; clear hi208_3 hl208_3; have HR208_4 := Aside0.mk hi208_4; have HC208_4 := Aside0.mk hl208_4; clear hi208_4 hl208_4; replace p208 := eq_true p208; replace q208 := eq_true q208
             try go_wp2_with (first | ((with_reducible refine gate_dst (N := 6) rfl ?_); refine box_event ?hg (N := 6) ?hd (cs := #[.int .i64 0, .int .i64 0, .int .i64 0, .slice none 0 0, .slice none 0 0]) (t := 28) ?hr ?_; (case hd => rfl); (case hg => rfl); (case hr => first | (go_simp; done) | (go_simp; rfl)); intro gb209 hg w24 hbox hb; have n0_ := Aside0.mk (Kd.R_below (by (with_reducible repeat (first | apply Kd.R_alloc | apply Kd.R_drewN | apply Kd.R_drew)); exact HO_3.out) hb); have n1_ := Aside0.mk (Kd.R_below (by (with_reducible repeat (first | apply Kd.R_alloc | apply Kd.R_drewN | apply Kd.R_drew)); exact HO_4.out) hb); have n2_ := Aside0.mk (bB (g := gb199) (o := .cells #[.slice (some ad201) l0_0.length c0_0] 24 (0, 0)) (by (with_reducible repeat (first | refine bN ?_ _ | refine bD ?_ | refine bA ?_ _)); exact BK199.out) hb); have n3_ := Aside0.mk (below_step (by repeat (first | (with_reducible first | exact HB.out | apply wA | apply wN | apply wD | refine wS ?_ GE199.out) | exact HB.out)) hb); have n4_ := Aside0.mk (hbox); have n5_ := Aside0.mk ((by rw [hg]; exact (below_size (by repeat (first | (with_reducible first | exact HB.out | apply wA | apply wN | apply wD | refine wS ?_ GE199.out) | exact HB.out))) : w.heap.size ≤ gb209)); have n6_ := Aside0.mk ((by rw [hg]; exact (below_size (by repeat (first | (with_reducible first | exact HB.out | apply wA | apply wN | apply wD | refine wS ?_ GE199.out) | exact HB.out))) : w.heap.size ≤ gb209)); have n7_ := Aside0.mk ((by rw [hg]; exact Nat.ne_of_lt (blk_lt (g := gb199) (o := .cells #[.slice (some ad201) l0_0.length c0_0] 24 (0, 0)) (by (with_reducible repeat (first | refine bN ?_ _ | refine bD ?_ | refine bA ?_ _)); exact BK199.out)) : gb199 ≠ gb209)); have n8_ := Aside0.mk ((by rw [hg]; exact Nat.ne_of_gt (blk_lt (g := gb199) (o := .cells #[.slice (some ad201) l0_0.length c0_0] 24 (0, 0)) (by (with_reducible repeat (first | refine bN ?_ _ | refine bD ?_ | refine bA ?_ _)); exact BK199.out)) : gb209 ≠ gb199)); clear HO_3; clear HO_4; clear BK199; clear HB; have HO_3 := n0_; have HO_4 := n1_; have BK199 := n2_; have HB := n3_; have BK209 := n4_; have GW209 := n5_; have GE209 := n6_; have NB199_209 := n7_; have NB209_199 := n8_; clear n0_ n1_ n2_ n3_ n4_ n5_ n6_ n7_ n8_; clear hb hbox hg; have hnb25 := NB209_199.out; have hnc25 := NB199_209.out; have hcz26_0 : w24.cell? ⟨gb209, 0, none⟩ = some (.int .i64 0) := (bC BK209.out 0).trans rfl; have hcz26_1 : w24.cell? ⟨gb209, 1, none⟩ = some (.int .i64 0) := (bC BK209.out 1).trans rfl; have hcz26_2 : w24.cell? ⟨gb209, 2, none⟩ = some (.int .i64 0) := (bC BK209.out 2).trans rfl; have hcz26_3 : w24.cell? ⟨gb209, 3, none⟩ = some (.slice none 0 0) := (bC BK209.out 3).trans rfl; have hcz26_4 : w24.cell? ⟨gb209, 4, none⟩ = some (.slice none 0 0) := (bC BK209.out 4).trans rfl; have hfz26_0 := bZ BK209.out 0; have hfz26_1 := bZ BK209.out 1; have hfz26_2 := bZ BK209.out 2; have hfz26_3 := bZ BK209.out 3; have hfz26_4 := bZ BK209.out 4))
             have n0_ : Aside0 (Kd.R (Kd.int .i64) 3 (((((w24.setCell ⟨gb209, 0, none⟩ (.int .i64 ((rd_T28 l0_0 x31_1).f0))).setCell ⟨gb209, 1, none⟩ (.int .i64 ((rd_T28 l0_0 x31_1).f1))).setCell ⟨gb209, 2, none⟩ (.int .i64 ((rd_T28 l0_0 x31_1).f2))).setCell ⟨gb209, 3, none⟩ (.slice A208_3 ((rd_T28 l0_0 x31_1).f3).length c208_3)).setCell ⟨gb209, 4, none⟩ (.slice A208_4 ((rd_T28 l0_0 x31_1).f4).length c208_4)) w.heap.size (fun _ => True) v203 t202) := ⟨by (with_reducible repeat (first | apply Kd.R_alloc | apply Kd.R_drewN | apply Kd.R_drew)); exact Kd.R_mono (Kd.R_far (p := ⟨gb209, 4, none⟩) (Kd.R_far (p := ⟨gb209, 3, none⟩) (Kd.R_far (p := ⟨gb209, 2, none⟩) (Kd.R_far (p := ⟨gb209, 1, none⟩) (Kd.R_far (p := ⟨gb209, 0, none⟩) (Kd.R_types HO_3.out BK209.out (by decide)) (fun _ hk => hk.2) (.int .i64 ((rd_T28 l0_0 x31_1).f0))) (fun _ hk => hk.2) (.int .i64 ((rd_T28 l0_0 x31_1).f1))) (fun _ hk => hk.2) (.int .i64 ((rd_T28 l0_0 x31_1).f2))) (fun _ hk => hk.2) (.slice A208_3 ((rd_T28 l0_0 x31_1).f3).length c208_3)) (fun _ hk => hk.2) (.slice A208_4 ((rd_T28 l0_0 x31_1).f4).length c208_4)) (fun _ hk => trivial)⟩
             have n1_ : Aside0 (Kd.R Kd.bool 4 (((((w24.setCell ⟨gb209, 0, none⟩ (.int .i64 ((rd_T28 l0_0 x31_1).f0))).setCell ⟨gb209, 1, none⟩ (.int .i64 ((rd_T28 l0_0 x31_1).f1))).setCell ⟨gb209, 2, none⟩ (.int .i64 ((rd_T28 l0_0 x31_1).f2))).setCell ⟨gb209, 3, none⟩ (.slice A208_3 ((rd_T28 l0_0 x31_1).f3).length c208_3)).setCell ⟨gb209, 4, none⟩ (.slice A208_4 ((rd_T28 l0_0 x31_1).f4).length c208_4)) w.heap.size (fun _ => True) v206 t205) := ⟨by (with_reducible repeat (first | apply Kd.R_alloc | apply Kd.R_drewN | apply Kd.R_drew)); exact Kd.R_mono (Kd.R_far (p := ⟨gb209, 4, none⟩) (Kd.R_far (p := ⟨gb209, 3, none⟩) (Kd.R_far (p := ⟨gb209, 2, none⟩) (Kd.R_far (p := ⟨gb209, 1, none⟩) (Kd.R_far (p := ⟨gb209, 0, none⟩) (Kd.R_types HO_4.out BK209.out (by decide)) (fun _ hk => hk.2) (.int .i64 ((rd_T28 l0_0 x31_1).f0))) (fun _ hk => hk.2) (.int .i64 ((rd_T28 l0_0 x31_1).f1))) (fun _ hk => hk.2) (.int .i64 ((rd_T28 l0_0 x31_1).f2))) (fun _ hk => hk.2) (.slice A208_3 ((rd_T28 l0_0 x31_1).f3).length c208_3)) (fun _ hk => hk.2) (.slice A208_4 ((rd_T28 l0_0 x31_1).f4).length c208_4)) (fun _ hk => trivial)⟩
             have n2_ : Aside0 ((((((w24.setCell ⟨gb209, 0, none⟩ (.int .i64 ((rd_T28 l0_0 x31_1).f0))).setCell ⟨gb209, 1, none⟩ (.int .i64 ((rd_T28 l0_0 x31_1).f1))).setCell ⟨gb209, 2, none⟩ (.int .i64 ((rd_T28 l0_0 x31_1).f2))).setCell ⟨gb209, 3, none⟩ (.slice A208_3 ((rd_T28 l0_0 x31_1).f3).length c208_3)).setCell ⟨gb209, 4, none⟩ (.slice A208_4 ((rd_T28 l0_0 x31_1).f4).length c208_4)).heap[gb199]? = some (.cells #[.slice (some ad201) l0_0.length c0_0] 24 (0, 0))) := ⟨by (with_reducible repeat (first | refine bN ?_ _ | refine bD ?_ | refine bA ?_ _)); refine bF ?_ NB199_209.out _; (with_reducible repeat (first | refine bN ?_ _ | refine bD ?_ | refine bA ?_ _)); refine bF ?_ NB199_209.out _; (with_reducible repeat (first | refine bN ?_ _ | refine bD ?_ | refine bA ?_ _)); refine bF ?_ NB199_209.out _; (with_reducible repeat (first | refine bN ?_ _ | refine bD ?_ | refine bA ?_ _)); refine bF ?_ NB199_209.out _; (with_reducible repeat (first | refine bN ?_ _ | refine bD ?_ | refine bA ?_ _)); refine bF ?_ NB199_209.out _; (with_reducible repeat (first | refine bN ?_ _ | refine bD ?_ | refine bA ?_ _)); exact BK199.out⟩
             have n3_ : Aside0 ((((((w24.setCell ⟨gb209, 0, none⟩ (.int .i64 ((rd_T28 l0_0 x31_1).f0))).setCell ⟨gb209, 1, none⟩ (.int .i64 ((rd_T28 l0_0 x31_1).f1))).setCell ⟨gb209, 2, none⟩ (.int .i64 ((rd_T28 l0_0 x31_1).f2))).setCell ⟨gb209, 3, none⟩ (.slice A208_3 ((rd_T28 l0_0 x31_1).f3).length c208_3)).setCell ⟨gb209, 4, none⟩ (.slice A208_4 ((rd_T28 l0_0 x31_1).f4).length c208_4)).heap[gb209]? = some (.cells #[.int .i64 ((rd_T28 l0_0 x31_1).f0), .int .i64 ((rd_T28 l0_0 x31_1).f1), .int .i64 ((rd_T28 l0_0 x31_1).f2), .slice A208_3 ((rd_T28 l0_0 x31_1).f3).length c208_3, .slice A208_4 ((rd_T28 l0_0 x31_1).f4).length c208_4] 28 (0, 0))) := ⟨by (with_reducible repeat (first | refine bN ?_ _ | refine bD ?_ | refine bA ?_ _)); refine blk_put (cs := #[.int .i64 ((rd_T28 l0_0 x31_1).f0), .int .i64 ((rd_T28 l0_0 x31_1).f1), .int .i64 ((rd_T28 l0_0 x31_1).f2), .slice A208_3 ((rd_T28 l0_0 x31_1).f3).length c208_3, .slice none 0 0]) ?_ 4 _ rfl; (with_reducible repeat (first | refine bN ?_ _ | refine bD ?_ | refine bA ?_ _)); refine blk_put (cs := #[.int .i64 ((rd_T28 l0_0 x31_1).f0), .int .i64 ((rd_T28 l0_0 x31_1).f1), .int .i64 ((rd_T28 l0_0 x31_1).f2), .slice none 0 0, .slice none 0 0]) ?_ 3 _ rfl; (with_reducible repeat (first | refine bN ?_ _ | refine bD ?_ | refine bA ?_ _)); refine blk_put (cs := #[.int .i64 ((rd_T28 l0_0 x31_1).f0), .int .i64 ((rd_T28 l0_0 x31_1).f1), .int .i64 0, .slice none 0 0, .slice none 0 0]) ?_ 2 _ rfl; (with_reducible repeat (first | refine bN ?_ _ | refine bD ?_ | refine bA ?_ _)); refine blk_put (cs := #[.int .i64 ((rd_T28 l0_0 x31_1).f0), .int .i64 0, .int .i64 0, .slice none 0 0, .slice none 0 0]) ?_ 1 _ rfl; (with_reducible repeat (first | refine bN ?_ _ | refine bD ?_ | refine bA ?_ _)); refine blk_put (cs := #[.int .i64 0, .int .i64 0, .int .i64 0, .slice none 0 0, .slice none 0 0]) ?_ 0 _ rfl; (with_reducible repeat (first | refine bN ?_ _ | refine bD ?_ | refine bA ?_ _)); exact BK209.out⟩
             have n4_ : Aside0 (Below w.heap.size w (((((w24.setCell ⟨gb209, 0, none⟩ (.int .i64 ((rd_T28 l0_0 x31_1).f0))).setCell ⟨gb209, 1, none⟩ (.int .i64 ((rd_T28 l0_0 x31_1).f1))).setCell ⟨gb209, 2, none⟩ (.int .i64 ((rd_T28 l0_0 x31_1).f2))).setCell ⟨gb209, 3, none⟩ (.slice A208_3 ((rd_T28 l0_0 x31_1).f3).length c208_3)).setCell ⟨gb209, 4, none⟩ (.slice A208_4 ((rd_T28 l0_0 x31_1).f4).length c208_4))) := ⟨by repeat (first | (with_reducible first | exact HB.out | apply wA | apply wN | apply wD | refine wS ?_ GE199.out | refine wS ?_ GE209.out) | exact HB.out)⟩
             (try clear HO_3)
             (try clear HO_4)
             (try clear BK199)
             (try clear BK209)
             (try clear HB)
             generalize (((((w24.setCell ⟨gb209, 0, none⟩ (.int .i64 ((rd_T28 l0_0 x31_1).f0))).setCell ⟨gb209, 1, none⟩ (.int .i64 ((rd_T28 l0_0 x31_1).f1))).setCell ⟨gb209, 2, none⟩ (.int .i64 ((rd_T28 l0_0 x31_1).f2))).setCell ⟨gb209, 3, none⟩ (.slice A208_3 ((rd_T28 l0_0 x31_1).f3).length c208_3)).setCell ⟨gb209, 4, none⟩ (.slice A208_4 ((rd_T28 l0_0 x31_1).f4).length c208_4)) = w27 at n0_ n1_ n2_ n3_ n4_ ⊢; have HO_3 := n0_; have HO_4 := n1_; have BK199 := n2_; have BK209 := n3_; have HB := n4_; clear n0_ n1_ n2_ n3_ n4_; have n0_ := Aside0.mk (Kd.R_drew HO_3.out); have n1_ := Aside0.mk (Kd.R_drew HO_4.out); have n2_ := Aside0.mk (bD BK199.out); have n3_ := Aside0.mk (bD BK209.out); have n4_ := Aside0.mk (wD HB.out); clear HO_3; clear HO_4; clear BK199; clear BK209; clear HB; have HO_3 := n0_; have HO_4 := n1_; have BK199 := n2_; have BK209 := n3_; have HB := n4_; clear n0_ n1_ n2_ n3_ n4_; obtain ⟨Ao29, co29, eo29⟩ := Kd.R_slice HO_3.out
             (first | subst eo29 | (injection eo29 with f1_ f2_ f3_; have f4_ := f1_.symm; have f5_ := f3_.symm; clear f1_ f2_ f3_; subst f4_; subst f5_))
             have p210 : 0 ≤ (x31_1 : Int) := of_decide_eq_true (by first | (with_reducible assumption) | assumption); have q210 : x31_1 < (t202.length : Int) := of_decide_eq_true (by first | (with_reducible assumption) | assumption); obtain ⟨ad210, e210, hx210_0⟩ := Kd.at_int (Kd.R_reads' HO_3.out).2.2 x31_1 p210 q210
             cases e210
             replace p210 := eq_true p210; replace q210 := eq_true q210; obtain ⟨Ao30, co30, eo30⟩ := Kd.R_slice HO_4.out
             (first | subst eo30 | (injection eo30 with f1_ f2_ f3_; have f4_ := f1_.symm; have f5_ := f3_.symm; clear f1_ f2_ f3_; subst f4_; subst f5_))
             have p211 : 0 ≤ (x31_1 : Int) := of_decide_eq_true (by first | (with_reducible assumption) | assumption); have q211 : x31_1 < (t205.length : Int) := of_decide_eq_true (by first | (with_reducible assumption) | assumption); obtain ⟨ad211, e211, hx211_0⟩ := Kd.at_bool (Kd.R_reads' HO_4.out).2.2 x31_1 p211 q211
             cases e211
             replace p211 := eq_true p211; replace q211 := eq_true q211; refine start_ (n := 12) (S := fun w' => w'.cell? ⟨gb209, 0, none⟩ = some (.int .i64 ((rd_T28 l0_0 x31_1).f0)) ∧ w'.cell? ⟨gb209, 1, none⟩ = some (.int .i64 ((rd_T28 l0_0 x31_1).f1)) ∧ w'.cell? ⟨gb209, 2, none⟩ = some (.int .i64 ((rd_T28 l0_0 x31_1).f2)) ∧ w'.cell? ⟨gb209, 3, none⟩ = some (.slice A208_3 ((rd_T28 l0_0 x31_1).f3).length c208_3) ∧ w'.cell? ⟨gb209, 4, none⟩ = some (.slice A208_4 ((rd_T28 l0_0 x31_1).f4).length c208_4) ∧ w'.cell? (ad210.add (x31_1).toNat) = some (.int .i64 (rd t202 x31_1)) ∧ w'.cell? (ad211.add (x31_1).toNat) = some (.bool (rdOf false t205 x31_1))) (ds := []) B12_7 (by kernel_rfl) rfl rfl ⟨(bC BK209.out 0).trans rfl, (bC BK209.out 1).trans rfl, (bC BK209.out 2).trans rfl, (bC BK209.out 3).trans rfl, (bC BK209.out 4).trans rfl, hx210_0, hx211_0⟩ (fun hHeld => ?_); refine with_tabW dir_May.tab7 dir_May.bits7 (fun HT_ HW_ => ?_); generalize w27.drew = w28 at HO_3 HO_4 BK199 BK209 HB hx210_0 hx211_0 hHeld ⊢; refine pure_ (i := 1) (N := some 37) (v := ?_) (a' := ?_) B12_8 rfl rfl (any_of HT_.out (by kernel_rfl)) (fun _ _ _ h => h) (Or.inl ⟨by rfl, ?_⟩) ?_ ?_; rotate_left
             ·
              intro w'; go_simp; with_reducible rfl
             rotate_left
             ·
              simp only [Act.put, lT, l0_, lS, i64_w, i32_w]; rfl
             refine pure_ (i := 2) (N := some 38) (v := ?_) (a' := ?_) B12_9 rfl rfl (any_of HT_.out (by kernel_rfl)) (fun _ _ _ h => h) (Or.inl ⟨by rfl, ?_⟩) ?_ ?_; rotate_left
             ·
              intro w'; go_simp; with_reducible rfl
             rotate_left
             ·
              simp only [Act.put, lT, l0_, lS, i64_w, i32_w]; rfl
             refine pure_ (i := 3) (N := some 39) (v := ?_) (a' := ?_) B12_10 rfl rfl (any_of HT_.out (by kernel_rfl)) (fun _ _ _ h => h) (Or.inl ⟨by rfl, ?_⟩) ?_ ?_; rotate_left
             ·
              intro w'; go_simp; with_reducible rfl
             rotate_left
             ·
              simp only [Act.put, lT, l0_, lS, i64_w, i32_w]; rfl
             refine pure_ (i := 4) (N := some 40) (v := ?_) (a' := ?_) B12_11 rfl rfl (any_of HT_.out (by kernel_rfl)) (fun _ _ _ h => h) (Or.inl ⟨by rfl, ?_⟩) ?_ ?_; rotate_left
             ·
              intro w'; go_simp; with_reducible rfl
             rotate_left
             ·
              simp only [Act.put, lT, l0_, lS, i64_w, i32_w]; rfl
             refine pure_ (i := 6) (N := some 42) (v := ?_) (a' := ?_) B12_12 rfl rfl (any_of HT_.out (by kernel_rfl)) (fun _ _ _ h => h) (Or.inl ⟨by rfl, ?_⟩) ?_ ?_; rotate_left
             ·
              intro w'; go_simp; with_reducible rfl
             rotate_left
             ·
              simp only [Act.put, lT, l0_, lS, i64_w, i32_w]; rfl
             refine pure_ (i := 7) (N := some 43) (v := ?_) (a' := ?_) B12_13 rfl rfl (any_of HT_.out (by kernel_rfl)) (fun _ _ _ h => h) (Or.inl ⟨by rfl, ?_⟩) ?_ ?_; rotate_left
             ·
              intro w'; go_simp; with_reducible rfl
             rotate_left
             ·
              simp only [Act.put, lT, l0_, lS, i64_w, i32_w]; rfl
             refine pure_ (i := 8) (N := some 44) (v := ?_) (a' := ?_) B12_14 rfl rfl (any_of HT_.out (by kernel_rfl)) (fun _ _ _ h => h) (Or.inl ⟨by rfl, ?_⟩) ?_ ?_; rotate_left
             ·
              intro w'; go_simp; with_reducible rfl
             rotate_left
             ·
              simp only [Act.put, lT, l0_, lS, i64_w, i32_w]; rfl
             refine take_ (i := 0) (N := some 36) (v := ?_) (a' := ?_) B12_15 rfl rfl (take_ofW HT_.out HW_.out (by kernel_rfl)) (fun _ _ _ h => h) (Or.inl ⟨by rfl, ?_⟩) hHeld ?_ ?_; rotate_left
             ·
              rintro w' ⟨s0, s1, s2, s3, s4, s5, s6⟩; go_simp; with_reducible rfl
             rotate_left
             ·
              simp only [Act.put, lT, l0_, lS, i64_w, i32_w]; rfl
             refine take_ (i := 5) (N := some 41) (v := ?_) (a' := ?_) B12_16 rfl rfl (take_ofW HT_.out HW_.out (by kernel_rfl)) (fun _ _ _ h => h) (Or.inl ⟨by rfl, ?_⟩) hHeld ?_ ?_; rotate_left
             ·
              rintro w' ⟨s0, s1, s2, s3, s4, s5, s6⟩; go_simp; with_reducible rfl
             rotate_left
             ·
              simp only [Act.put, lT, l0_, lS, i64_w, i32_w]; rfl
             refine take_ (i := 9) (N := some 45) (v := ?_) (a' := ?_) B12_17 rfl rfl (take_ofW HT_.out HW_.out (by kernel_rfl)) (fun _ _ _ h => h) (Or.inl ⟨by rfl, ?_⟩) hHeld ?_ ?_; rotate_left
             ·
              rintro w' ⟨s0, s1, s2, s3, s4, s5, s6⟩; go_simp; with_reducible rfl
             rotate_left
             ·
              simp only [Act.put, lT, l0_, lS, i64_w, i32_w]; rfl
             refine one_ (i := 10) (N := some 46) B12_18 rfl rfl (one_of HT_.out (by kernel_rfl)) (by decide) (fun K hK => ?_); refine goes_ Try.func74 (by kernel_rfl) rfl #[.agg #[.int .i64 ((rd_T28 l0_0 x31_1).f0), .int .i64 ((rd_T28 l0_0 x31_1).f1), .int .i64 ((rd_T28 l0_0 x31_1).f2), .slice A208_3 ((rd_T28 l0_0 x31_1).f3).length c208_3, .slice A208_4 ((rd_T28 l0_0 x31_1).f4).length c208_4], .int .i64 x31_1, .int .i64 (rd t202 x31_1), .bool (rdOf false t205 x31_1)] (by rfl) rfl rfl (by (try simp only [List.map_toArray, List.map_cons, List.map_nil]); first | done | rfl | (simp only [List.length_drop, List.length_take]; rfl)) ?_
             with_reducible refine (dir_hangs.calls ((rd_T28 l0_0 x31_1).f0) ((rd_T28 l0_0 x31_1).f1) ((rd_T28 l0_0 x31_1).f2) _ _ ((rd_T28 l0_0 x31_1).f3) _ _ ((rd_T28 l0_0 x31_1).f4) x31_1 (rd t202 x31_1) (rdOf false t205 x31_1) true _ ?side1 ?side2 ?side3 ?side4 A22.out).mono ?_
             (case side1 => repeat (first | exact (Kd.C_below HR208_3.out HB.out) | (with_reducible refine Kd.C_alloc ?_ _) | (with_reducible refine Kd.C_drewN ?_ _) | (with_reducible refine Kd.C_drew ?_)))
             (case side2 => exact HC208_3.out)
             (case side3 => repeat (first | exact (Kd.C_below HR208_4.out HB.out) | (with_reducible refine Kd.C_alloc ?_ _) | (with_reducible refine Kd.C_drewN ?_ _) | (with_reducible refine Kd.C_drew ?_)))
             (case side4 => exact HC208_4.out)
             rintro e w31 ⟨rfl, hb⟩; have HS5_ := (hb.cell (World.block_lt_of_cell? _ _ (hHeld.2.2.2.2.2.1))).trans (hHeld.2.2.2.2.2.1); have HS6_ := (hb.cell (World.block_lt_of_cell? _ _ (hHeld.2.2.2.2.2.2))).trans (hHeld.2.2.2.2.2.2); refine ⟨_, rfl, ?_⟩; have n0_ := Aside0.mk (Kd.R_below (by (with_reducible repeat (first | apply Kd.R_alloc | apply Kd.R_drewN | apply Kd.R_drew)); exact HO_3.out) hb)
             have n1_ := Aside0.mk (Kd.R_below (by (with_reducible repeat (first | apply Kd.R_alloc | apply Kd.R_drewN | apply Kd.R_drew)); exact HO_4.out) hb)
             have n2_ := Aside0.mk (bB (g := gb199) (o := .cells #[.slice (some ad201) l0_0.length c0_0] 24 (0, 0)) (by (with_reducible repeat (first | refine bN ?_ _ | refine bD ?_ | refine bA ?_ _)); exact BK199.out) hb)
             have n3_ := Aside0.mk (bB (g := gb209) (o := .cells #[.int .i64 ((rd_T28 l0_0 x31_1).f0), .int .i64 ((rd_T28 l0_0 x31_1).f1), .int .i64 ((rd_T28 l0_0 x31_1).f2), .slice A208_3 ((rd_T28 l0_0 x31_1).f3).length c208_3, .slice A208_4 ((rd_T28 l0_0 x31_1).f4).length c208_4] 28 (0, 0)) (by (with_reducible repeat (first | refine bN ?_ _ | refine bD ?_ | refine bA ?_ _)); exact BK209.out) hb)
             have n4_ := Aside0.mk (below_step (by repeat (first | (with_reducible first | exact HB.out | apply wA | apply wN | apply wD | refine wS ?_ GE199.out | refine wS ?_ GE209.out) | exact HB.out)) hb); clear HO_3; clear HO_4; clear BK199; clear BK209; clear HB; have HO_3 := n0_; have HO_4 := n1_; have BK199 := n2_; have BK209 := n3_; have HB := n4_; clear n0_ n1_ n2_ n3_ n4_
             (try clear hb)
             (try clear hb2)
             (try clear hk)
             (try clear hi)
             refine hK.out _ _ ⟨(bC BK209.out 0).trans rfl, (bC BK209.out 1).trans rfl, (bC BK209.out 2).trans rfl, (bC BK209.out 3).trans rfl, (bC BK209.out 4).trans rfl, HS5_, HS6_⟩ (fun hHeld => ?_); clear hK K; refine norm_ (a' := ?_) ?_ ?_; rotate_left
             ·
              show Act.put _ (some 46) _ = _
              simp only [Act.put, lT, l0_, lS, i64_w, i32_w]; rfl
             refine pure_ (i := 11) (N := some 47) (v := ?_) (a' := ?_) B12_19 rfl rfl (any_of HT_.out (by kernel_rfl)) (fun _ _ _ h => h) (Or.inl ⟨by rfl, ?_⟩) ?_ ?_; rotate_left
             ·
              intro w'; go_simp; with_reducible rfl
             rotate_left
             ·
              simp only [Act.put, lT, l0_, lS, i64_w, i32_w]; rfl
             refine done_ (done_of HT_.out (by kernel_rfl)) ?_
             try go_wp2
             go_roundg k1
             case measure => have := HK1.out; omega
             case rel => exact ⟨(wrap64 (x31_1 + 1)), (by first | rfl | (simp; done) | (simp [*]; done)), H', ⟨by have := HK1.out; omega⟩, ⟨by (with_reducible repeat (first | apply Kd.R_alloc | apply Kd.R_drewN | apply Kd.R_drew)); exact HO_3.out⟩, ⟨by (with_reducible repeat (first | apply Kd.R_alloc | apply Kd.R_drewN | apply Kd.R_drew)); exact HO_4.out⟩, ⟨by (with_reducible repeat (first | refine bN ?_ _ | refine bD ?_ | refine bA ?_ _)); exact BK199.out⟩, ⟨by repeat (first | (with_reducible first | exact HB.out | apply wA | apply wN | apply wD | refine wS ?_ GE199.out | refine wS ?_ GE209.out) | exact HB.out)⟩⟩
            ·
             replace c23 := Bool.eq_false_iff.mpr c23; subst c23
             have H1 : (none) = some r := by rw [if_neg (show ¬ (false = true) by decide)] at H; exact H
             clear H; have H := H1; clear H1; exact absurd H (by simp)
           ·
            rw [if_neg c21] at H; exact absurd H (by simp)
          ·
           rw [if_neg c20] at H; exact absurd H (by simp)
         ·
          rw [if_neg c19] at H; exact absurd H (by simp)
        ·
         rw [if_neg c18] at H; exact absurd H (by simp)
       ·
        rw [if_neg c17] at H; have c17b0 : decide (x31_1 < (l0_0.length : Int)) = false := decide_eq_false c17; clear c17; replace H := Option.bind_eq_some_iff.mp H; obtain ⟨t213, A320, H⟩ := H; replace H : (some t213) = some r := H; have A32 := Aside0.mk A320; clear A320; obtain rfl := Option.some.inj H; have hcz33_0 : wr.cell? ⟨gb199, 0, none⟩ = some (.slice (some ad201) l0_0.length c0_0) := (bC BK199.out 0).trans rfl; have hfz33_0 := bZ BK199.out 0
        go_wp2_with (first | ((with_reducible refine gate_callee (f := 75) rfl ?_); refine goesL_ (some 50) rfl rfl Try.func75 (by kernel_rfl) rfl #[.agg #[.slice (some ad201) l0_0.length c0_0]] rfl (by (try simp only [List.map_toArray, List.map_cons, List.map_nil]); first | done | rfl | (simp only [List.length_drop, List.length_take]; rfl)) ?_; (with_reducible refine (dir_apart.calls _ _ l0_0 t213 _ ?side1 ?side2 A32.out).mono ?_); (case side1 => repeat (first | exact (Kd.C_below HR0_0.out HB.out) | (with_reducible refine Kd.C_alloc ?_ _) | (with_reducible refine Kd.C_drewN ?_ _) | (with_reducible refine Kd.C_drew ?_))); (case side2 => exact HC0_0.out); rintro e w34 ⟨rfl, hb⟩; refine ⟨_, rfl, ?_⟩; have n0_ := Aside0.mk (Kd.R_below (by (with_reducible repeat (first | apply Kd.R_alloc | apply Kd.R_drewN | apply Kd.R_drew)); exact HO_3.out) hb); have n1_ := Aside0.mk (Kd.R_below (by (with_reducible repeat (first | apply Kd.R_alloc | apply Kd.R_drewN | apply Kd.R_drew)); exact HO_4.out) hb); have n2_ := Aside0.mk (bB (g := gb199) (o := .cells #[.slice (some ad201) l0_0.length c0_0] 24 (0, 0)) (by (with_reducible repeat (first | refine bN ?_ _ | refine bD ?_ | refine bA ?_ _)); exact BK199.out) hb); have n3_ := Aside0.mk (below_step (by repeat (first | (with_reducible first | exact HB.out | apply wA | apply wN | apply wD | refine wS ?_ GE199.out) | exact HB.out)) hb); clear HO_3; clear HO_4; clear BK199; clear HB; have HO_3 := n0_; have HO_4 := n1_; have BK199 := n2_; have HB := n3_; clear n0_ n1_ n2_ n3_; (try clear hb); (try clear hb2); (try clear hk); (try clear hi)))
        go_ret
        exact ⟨by first | rfl | exact congrArg (fun b_ => Ending.returned (Value.bool b_)) HRET.out | (rw [HRET.out]) | (simp [errW_none, errW_some] <;> rfl) | (simp [*, errW_none, errW_some] <;> rfl), by repeat (first | (with_reducible first | exact HB.out | apply wA | apply wN | apply wD | refine wS ?_ GE199.out) | exact HB.out)⟩
    ·
     rw [if_neg c6] at H; exact absurd H (by simp)
   ·
    rw [if_neg c5] at H; exact absurd H (by simp)
 ·
  rw [if_neg c2] at H; exact absurd H (by simp)
end Go.Proofs.Ytkigiehkckjlhaa.PMakes
