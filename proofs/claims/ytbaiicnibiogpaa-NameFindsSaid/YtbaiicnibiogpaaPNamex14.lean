/- The Go functions that these laws reach, each as a Lean function with the same answers (a law itself where it answers true), and the proof that the code comes to them; conditions: those of each theorem. Laid by a program of this session over the print. -/
import Derived.Test.YtbaiicnibiogpaaPNamex0
import Derived.Test.YtbaiicnibiogpaaPNamex4
import Derived.Test.YtbaiicnibiogpaaPNamex5
import Derived.Test.YtbaiicnibiogpaaPNamex11
import Derived.Test.YtbaiicnibiogpaaPNamex12
namespace Go.Proofs.Ytbaiicnibiogpaa.PName
open Go.RowKit Go.Proofs.YtbaiicnibiogpaaW.PrintWords Go.Proofs.YtbaiicnibiogpaaW.PrintLast Go.Proofs.YtbaiicnibiogpaaW.PrintMore
attribute [local go_sem] max2_int min2_int max_two min_two max_three min_three max_four min_four   -- for this text's walks alone
set_option linter.unusedVariables false
set_option linter.unusedSimpArgs false
open Go.Proofs.YtbaiicnibiogpaaW.PrintWords renaming blk_drewN → bN, blk_drew → bD, blk_alloc → bA, below_set → wS, below_alloc → wA, pw_below_drewN → wN, below_drew1 → wD, blk_below → bB, blk_far → bF, blk_cell → bC, blk_frozen → bZ
open List renaming setIfInBounds_toArray → lT, set_cons_zero → l0_, set_cons_succ → lS
abbrev B14_0 : Array Bool := #[false, false, false, false, false, false, false, false, false, false, false]
abbrev B14_1 : Array Bool := #[true, false, false, false, false, false, false, false, false, false, false]
abbrev B14_2 : Array Bool := #[true, true, false, false, false, false, false, false, false, false, false]
abbrev B14_3 : Array Bool := #[true, true, true, false, false, false, false, false, false, false, false]
abbrev B14_4 : Array Bool := #[true, true, true, true, false, false, false, false, false, false, false]
abbrev B14_5 : Array Bool := #[true, true, true, true, true, false, false, false, false, false, false]
abbrev B14_6 : Array Bool := #[true, true, true, true, true, true, false, false, false, false, false]
abbrev B14_7 : Array Bool := #[true, true, true, true, true, true, true, false, false, false, false]
abbrev B14_8 : Array Bool := #[true, true, true, true, true, true, true, true, false, false, false]
abbrev B14_9 : Array Bool := #[true, true, true, true, true, true, true, true, true, false, false]
abbrev B14_10 : Array Bool := #[true, true, true, true, true, true, true, true, true, true, false]
abbrev B14_11 : Array Bool := #[true, true, true, true, true, true, true, true, true, true, true]

/-! ### name_Without: function 20 -/
def name_Without.f (k : Nat) (l0 : List (S38)) (a1 : ByteArray) : Option ((List (S38)) × Int) := (name_May.f k l0).bind fun t260 => (if t260 = true then ((name_place.f l0 a1).bind fun t261 => (if t261 < 0 then (some (([] : List (S38)), 8)) else (if 0 ≤ t261 then (if t261 ≤ (l0.length : Int) then (if 0 ≤ (wrap64 (t261 + 1)) then (if (wrap64 (t261 + 1)) ≤ (l0.length : Int) then ((api_Entry_42.f k (([(l0.take (t261 : Int).toNat), (l0.drop ((wrap64 (t261 + 1)) : Int).toNat)] : List (List (S38))))).bind fun t275 => (some (t275, 0))) else (none)) else (none)) else (none)) else (none)))) else (some (([] : List (S38)), 1)))
theorem name_Without.mono : ∀ a0 a1 k, LeO (name_Without.f k a0 a1) (name_Without.f (k + 1) a0 a1) := by
 intro a0 a1 k
 unfold name_Without.f
 repeat' first
  | (with_reducible exact api_Entry_42.mono _ _)
  | (with_reducible exact name_May.mono _ _)
  | (with_reducible exact LeO.refl _)
  | (with_reducible exact LeO.none _)
  | (with_reducible refine LeO.ite ?_ ?_)
  | (with_reducible refine LeO.bind ?_ (fun _ => ?_))
  | exact api_Entry_42.mono _ _
  | exact name_May.mono _ _
  | exact LeO.none _
  | refine LeO.ite ?_ ?_
  | refine LeO.bind ?_ (fun _ => ?_)
def name_Without.T6 : Bool × List (List Nat × List Nat) := (true, [([], []), ([], []), ([0, 1], [0, 1]), ([], []), ([], []), ([4], [4]), ([3, 5], [3, 5]), ([2, 6], [2, 6]), ([7], [7]), ([8, 8, 0, 1, 2, 3, 4, 5, 6, 7, 8], [8]), ([9, 0, 1, 2, 3, 4, 5, 6, 7, 8, 9], [])])
def name_Without.B6 : List Nat := [0, 0, 3, 0, 0, 16, 56, 127, 255, 511, 1023]
theorem name_Without.tab6 : rtab .any (opsOf Try.f20 6) = name_Without.T6 := by kernel_rfl
theorem name_Without.bits6 : waitsOk name_Without.T6.2 name_Without.B6 = true := by kernel_rfl
set_option maxHeartbeats 8000000 in
set_option maxRecDepth 100000 in
theorem name_Without.calls (k : Nat) (P0_ : Nat → Prop) (A0 : Option Addr) (c0 : Nat) (l0 : List (S38)) (a1 : ByteArray) (r1 : List (S38)) (r2 : Int) (w : World) (hs0 : Kd.V k38 38 w w.heap.size (fun k_ => P0_ k_) (.slice A0 l0.length c0) l0) (h : name_Without.f k l0 a1 = some (r1, r2)) :
 Calls Try.prog 20 #[.slice A0 l0.length c0, .string a1] w fun e w' => ∃ v0_ : Value, e = .returned (.tuple #[v0_, .int .i64 r2]) ∧ Kd.R k38 38 w' w.heap.size (fun k_ => (w.heap.size ≤ k_)) v0_ r1 ∧ Below w.heap.size w w' := by
 have HO0 := Aside0.mk (show Kd.V k38 38 w w.heap.size (fun k_ => (P0_ k_ ∨ w.heap.size ≤ k_)) (.slice A0 l0.length c0) l0 from Kd.V_mono hs0 (fun k_ hk => .inl hk)); have HB := Aside0.mk (Below.refl w.heap.size w); have H : ((name_May.f k l0).bind fun t260 => (if t260 = true then ((name_place.f l0 a1).bind fun t261 => (if t261 < 0 then (some (([] : List (S38)), 8)) else (if 0 ≤ t261 then (if t261 ≤ (l0.length : Int) then (if 0 ≤ (wrap64 (t261 + 1)) then (if (wrap64 (t261 + 1)) ≤ (l0.length : Int) then ((api_Entry_42.f k (([(l0.take (t261 : Int).toNat), (l0.drop ((wrap64 (t261 + 1)) : Int).toNat)] : List (List (S38))))).bind fun t275 => (some (t275, 0))) else (none)) else (none)) else (none)) else (none)))) else (some (([] : List (S38)), 1)))) = some (r1, r2) := h; clear h; replace H := Option.bind_eq_some_iff.mp H; obtain ⟨t260, A30, H⟩ := H; replace H : (if t260 = true then ((name_place.f l0 a1).bind fun t261 => (if t261 < 0 then (some (([] : List (S38)), 8)) else (if 0 ≤ t261 then (if t261 ≤ (l0.length : Int) then (if 0 ≤ (wrap64 (t261 + 1)) then (if (wrap64 (t261 + 1)) ≤ (l0.length : Int) then ((api_Entry_42.f k (([(l0.take (t261 : Int).toNat), (l0.drop ((wrap64 (t261 + 1)) : Int).toNat)] : List (List (S38))))).bind fun t275 => (some (t275, 0))) else (none)) else (none)) else (none)) else (none)))) else (some (([] : List (S38)), 1))) = some (r1, r2) := H; have A3 := Aside0.mk A30; clear A30
 by_cases c4 : t260 = true
 ·
  subst c4
  have H1 : ((name_place.f l0 a1).bind fun t261 => (if t261 < 0 then (some (([] : List (S38)), 8)) else (if 0 ≤ t261 then (if t261 ≤ (l0.length : Int) then (if 0 ≤ (wrap64 (t261 + 1)) then (if (wrap64 (t261 + 1)) ≤ (l0.length : Int) then ((api_Entry_42.f k (([(l0.take (t261 : Int).toNat), (l0.drop ((wrap64 (t261 + 1)) : Int).toNat)] : List (List (S38))))).bind fun t275 => (some (t275, 0))) else (none)) else (none)) else (none)) else (none)))) = some (r1, r2) := by rw [if_pos rfl] at H; exact H
  clear H; have H := H1; clear H1; replace H := Option.bind_eq_some_iff.mp H; obtain ⟨t261, A50, H⟩ := H; replace H : (if t261 < 0 then (some (([] : List (S38)), 8)) else (if 0 ≤ t261 then (if t261 ≤ (l0.length : Int) then (if 0 ≤ (wrap64 (t261 + 1)) then (if (wrap64 (t261 + 1)) ≤ (l0.length : Int) then ((api_Entry_42.f k (([(l0.take (t261 : Int).toNat), (l0.drop ((wrap64 (t261 + 1)) : Int).toNat)] : List (List (S38))))).bind fun t275 => (some (t275, 0))) else (none)) else (none)) else (none)) else (none))) = some (r1, r2) := H; have A5 := Aside0.mk A50; clear A50
  by_cases c6 : t261 < 0
  ·
   rw [if_pos c6] at H; have c6b0 : decide (t261 < 0) = true := decide_eq_true c6; clear c6; simp only [Option.some.injEq, Prod.mk.injEq] at H; obtain ⟨rfl, rfl⟩ := H
   go_enter Try.func20, Try.ntmps20
   go_wp2_with (first | ((with_reducible refine gate_callee (f := 16) rfl ?_); refine goesL_ (some 8) rfl rfl Try.func16 (by kernel_rfl) rfl #[.slice A0 l0.length c0] rfl (by (try simp only [List.map_toArray, List.map_cons, List.map_nil]); first | done | rfl | (simp only [List.length_drop, List.length_take]; rfl)) ?_; (with_reducible refine (name_May.calls k _ _ l0 true _ ?side1 ?side2 A3.out).mono ?_); (case side1 => repeat (first | exact (Kd.V_reads' HO0.out).2.2 | (with_reducible refine Kd.C_alloc ?_ _) | (with_reducible refine Kd.C_drewN ?_ _) | (with_reducible refine Kd.C_drew ?_))); (case side2 => exact (Kd.V_reads' HO0.out).2.1); rintro e w7 ⟨rfl, hb⟩; refine ⟨_, rfl, ?_⟩; have n0_ := Aside0.mk (Kd.V_below (by (with_reducible repeat (first | apply Kd.V_alloc | apply Kd.V_drewN | apply Kd.V_drew)); exact HO0.out) hb); have n1_ := Aside0.mk (below_step (by repeat (first | (with_reducible first | exact HB.out | apply wA | apply wN | apply wD) | exact HB.out)) hb); clear HO0; clear HB; have HO0 := n0_; have HB := n1_; clear n0_ n1_; (try clear hb); (try clear hb2); (try clear hk); (try clear hi)) | ((with_reducible refine gate_callee (f := 41) rfl ?_); refine goesL_ (some 12) rfl rfl Try.func41 (by kernel_rfl) rfl #[.slice A0 l0.length c0, .string a1] rfl (by (try simp only [List.map_toArray, List.map_cons, List.map_nil]); first | done | rfl | (simp only [List.length_drop, List.length_take]; rfl)) ?_; (with_reducible refine (name_place.calls _ _ l0 a1 t261 _ ?side1 ?side2 A5.out).mono ?_); (case side1 => repeat (first | exact (Kd.V_reads' HO0.out).2.2 | (with_reducible refine Kd.C_alloc ?_ _) | (with_reducible refine Kd.C_drewN ?_ _) | (with_reducible refine Kd.C_drew ?_))); (case side2 => exact (Kd.V_reads' HO0.out).2.1); rintro e w8 ⟨rfl, hb⟩; refine ⟨_, rfl, ?_⟩; have n0_ := Aside0.mk (Kd.V_below (by (with_reducible repeat (first | apply Kd.V_alloc | apply Kd.V_drewN | apply Kd.V_drew)); exact HO0.out) hb); have n1_ := Aside0.mk (below_step (by repeat (first | (with_reducible first | exact HB.out | apply wA | apply wN | apply wD) | exact HB.out)) hb); clear HO0; clear HB; have HO0 := n0_; have HB := n1_; clear n0_ n1_; (try clear hb); (try clear hb2); (try clear hk); (try clear hi)))
   go_ret2
   exact ⟨_, by first | rfl | exact congrArg (fun b_ => Ending.returned (Value.bool b_)) HRET.out | (rw [HRET.out]) | (simp [errW_none, errW_some] <;> rfl) | (simp [*, errW_none, errW_some] <;> rfl), by first | exact Kd.R_nil _ _ _ _ _ | exact Kd.N_nil _ _ _ _ _ | exact Kd.V_nil _ _ _ _ _ | exact Kd.Q_nil _ _ _ _ _ | exact Kd.S_nil _ _ _ _ _, by repeat (first | (with_reducible first | exact HB.out | apply wA | apply wN | apply wD) | exact HB.out)⟩
  ·
   rw [if_neg c6] at H; have c6b0 : decide (t261 < 0) = false := decide_eq_false c6; clear c6
   by_cases c9 : 0 ≤ t261
   ·
    rw [if_pos c9] at H; have c9b0 := eq_true c9; have c9b1 : decide (0 ≤ t261) = true := decide_eq_true c9; clear c9
    by_cases c10 : t261 ≤ (l0.length : Int)
    ·
     rw [if_pos c10] at H; have c10b0 := eq_true c10; have c10b1 : decide (t261 ≤ (l0.length : Int)) = true := decide_eq_true c10; clear c10; obtain ⟨y262, hy262⟩ : ∃ y_ : List (S38), y_ = (l0.take (t261 : Int).toNat) := ⟨_, rfl⟩
     replace H : (if 0 ≤ (wrap64 (t261 + 1)) then (if (wrap64 (t261 + 1)) ≤ (l0.length : Int) then ((api_Entry_42.f k (([y262, (l0.drop ((wrap64 (t261 + 1)) : Int).toNat)] : List (List (S38))))).bind fun t275 => (some (t275, 0))) else (none)) else (none)) = some (r1, r2) := by first | (rw [hy262]; with_reducible exact H) | (have H2_ := (Option.bind_some _ _).symm.trans H; rw [hy262]; with_reducible exact H2_) | (have H2_ := (Option.bind_some _ _).symm.trans H; with_reducible exact H2_) | with_reducible exact H | (rw [hy262]; exact H) | exact H
     have Ny262 := Aside0.mk hy262; clear hy262; obtain ⟨ji11, hji11⟩ : ∃ j_ : Int, (wrap64 (t261 + 1)) = j_ := ⟨_, rfl⟩
     replace H : (if 0 ≤ (ji11) then (if (ji11) ≤ (l0.length : Int) then ((api_Entry_42.f k (([y262, (l0.drop ((ji11) : Int).toNat)] : List (List (S38))))).bind fun t275 => (some (t275, 0))) else (none)) else (none)) = some (r1, r2) := by first | (rw [hji11] at H; exact H) | (simp only [hji11] at H ⊢; exact H)
     (try rw [hji11] at A3)
     (try rw [hji11] at A5)
     have hji11w : (IntKind.i64.wrap (t261 + 1)) = ji11 := (i64_w _).trans hji11
     by_cases c12 : 0 ≤ (ji11)
     ·
      rw [if_pos c12] at H; have c12b0 := eq_true c12; have c12b1 : decide (0 ≤ (ji11)) = true := decide_eq_true c12; clear c12
      by_cases c13 : (ji11) ≤ (l0.length : Int)
      ·
       rw [if_pos c13] at H; have c13b0 := eq_true c13; have c13b1 : decide ((ji11) ≤ (l0.length : Int)) = true := decide_eq_true c13; clear c13; obtain ⟨y267, hy267⟩ : ∃ y_ : List (S38), y_ = (l0.drop ((ji11) : Int).toNat) := ⟨_, rfl⟩
       replace H : ((api_Entry_42.f k (([y262, y267] : List (List (S38))))).bind fun t275 => (some (t275, 0))) = some (r1, r2) := by first | (rw [hy267]; with_reducible exact H) | (have H2_ := (Option.bind_some _ _).symm.trans H; rw [hy267]; with_reducible exact H2_) | (have H2_ := (Option.bind_some _ _).symm.trans H; with_reducible exact H2_) | with_reducible exact H | (rw [hy267]; exact H) | exact H
       have Ny267 := Aside0.mk hy267; clear hy267; obtain ⟨y272, hy272⟩ : ∃ y_ : List (List (S38)), y_ = (([y262, y267] : List (List (S38)))) := ⟨_, rfl⟩
       replace H : ((api_Entry_42.f k y272).bind fun t275 => (some (t275, 0))) = some (r1, r2) := by first | (rw [hy272]; with_reducible exact H) | (have H2_ := (Option.bind_some _ _).symm.trans H; rw [hy272]; with_reducible exact H2_) | (have H2_ := (Option.bind_some _ _).symm.trans H; with_reducible exact H2_) | with_reducible exact H | (rw [hy272]; exact H) | exact H
       have Ny272 := Aside0.mk hy272; clear hy272; replace H := Option.bind_eq_some_iff.mp H; obtain ⟨t275, A140, H⟩ := H; replace H : (some (t275, 0)) = some (r1, r2) := H; have A14 := Aside0.mk A140; clear A140; simp only [Option.some.injEq, Prod.mk.injEq] at H; obtain ⟨rfl, rfl⟩ := H
       go_enter Try.func20, Try.ntmps20
       try go_wp2_with (first | ((with_reducible refine gate_callee (f := 16) rfl ?_); refine goesL_ (some 8) rfl rfl Try.func16 (by kernel_rfl) rfl #[.slice A0 l0.length c0] rfl (by (try simp only [List.map_toArray, List.map_cons, List.map_nil]); first | done | rfl | (simp only [List.length_drop, List.length_take]; rfl)) ?_; (with_reducible refine (name_May.calls k _ _ l0 true _ ?side1 ?side2 A3.out).mono ?_); (case side1 => repeat (first | exact (Kd.V_reads' HO0.out).2.2 | (with_reducible refine Kd.C_alloc ?_ _) | (with_reducible refine Kd.C_drewN ?_ _) | (with_reducible refine Kd.C_drew ?_))); (case side2 => exact (Kd.V_reads' HO0.out).2.1); rintro e w15 ⟨rfl, hb⟩; refine ⟨_, rfl, ?_⟩; have n0_ := Aside0.mk (Kd.V_below (by (with_reducible repeat (first | apply Kd.V_alloc | apply Kd.V_drewN | apply Kd.V_drew)); exact HO0.out) hb); have n1_ := Aside0.mk (below_step (by repeat (first | (with_reducible first | exact HB.out | apply wA | apply wN | apply wD) | exact HB.out)) hb); clear HO0; clear HB; have HO0 := n0_; have HB := n1_; clear n0_ n1_; (try clear hb); (try clear hb2); (try clear hk); (try clear hi)) | ((with_reducible refine gate_callee (f := 41) rfl ?_); refine goesL_ (some 12) rfl rfl Try.func41 (by kernel_rfl) rfl #[.slice A0 l0.length c0, .string a1] rfl (by (try simp only [List.map_toArray, List.map_cons, List.map_nil]); first | done | rfl | (simp only [List.length_drop, List.length_take]; rfl)) ?_; (with_reducible refine (name_place.calls _ _ l0 a1 t261 _ ?side1 ?side2 A5.out).mono ?_); (case side1 => repeat (first | exact (Kd.V_reads' HO0.out).2.2 | (with_reducible refine Kd.C_alloc ?_ _) | (with_reducible refine Kd.C_drewN ?_ _) | (with_reducible refine Kd.C_drew ?_))); (case side2 => exact (Kd.V_reads' HO0.out).2.1); rintro e w16 ⟨rfl, hb⟩; refine ⟨_, rfl, ?_⟩; have n0_ := Aside0.mk (Kd.V_below (by (with_reducible repeat (first | apply Kd.V_alloc | apply Kd.V_drewN | apply Kd.V_drew)); exact HO0.out) hb); have n1_ := Aside0.mk (below_step (by repeat (first | (with_reducible first | exact HB.out | apply wA | apply wN | apply wD) | exact HB.out)) hb); clear HO0; clear HB; have HO0 := n0_; have HB := n1_; clear n0_ n1_; (try clear hb); (try clear hb2); (try clear hk); (try clear hi)))
       have n0_ := Aside0.mk (Kd.V_drew HO0.out); have n1_ := Aside0.mk (wD HB.out); clear HO0; clear HB; have HO0 := n0_; have HB := n1_; clear n0_ n1_; have q18 : (t261 : Int) ≤ ((l0.length : Int) : Int) := of_decide_eq_true (by first | (with_reducible assumption) | assumption); obtain ⟨i018, hi018, _, hsz18, _⟩ := info_parts info38; have hroom18 : l0.length ≤ c0 := (Kd.V_reads' HO0.out).2.1; have hC18 : Kd.F k38 _ _ A0 l0.length l0 := (Kd.V_at (base := w.heap.size) HO0.out).2.2; have hcut18 := cut_to (P := Try.prog) 26 38 .i64 Try.underlying26 hi018 A0 l0.length c0 t261 (of_decide_eq_true (by first | (with_reducible assumption) | assumption)) q18 hroom18; have hr18 := Kd.F_take (m := (t261 : Int).toNat) hC18 (by omega); have hy18 : y262.length = (t261 : Int).toNat := (by rw [Ny262.out, List.length_take]; omega)
       rw [← Ny262.out] at hr18; rw [← hy18] at hcut18; have HO266 := Aside0.mk (show Kd.V k38 38 _ w.heap.size _ (.slice A0 y262.length c0) y262 from Kd.V_mk (by omega) hr18); have HC266 := Aside0.mk (show y262.length ≤ c0 from by omega); clear hr18 hC18 hroom18 hi018 hsz18; have KY18 := Aside0.mk hy18; clear hy18; replace q18 := eq_true q18; have q19 : ((ji11) : Int) ≤ ((l0.length : Int) : Int) := of_decide_eq_true (by first | (with_reducible assumption) | assumption); obtain ⟨i019, hi019, _, hsz19, _⟩ := info_parts info38; have hroom19 : l0.length ≤ c0 := (Kd.V_reads' HO0.out).2.1; have hC19 : Kd.F k38 _ _ A0 l0.length l0 := (Kd.V_at (base := w.heap.size) HO0.out).2.2; have q019 : (0 : Int) ≤ ((ji11) : Int) := of_decide_eq_true (by first | (with_reducible assumption) | assumption); have hcut19 := cut_from (P := Try.prog) 26 38 .i64 Try.underlying26 hi019 2 hsz19 A0 l0.length c0 (ji11) q019 q19; have hr19 := Kd.F_cut (m := ((ji11) : Int).toNat) (c := c0) hC19 (by omega) hroom19; obtain ⟨A19, hA19⟩ : ∃ A1, A1 = (if c0 = ((ji11) : Int).toNat then A0 else (A0 : Option Addr).map (·.add (((ji11) : Int).toNat * 2))) := ⟨_, rfl⟩; obtain ⟨c19, hc19⟩ : ∃ c1, c1 = c0 - ((ji11) : Int).toNat := ⟨_, rfl⟩; have hy19 : y267.length = l0.length - ((ji11) : Int).toNat := (by rw [Ny267.out, List.length_drop] <;> omega); rw [show (l0).drop ((ji11) : Int).toNat = y267 from Ny267.out.symm] at hr19; replace hr19 : Kd.F k38 _ _ A19 y267.length y267 := (by rw [hA19]; exact hr19)
       rw [← hy19, ← hA19, ← hc19] at hcut19; have HO271 := Aside0.mk (show Kd.V k38 38 _ w.heap.size _ (.slice A19 y267.length c19) y267 from Kd.V_mk (by rw [hy19, hc19]; exact Nat.sub_le_sub_right hroom19 _) hr19)
       have HC271 := Aside0.mk (show y267.length ≤ c19 from by rw [hy19, hc19]; exact Nat.sub_le_sub_right hroom19 _)
       clear hr19 hC19 hroom19 hi019 hsz19 hc19; have KY19 := Aside0.mk hy19; have KA19 := Aside0.mk hA19; clear hy19 hA19; replace q19 := eq_true q19; refine start_ (n := 11) (S := fun w' => True) (ds := []) B14_0 (by kernel_rfl) rfl rfl trivial (fun hHeld => ?_); refine with_tabW name_Without.tab6 name_Without.bits6 (fun HT_ HW_ => ?_); generalize w16.drew = w17 at HO0 HB HO266 HO271 hHeld ⊢; refine pure_ (i := 0) (N := some 15) (v := ?_) (a' := ?_) B14_1 rfl rfl (any_of HT_.out (by kernel_rfl)) (fun _ _ _ h => h) (Or.inl ⟨by rfl, ?_⟩) ?_ ?_; rotate_left
       ·
        intro w'; go_simp; with_reducible rfl
       rotate_left
       ·
        simp only [Act.put, lT, l0_, lS, i64_w, i32_w]; rfl
       refine pure_ (i := 1) (N := some 16) (v := ?_) (a' := ?_) B14_2 rfl rfl (any_of HT_.out (by kernel_rfl)) (fun _ _ _ h => h) (Or.inl ⟨by rfl, ?_⟩) ?_ ?_; rotate_left
       ·
        intro w'; go_simp; with_reducible rfl
       rotate_left
       ·
        simp only [Act.put, lT, l0_, lS, i64_w, i32_w]; rfl
       refine pure_ (i := 2) (N := some 17) (v := ?_) (a' := ?_) B14_3 rfl rfl (any_of HT_.out (by kernel_rfl)) (fun _ _ _ h => h) (Or.inl ⟨by rfl, ?_⟩) ?_ ?_; rotate_left
       ·
        intro w'; go_simp; with_reducible rfl
       rotate_left
       ·
        simp only [Act.put, lT, l0_, lS, i64_w, i32_w]; rfl
       refine pure_ (i := 3) (N := some 18) (v := ?_) (a' := ?_) B14_4 rfl rfl (any_of HT_.out (by kernel_rfl)) (fun _ _ _ h => h) (Or.inl ⟨by rfl, ?_⟩) ?_ ?_; rotate_left
       ·
        intro w'; go_simp; with_reducible rfl
       rotate_left
       ·
        simp only [Act.put, lT, l0_, lS, i64_w, i32_w]; rfl
       refine pure_ (i := 4) (N := some 19) (v := ?_) (a' := ?_) B14_5 rfl rfl (any_of HT_.out (by kernel_rfl)) (fun _ _ _ h => h) (Or.inl ⟨by rfl, ?_⟩) ?_ ?_; rotate_left
       ·
        intro w'; go_simp; with_reducible rfl
       rotate_left
       ·
        simp only [Act.put, lT, l0_, lS, i64_w, i32_w]; rfl
       refine pure_ (i := 5) (N := some 20) (v := ?_) (a' := ?_) B14_6 rfl rfl (any_of HT_.out (by kernel_rfl)) (fun _ _ _ h => h) (Or.inl ⟨by rfl, ?_⟩) ?_ ?_; rotate_left
       ·
        intro w'; go_simp; with_reducible rfl
       rotate_left
       ·
        simp only [Act.put, lT, l0_, lS, i64_w, i32_w]; rfl
       refine pure_ (i := 6) (N := some 21) (v := ?_) (a' := ?_) B14_7 rfl rfl (any_of HT_.out (by kernel_rfl)) (fun _ _ _ h => h) (Or.inl ⟨by rfl, ?_⟩) ?_ ?_; rotate_left
       ·
        intro w'; go_simp; with_reducible rfl
       rotate_left
       ·
        simp only [Act.put, lT, l0_, lS, i64_w, i32_w]; rfl
       refine one_ (i := 7) (N := some 22) B14_8 rfl rfl (one_of HT_.out (by kernel_rfl)) (by decide) (fun K hK => ?_); refine Kd.N_lit_step (Kd.slice 38 k38) _ 26 ?hg (N' := 22) ?hd (xs := ([y262, y267] : List (List (S38)))) (inner := [.slice A0 y262.length c0, .slice A19 y267.length c19]) (ok := (fun k_ => (P0_ k_ ∨ w.heap.size ≤ k_))) (okp := (fun k_ => (P0_ k_ ∨ w.heap.size ≤ k_))) ?hr ?hp (fun _ hk => hk) ((show ∀ k_, w17.heap.size ≤ k_ → (fun k_ => (P0_ k_ ∨ w.heap.size ≤ k_)) k_ from fun k_ hk => (.inr (Nat.le_trans (below_size (by repeat (first | (with_reducible first | exact HB.out | apply wA | apply wN | apply wD) | exact HB.out))) hk))) _ (Nat.le_refl _)) (Below.refl _ _) (Nat.le_refl _) (by simp) ?_; (case hd => rfl); (case hg => rfl); (case hr => first | (go_simp; done) | (go_simp; rfl)); (case hp => exact (Reps.one (show Kd.FK (Kd.slice 38 k38) _ _ y262 [.slice A0 y262.length c0] from (Kd.FK_slice_mk (Kd.V_reads' (Kd.V_mono (ok' := (fun k_ => (P0_ k_ ∨ w.heap.size ≤ k_))) (HO266.out) (fun k_ hk => hk))).2.1 (Kd.V_F (Kd.V_mono (ok' := (fun k_ => (P0_ k_ ∨ w.heap.size ≤ k_))) (HO266.out) (fun k_ hk => hk))))) (Reps.one (show Kd.FK (Kd.slice 38 k38) _ _ y267 [.slice A19 y267.length c19] from (Kd.FK_slice_mk (Kd.V_reads' (Kd.V_mono (ok' := (fun k_ => (P0_ k_ ∨ w.heap.size ≤ k_))) (HO271.out) (fun k_ hk => hk))).2.1 (Kd.V_F (Kd.V_mono (ok' := (fun k_ => (P0_ k_ ∨ w.heap.size ≤ k_))) (HO271.out) (fun k_ hk => hk))))) (Reps.none _ _))))
       intro v273 w20 ho21 hb hg_ hnew_; clear hg_ hnew_
       (first | rw [← Ny272.out] at ho21 | (simp only [Int.reduceToNat] at ho21; rw [← Ny272.out] at ho21))
       have n0_ := Aside0.mk (Kd.V_elder' (by (with_reducible repeat (first | apply Kd.V_alloc | apply Kd.V_drewN | apply Kd.V_drew)); exact HO0.out) (Kd.N_base ho21) hb)
       have n1_ := Aside0.mk (Kd.V_elder' (by (with_reducible repeat (first | apply Kd.V_alloc | apply Kd.V_drewN | apply Kd.V_drew)); exact HO266.out) (Kd.N_base ho21) hb)
       have n2_ := Aside0.mk (Kd.V_elder' (by (with_reducible repeat (first | apply Kd.V_alloc | apply Kd.V_drewN | apply Kd.V_drew)); exact HO271.out) (Kd.N_base ho21) hb)
       have n3_ := Aside0.mk (Kd.N_lower ho21 (below_size (by repeat (first | (with_reducible first | exact HB.out | apply wA | apply wN | apply wD) | exact HB.out)))); have n4_ := Aside0.mk (below_step (by repeat (first | (with_reducible first | exact HB.out | apply wA | apply wN | apply wD) | exact HB.out)) hb); clear HO0; clear HO266; clear HO271; clear HB; have HO0 := n0_; have HO266 := n1_; have HO271 := n2_; have HO274 := n3_; have HB := n4_; clear n0_ n1_ n2_ n3_ n4_; clear hb ho21; obtain ⟨Ao22, co22, eo22⟩ := Kd.N_slice HO274.out
       (first | subst eo22 | (injection eo22 with f1_ f2_ f3_; have f4_ := f1_.symm; have f5_ := f3_.symm; clear f1_ f2_ f3_; subst f4_; subst f5_))
       refine hK.out _ _ trivial (fun hHeld => ?_); clear hK K; refine norm_ (a' := ?_) ?_ ?_; rotate_left
       ·
        show Act.put _ (some 22) _ = _
        simp only [Act.put, lT, l0_, lS, i64_w, i32_w]; rfl
       refine one_ (i := 8) (N := some 23) B14_9 rfl rfl (one_of HT_.out (by kernel_rfl)) (by decide) (fun K hK => ?_); refine goes_ Try.func42 (by kernel_rfl) rfl #[.slice Ao22 y272.length co22] (by rfl) rfl rfl (by (try simp only [List.map_toArray, List.map_cons, List.map_nil]); first | done | rfl | (simp only [List.length_drop, List.length_take]; rfl)) ?_
       with_reducible refine (api_Entry_42.calls k _ _ y272 t275 _ ?side1 ?side2 A14.out).mono ?_
       (case side1 => repeat (first | exact (Kd.N_reads' HO274.out).2.2 | (with_reducible refine Kd.C_alloc ?_ _) | (with_reducible refine Kd.C_drewN ?_ _) | (with_reducible refine Kd.C_drew ?_)))
       (case side2 => exact (Kd.N_reads' HO274.out).2.1)
       rintro e w23 ⟨v276, rfl, ho0, hb⟩; refine ⟨_, rfl, ?_⟩; have n0_ := Aside0.mk (Kd.V_elder' (by (with_reducible repeat (first | apply Kd.V_alloc | apply Kd.V_drewN | apply Kd.V_drew)); exact HO0.out) (Kd.R_base ho0) hb)
       have n1_ := Aside0.mk (Kd.V_elder' (by (with_reducible repeat (first | apply Kd.V_alloc | apply Kd.V_drewN | apply Kd.V_drew)); exact HO266.out) (Kd.R_base ho0) hb)
       have n2_ := Aside0.mk (Kd.V_elder' (by (with_reducible repeat (first | apply Kd.V_alloc | apply Kd.V_drewN | apply Kd.V_drew)); exact HO271.out) (Kd.R_base ho0) hb)
       have n3_ := Aside0.mk (Kd.N_elder' (by (with_reducible repeat (first | apply Kd.N_alloc | apply Kd.N_drewN | apply Kd.N_drew)); exact HO274.out) (Kd.R_base ho0) hb)
       have n4_ := Aside0.mk (Kd.R_lower (Kd.R_newM (M := fun k_ => (w.heap.size ≤ k_)) ho0 (below_size (by repeat (first | (with_reducible first | exact HB.out | apply wA | apply wN | apply wD) | exact HB.out))) (fun k_ h_ => h_)) (below_size (by repeat (first | (with_reducible first | exact HB.out | apply wA | apply wN | apply wD) | exact HB.out)))); have n5_ := Aside0.mk (below_step (by repeat (first | (with_reducible first | exact HB.out | apply wA | apply wN | apply wD) | exact HB.out)) hb); clear HO0; clear HO266; clear HO271; clear HO274; clear HB; have HO0 := n0_; have HO266 := n1_; have HO271 := n2_; have HO274 := n3_; have HO277 := n4_; have HB := n5_; clear n0_ n1_ n2_ n3_ n4_ n5_
       (try clear hb)
       (try clear hb2)
       (try clear hk)
       (try clear hi)
       (try clear ho0)
       refine hK.out _ _ trivial (fun hHeld => ?_); clear hK K; refine norm_ (a' := ?_) ?_ ?_; rotate_left
       ·
        show Act.put _ (some 23) _ = _
        simp only [Act.put, lT, l0_, lS, i64_w, i32_w]; rfl
       refine pure_ (i := 9) (N := some 4) (v := ?_) (a' := ?_) B14_10 rfl rfl (any_of HT_.out (by kernel_rfl)) (fun _ _ _ h => h) (Or.inl ⟨by rfl, ?_⟩) ?_ ?_; rotate_left
       ·
        intro w'; go_simp; with_reducible rfl
       rotate_left
       ·
        simp only [Act.put, lT, l0_, lS, i64_w, i32_w]; rfl
       refine pure_ (i := 10) (N := some 5) (v := ?_) (a' := ?_) B14_11 rfl rfl (any_of HT_.out (by kernel_rfl)) (fun _ _ _ h => h) (Or.inl ⟨by rfl, ?_⟩) ?_ ?_; rotate_left
       ·
        intro w'; go_simp; with_reducible rfl
       rotate_left
       ·
        simp only [Act.put, lT, l0_, lS, i64_w, i32_w]; rfl
       refine done_ (done_of HT_.out (by kernel_rfl)) ?_
       try go_wp2
       go_ret2
       exact ⟨_, by first | rfl | exact congrArg (fun b_ => Ending.returned (Value.bool b_)) HRET.out | (rw [HRET.out]) | (simp [errW_none, errW_some] <;> rfl) | (simp only [← hji11]; first | rfl | (simp [errW_none, errW_some] <;> rfl)) | (simp [*, errW_none, errW_some] <;> rfl), by (with_reducible repeat (first | apply Kd.R_alloc | apply Kd.R_drewN | apply Kd.R_drew)); exact Kd.R_mono HO277.out (fun _ hk => hk.1), by repeat (first | (with_reducible first | exact HB.out | apply wA | apply wN | apply wD) | exact HB.out)⟩
      ·
       rw [if_neg c13] at H; exact absurd H (by simp)
     ·
      rw [if_neg c12] at H; exact absurd H (by simp)
    ·
     rw [if_neg c10] at H; exact absurd H (by simp)
   ·
    rw [if_neg c9] at H; exact absurd H (by simp)
 ·
  replace c4 := Bool.eq_false_iff.mpr c4; subst c4
  have H1 : (some (([] : List (S38)), 1)) = some (r1, r2) := by rw [if_neg (show ¬ (false = true) by decide)] at H; exact H
  clear H; have H := H1; clear H1; simp only [Option.some.injEq, Prod.mk.injEq] at H; obtain ⟨rfl, rfl⟩ := H
  go_enter Try.func20, Try.ntmps20
  go_wp2_with (first | ((with_reducible refine gate_callee (f := 16) rfl ?_); refine goesL_ (some 8) rfl rfl Try.func16 (by kernel_rfl) rfl #[.slice A0 l0.length c0] rfl (by (try simp only [List.map_toArray, List.map_cons, List.map_nil]); first | done | rfl | (simp only [List.length_drop, List.length_take]; rfl)) ?_; (with_reducible refine (name_May.calls k _ _ l0 false _ ?side1 ?side2 A3.out).mono ?_); (case side1 => repeat (first | exact (Kd.V_reads' HO0.out).2.2 | (with_reducible refine Kd.C_alloc ?_ _) | (with_reducible refine Kd.C_drewN ?_ _) | (with_reducible refine Kd.C_drew ?_))); (case side2 => exact (Kd.V_reads' HO0.out).2.1); rintro e w24 ⟨rfl, hb⟩; refine ⟨_, rfl, ?_⟩; have n0_ := Aside0.mk (Kd.V_below (by (with_reducible repeat (first | apply Kd.V_alloc | apply Kd.V_drewN | apply Kd.V_drew)); exact HO0.out) hb); have n1_ := Aside0.mk (below_step (by repeat (first | (with_reducible first | exact HB.out | apply wA | apply wN | apply wD) | exact HB.out)) hb); clear HO0; clear HB; have HO0 := n0_; have HB := n1_; clear n0_ n1_; (try clear hb); (try clear hb2); (try clear hk); (try clear hi)))
  go_ret2
  exact ⟨_, by first | rfl | exact congrArg (fun b_ => Ending.returned (Value.bool b_)) HRET.out | (rw [HRET.out]) | (simp [errW_none, errW_some] <;> rfl) | (simp [*, errW_none, errW_some] <;> rfl), by first | exact Kd.R_nil _ _ _ _ _ | exact Kd.N_nil _ _ _ _ _ | exact Kd.V_nil _ _ _ _ _ | exact Kd.Q_nil _ _ _ _ _ | exact Kd.S_nil _ _ _ _ _, by repeat (first | (with_reducible first | exact HB.out | apply wA | apply wN | apply wD) | exact HB.out)⟩

/-! ### potsherdref12_Without: function 21 -/
def potsherdref12_Without.l0 : Nat → ByteArray → List (S38) → List (S38) → Int → Int → Option ((List (S38)) × Int)
 | 0, _, _, _, _, _ => none
 | k + 1, x1, x6, x16, x17, x18 => if x18 < x17 then (if 0 ≤ x18 then (if x18 < (x16.length : Int) then (if ((rd_T38 x16 x18).f0).toList = x1.toList then (potsherdref12_Without.l0 k x1 x6 x16 x17 (wrap64 (x18 + 1))) else (if x6.length < 5864062014805 then (potsherdref12_Without.l0 k x1 (x6 ++ [(⟨(rd_T38 x16 x18).f0, (rd_T38 x16 x18).f1⟩ : S38)]) x16 x17 (wrap64 (x18 + 1))) else (none))) else (none)) else (none)) else (some (x6, 0))
def potsherdref12_Without.f (k : Nat) (l0 : List (S38)) (a1 : ByteArray) : Option ((List (S38)) × Int) := (potsherdref12_MayEntries.f k l0).bind fun t278 => (if t278 = true then ((potsherdref12_At.f k l0 a1).bind fun t279 => (if t279 < 0 then (some (([] : List (S38)), 8)) else (potsherdref12_Without.l0 k a1 ([] : List (S38)) l0 (l0.length : Int) 0))) else (some (([] : List (S38)), 1)))
theorem potsherdref12_Without.mono_l : ∀ k, (∀ y0 y1 y2 y3 y4, LeO (potsherdref12_Without.l0 k y0 y1 y2 y3 y4) (potsherdref12_Without.l0 (k + 1) y0 y1 y2 y3 y4))
 | 0 => fun _ _ _ _ _ r h => by simp [potsherdref12_Without.l0] at h
 | k + 1 => by
  have ih0 := potsherdref12_Without.mono_l k
  ·
   intro y0 y1 y2 y3 y4
   unfold potsherdref12_Without.l0
   repeat' first
   | (with_reducible exact ih0 _ _ _ _ _)
   | (with_reducible exact potsherdref12_At.mono _ _ _)
   | (with_reducible exact potsherdref12_MayEntries.mono _ _)
   | (with_reducible exact LeO.refl _)
   | (with_reducible exact LeO.none _)
   | (with_reducible refine LeO.ite ?_ ?_)
   | (with_reducible refine LeO.bind ?_ (fun _ => ?_))
   | exact ih0 _ _ _ _ _
   | exact potsherdref12_At.mono _ _ _
   | exact potsherdref12_MayEntries.mono _ _
   | exact LeO.none _
   | refine LeO.ite ?_ ?_
   | refine LeO.bind ?_ (fun _ => ?_)
theorem potsherdref12_Without.mono : ∀ a0 a1 k, LeO (potsherdref12_Without.f k a0 a1) (potsherdref12_Without.f (k + 1) a0 a1) := by
 intro a0 a1 k; have ih0 := potsherdref12_Without.mono_l k
 unfold potsherdref12_Without.f
 repeat' first
  | (with_reducible exact ih0 _ _ _ _ _)
  | (with_reducible exact potsherdref12_At.mono _ _ _)
  | (with_reducible exact potsherdref12_MayEntries.mono _ _)
  | (with_reducible exact LeO.refl _)
  | (with_reducible exact LeO.none _)
  | (with_reducible refine LeO.ite ?_ ?_)
  | (with_reducible refine LeO.bind ?_ (fun _ => ?_))
  | exact ih0 _ _ _ _ _
  | exact potsherdref12_At.mono _ _ _
  | exact potsherdref12_MayEntries.mono _ _
  | exact LeO.none _
  | refine LeO.ite ?_ ?_
  | refine LeO.bind ?_ (fun _ => ?_)
set_option maxHeartbeats 8000000 in
set_option maxRecDepth 100000 in
theorem potsherdref12_Without.calls (k : Nat) (A0 : Option Addr) (c0 : Nat) (l0 : List (S38)) (a1 : ByteArray) (r1 : List (S38)) (r2 : Int) (w : World) (hr0 : Kd.C k38 w A0 l0.length l0) (hc0 : l0.length ≤ c0) (h : potsherdref12_Without.f k l0 a1 = some (r1, r2)) :
 Calls Try.prog 21 #[.slice A0 l0.length c0, .string a1] w fun e w' => ∃ v0_ : Value, e = .returned (.tuple #[v0_, .int .i64 r2]) ∧ Kd.R k38 38 w' w.heap.size (fun _ => True) v0_ r1 ∧ Below w.heap.size w w' := by
 have hu38 := Try.underlying38; have HR0 := Aside0.mk hr0; have HC0 := Aside0.mk hc0; clear hr0 hc0; have HB := Aside0.mk (Below.refl w.heap.size w); have H : ((potsherdref12_MayEntries.f k l0).bind fun t278 => (if t278 = true then ((potsherdref12_At.f k l0 a1).bind fun t279 => (if t279 < 0 then (some (([] : List (S38)), 8)) else (potsherdref12_Without.l0 k a1 ([] : List (S38)) l0 (l0.length : Int) 0))) else (some (([] : List (S38)), 1)))) = some (r1, r2) := h; clear h; replace H := Option.bind_eq_some_iff.mp H; obtain ⟨t278, A30, H⟩ := H; replace H : (if t278 = true then ((potsherdref12_At.f k l0 a1).bind fun t279 => (if t279 < 0 then (some (([] : List (S38)), 8)) else (potsherdref12_Without.l0 k a1 ([] : List (S38)) l0 (l0.length : Int) 0))) else (some (([] : List (S38)), 1))) = some (r1, r2) := H; have A3 := Aside0.mk A30; clear A30
 by_cases c4 : t278 = true
 ·
  subst c4
  have H1 : ((potsherdref12_At.f k l0 a1).bind fun t279 => (if t279 < 0 then (some (([] : List (S38)), 8)) else (potsherdref12_Without.l0 k a1 ([] : List (S38)) l0 (l0.length : Int) 0))) = some (r1, r2) := by rw [if_pos rfl] at H; exact H
  clear H; have H := H1; clear H1; replace H := Option.bind_eq_some_iff.mp H; obtain ⟨t279, A50, H⟩ := H; replace H : (if t279 < 0 then (some (([] : List (S38)), 8)) else (potsherdref12_Without.l0 k a1 ([] : List (S38)) l0 (l0.length : Int) 0)) = some (r1, r2) := H; have A5 := Aside0.mk A50; clear A50
  by_cases c6 : t279 < 0
  ·
   rw [if_pos c6] at H; have c6b0 : decide (t279 < 0) = true := decide_eq_true c6; clear c6; simp only [Option.some.injEq, Prod.mk.injEq] at H; obtain ⟨rfl, rfl⟩ := H
   go_enter Try.func21, Try.ntmps21
   go_wp2_with (first | ((with_reducible refine gate_callee (f := 23) rfl ?_); refine goesL_ (some 10) rfl rfl Try.func23 (by kernel_rfl) rfl #[.slice A0 l0.length c0] rfl (by (try simp only [List.map_toArray, List.map_cons, List.map_nil]); first | done | rfl | (simp only [List.length_drop, List.length_take]; rfl)) ?_; (with_reducible refine (potsherdref12_MayEntries.calls k _ _ l0 true _ ?side1 ?side2 A3.out).mono ?_); (case side1 => repeat (first | exact HR0.out | (with_reducible refine Kd.C_alloc ?_ _) | (with_reducible refine Kd.C_drewN ?_ _) | (with_reducible refine Kd.C_drew ?_))); (case side2 => exact HC0.out); rintro e w7 ⟨rfl, hb⟩; refine ⟨_, rfl, ?_⟩; have n0_ := Aside0.mk (below_step (by repeat (first | (with_reducible first | exact HB.out | apply wA | apply wN | apply wD) | exact HB.out)) hb); clear HB; have HB := n0_; clear n0_; (try clear hb); (try clear hb2); (try clear hk); (try clear hi)) | ((with_reducible refine gate_callee (f := 24) rfl ?_); refine goesL_ (some 14) rfl rfl Try.func24 (by kernel_rfl) rfl #[.slice A0 l0.length c0, .string a1] rfl (by (try simp only [List.map_toArray, List.map_cons, List.map_nil]); first | done | rfl | (simp only [List.length_drop, List.length_take]; rfl)) ?_; (with_reducible refine (potsherdref12_At.calls k _ _ l0 a1 t279 _ ?side1 ?side2 A5.out).mono ?_); (case side1 => repeat (first | exact (Kd.C_below HR0.out HB.out) | (with_reducible refine Kd.C_alloc ?_ _) | (with_reducible refine Kd.C_drewN ?_ _) | (with_reducible refine Kd.C_drew ?_))); (case side2 => exact HC0.out); rintro e w8 ⟨rfl, hb⟩; refine ⟨_, rfl, ?_⟩; have n0_ := Aside0.mk (below_step (by repeat (first | (with_reducible first | exact HB.out | apply wA | apply wN | apply wD) | exact HB.out)) hb); clear HB; have HB := n0_; clear n0_; (try clear hb); (try clear hb2); (try clear hk); (try clear hi)))
   go_ret2
   exact ⟨_, by first | rfl | exact congrArg (fun b_ => Ending.returned (Value.bool b_)) HRET.out | (rw [HRET.out]) | (simp [errW_none, errW_some] <;> rfl) | (simp [*, errW_none, errW_some] <;> rfl), by first | exact Kd.R_nil _ _ _ _ _ | exact Kd.N_nil _ _ _ _ _ | exact Kd.V_nil _ _ _ _ _ | exact Kd.Q_nil _ _ _ _ _ | exact Kd.S_nil _ _ _ _ _, by repeat (first | (with_reducible first | exact HB.out | apply wA | apply wN | apply wD) | exact HB.out)⟩
  ·
   rw [if_neg c6] at H; have c6b0 : decide (t279 < 0) = false := decide_eq_false c6; clear c6; have H' := Aside0.mk H; clear H
   go_enter Try.func21, Try.ntmps21
   go_wp2_with (first | ((with_reducible refine gate_callee (f := 23) rfl ?_); refine goesL_ (some 10) rfl rfl Try.func23 (by kernel_rfl) rfl #[.slice A0 l0.length c0] rfl (by (try simp only [List.map_toArray, List.map_cons, List.map_nil]); first | done | rfl | (simp only [List.length_drop, List.length_take]; rfl)) ?_; (with_reducible refine (potsherdref12_MayEntries.calls k _ _ l0 true _ ?side1 ?side2 A3.out).mono ?_); (case side1 => repeat (first | exact HR0.out | (with_reducible refine Kd.C_alloc ?_ _) | (with_reducible refine Kd.C_drewN ?_ _) | (with_reducible refine Kd.C_drew ?_))); (case side2 => exact HC0.out); rintro e w9 ⟨rfl, hb⟩; refine ⟨_, rfl, ?_⟩; have n0_ := Aside0.mk (below_step (by repeat (first | (with_reducible first | exact HB.out | apply wA | apply wN | apply wD) | exact HB.out)) hb); clear HB; have HB := n0_; clear n0_; (try clear hb); (try clear hb2); (try clear hk); (try clear hi)) | ((with_reducible refine gate_callee (f := 24) rfl ?_); refine goesL_ (some 14) rfl rfl Try.func24 (by kernel_rfl) rfl #[.slice A0 l0.length c0, .string a1] rfl (by (try simp only [List.map_toArray, List.map_cons, List.map_nil]); first | done | rfl | (simp only [List.length_drop, List.length_take]; rfl)) ?_; (with_reducible refine (potsherdref12_At.calls k _ _ l0 a1 t279 _ ?side1 ?side2 A5.out).mono ?_); (case side1 => repeat (first | exact (Kd.C_below HR0.out HB.out) | (with_reducible refine Kd.C_alloc ?_ _) | (with_reducible refine Kd.C_drewN ?_ _) | (with_reducible refine Kd.C_drew ?_))); (case side2 => exact HC0.out); rintro e w10 ⟨rfl, hb⟩; refine ⟨_, rfl, ?_⟩; have n0_ := Aside0.mk (below_step (by repeat (first | (with_reducible first | exact HB.out | apply wA | apply wN | apply wD) | exact HB.out)) hb); clear HB; have HB := n0_; clear n0_; (try clear hb); (try clear hb2); (try clear hk); (try clear hi)))
   go_loopg [6, 18] k (fun kq v6 v18 w' => ∃ (x6_1 : List (S38)) (x18_1 : Int), v18 = .int .i64 x18_1 ∧ Aside0 (potsherdref12_Without.l0 kq a1 x6_1 l0 (l0.length : Int) x18_1 = some (r1, r2)) ∧ Aside0 (kq ≤ k) ∧ Aside0 (Kd.R k38 38 w' w.heap.size (fun _ => True) v6 x6_1) ∧ Aside0 (Below w.heap.size w w'))
   case atStart => exact ⟨(([] : List (S38))), (0), (by first | rfl | (simp; done) | (simp [*]; done)), H', ⟨Nat.le_refl _⟩, ⟨by first | exact Kd.R_nil _ _ _ _ _ | exact Kd.N_nil _ _ _ _ _ | exact Kd.V_nil _ _ _ _ _ | exact Kd.Q_nil _ _ _ _ _ | exact Kd.S_nil _ _ _ _ _⟩, ⟨by repeat (first | (with_reducible first | exact HB.out | apply wA | apply wN | apply wD) | exact HB.out)⟩⟩
   case round =>
    clear H'
    try clear c2
    try clear p2
    try clear c4
    try clear c6
    try clear c6b0
    obtain ⟨x6_1, x18_1, rfl, HA, HK1, HO_6, HB⟩ := hrel
    cases gk with
    | zero => exact absurd HA.out (by simp [potsherdref12_Without.l0])
    | succ k1 =>
     have H := HA.out; clear HA; simp only [potsherdref12_Without.l0] at H
     by_cases c11 : x18_1 < (l0.length : Int)
     ·
      rw [if_pos c11] at H; have c11b0 : decide (x18_1 < (l0.length : Int)) = true := decide_eq_true c11; clear c11
      by_cases c12 : 0 ≤ x18_1
      ·
       rw [if_pos c12] at H; have c12b0 : decide (0 ≤ x18_1) = true := decide_eq_true c12; clear c12
       by_cases c13 : x18_1 < (l0.length : Int)
       ·
        rw [if_pos c13] at H; have c13b0 : decide (x18_1 < (l0.length : Int)) = true := decide_eq_true c13; clear c13
        by_cases c14 : ((rd_T38 l0 x18_1).f0).toList = a1.toList
        ·
         rw [if_pos c14] at H; have c14b0 : (((rd_T38 l0 x18_1).f0).toList == a1.toList) = true := beq_iff_eq.mpr c14; have c14b1 : (((rd_T38 l0 x18_1).f0).toList != a1.toList) = false := bne_eq_false_iff_eq.mpr c14; clear c14; have H' := Aside0.mk H; clear H; have p280 : 0 ≤ (x18_1 : Int) := of_decide_eq_true (by first | (with_reducible assumption) | assumption); have q280 : x18_1 < (l0.length : Int) := of_decide_eq_true (by first | (with_reducible assumption) | assumption); obtain ⟨ad280, e280, hx280_0, hx280_1⟩ := at_T38 HR0.out x18_1 p280 q280
         cases e280
         replace hx280_0 := (HB.out.cell (World.block_lt_of_cell? w _ hx280_0)).trans hx280_0; replace hx280_1 := (HB.out.cell (World.block_lt_of_cell? w _ hx280_1)).trans hx280_1; replace p280 := eq_true p280; replace q280 := eq_true q280
         go_wp2_with (first | ((with_reducible refine gate_dst (N := 8) rfl ?_); refine box_event ?hg (N := 8) ?hd (cs := #[.string (⟨#[]⟩ : ByteArray), .int .i64 0]) (t := 38) ?hr ?_; (case hd => rfl); (case hg => rfl); (case hr => first | (go_simp; done) | (go_simp; rfl)); intro gb281 hg w15 hbox hb; have n0_ := Aside0.mk (Kd.R_below (Kd.R_elderB (by (with_reducible repeat (first | apply Kd.R_alloc | apply Kd.R_drewN | apply Kd.R_drew)); exact HO_6.out) gb281 (Nat.le_of_eq hg.symm)) hb); have n1_ := Aside0.mk (below_step (by repeat (first | (with_reducible first | exact HB.out | apply wA | apply wN | apply wD) | exact HB.out)) hb); have n2_ := Aside0.mk (hbox); have n3_ := Aside0.mk ((by rw [hg]; exact (below_size (by repeat (first | (with_reducible first | exact HB.out | apply wA | apply wN | apply wD) | exact HB.out))) : w.heap.size ≤ gb281)); have n4_ := Aside0.mk ((by rw [hg]; exact (below_size (by repeat (first | (with_reducible first | exact HB.out | apply wA | apply wN | apply wD) | exact HB.out))) : w.heap.size ≤ gb281)); clear HO_6; clear HB; have HO_6 := n0_; have HB := n1_; have BK281 := n2_; have GW281 := n3_; have GE281 := n4_; clear n0_ n1_ n2_ n3_ n4_; clear hb hbox hg; have hcz16_0 : w15.cell? ⟨gb281, 0, none⟩ = some (.string (⟨#[]⟩ : ByteArray)) := (bC BK281.out 0).trans rfl; have hcz16_1 : w15.cell? ⟨gb281, 1, none⟩ = some (.int .i64 0) := (bC BK281.out 1).trans rfl; have hfz16_0 := bZ BK281.out 0; have hfz16_1 := bZ BK281.out 1))
         go_roundg k1
         case measure => have := HK1.out; omega
         case rel => exact ⟨(x6_1), (wrap64 (x18_1 + 1)), (by first | rfl | (simp; done) | (simp [*]; done)), H', ⟨by have := HK1.out; omega⟩, ⟨by (with_reducible repeat (first | apply Kd.R_alloc | apply Kd.R_drewN | apply Kd.R_drew)); exact Kd.R_mono (Kd.R_far (p := ⟨gb281, 1, none⟩) (Kd.R_far (p := ⟨gb281, 0, none⟩) (Kd.R_mono HO_6.out (fun k_ hk => (⟨hk, hk.2⟩ : _ ∧ k_ ≠ gb281))) (fun _ hk => hk.2) (.string ((rd_T38 l0 x18_1).f0))) (fun _ hk => hk.2) (.int .i64 ((rd_T38 l0 x18_1).f1))) (fun _ hk => trivial)⟩, ⟨by repeat (first | (with_reducible first | exact HB.out | apply wA | apply wN | apply wD | refine wS ?_ GE281.out) | exact HB.out)⟩⟩
        ·
         rw [if_neg c14] at H; have c14b0 : (((rd_T38 l0 x18_1).f0).toList == a1.toList) = false := beq_eq_false_iff_ne.mpr c14; have c14b1 : (((rd_T38 l0 x18_1).f0).toList != a1.toList) = true := bne_iff_ne.mpr c14
         by_cases c17 : x6_1.length < 5864062014805
         ·
          rw [if_pos c17] at H; have LMc17 := Aside0.mk c17; clear c17; obtain ⟨y282, hy282⟩ : ∃ y_ : List (S38), y_ = (x6_1 ++ [(⟨(rd_T38 l0 x18_1).f0, (rd_T38 l0 x18_1).f1⟩ : S38)]) := ⟨_, rfl⟩
          replace H : (potsherdref12_Without.l0 k1 a1 y282 l0 (l0.length : Int) (wrap64 (x18_1 + 1))) = some (r1, r2) := by first | (rw [hy282]; with_reducible exact H) | (have H2_ := (Option.bind_some _ _).symm.trans H; rw [hy282]; with_reducible exact H2_) | (have H2_ := (Option.bind_some _ _).symm.trans H; with_reducible exact H2_) | with_reducible exact H | (rw [hy282]; exact H) | exact H
          have Ny282 := Aside0.mk hy282; clear hy282; have H' := Aside0.mk H; clear H; have p280 : 0 ≤ (x18_1 : Int) := of_decide_eq_true (by first | (with_reducible assumption) | assumption); have q280 : x18_1 < (l0.length : Int) := of_decide_eq_true (by first | (with_reducible assumption) | assumption); obtain ⟨ad280, e280, hx280_0, hx280_1⟩ := at_T38 HR0.out x18_1 p280 q280
          cases e280
          replace hx280_0 := (HB.out.cell (World.block_lt_of_cell? w _ hx280_0)).trans hx280_0; replace hx280_1 := (HB.out.cell (World.block_lt_of_cell? w _ hx280_1)).trans hx280_1; replace p280 := eq_true p280; replace q280 := eq_true q280
          go_wp2_with (first | ((with_reducible refine gate_dst (N := 8) rfl ?_); refine box_event ?hg (N := 8) ?hd (cs := #[.string (⟨#[]⟩ : ByteArray), .int .i64 0]) (t := 38) ?hr ?_; (case hd => rfl); (case hg => rfl); (case hr => first | (go_simp; done) | (go_simp; rfl)); intro gb281 hg w18 hbox hb; have n0_ := Aside0.mk (Kd.R_below (Kd.R_elderB (by (with_reducible repeat (first | apply Kd.R_alloc | apply Kd.R_drewN | apply Kd.R_drew)); exact HO_6.out) gb281 (Nat.le_of_eq hg.symm)) hb); have n1_ := Aside0.mk (below_step (by repeat (first | (with_reducible first | exact HB.out | apply wA | apply wN | apply wD) | exact HB.out)) hb); have n2_ := Aside0.mk (hbox); have n3_ := Aside0.mk ((by rw [hg]; exact (below_size (by repeat (first | (with_reducible first | exact HB.out | apply wA | apply wN | apply wD) | exact HB.out))) : w.heap.size ≤ gb281)); have n4_ := Aside0.mk ((by rw [hg]; exact (below_size (by repeat (first | (with_reducible first | exact HB.out | apply wA | apply wN | apply wD) | exact HB.out))) : w.heap.size ≤ gb281)); clear HO_6; clear HB; have HO_6 := n0_; have HB := n1_; have BK281 := n2_; have GW281 := n3_; have GE281 := n4_; clear n0_ n1_ n2_ n3_ n4_; clear hb hbox hg; have hcz19_0 : w18.cell? ⟨gb281, 0, none⟩ = some (.string (⟨#[]⟩ : ByteArray)) := (bC BK281.out 0).trans rfl; have hcz19_1 : w18.cell? ⟨gb281, 1, none⟩ = some (.int .i64 0) := (bC BK281.out 1).trans rfl; have hfz19_0 := bZ BK281.out 0; have hfz19_1 := bZ BK281.out 1) | ((with_reducible refine gate_builtin (b := .append) (xs := #[.tmp 26, .tmp 28]) rfl ?_); at_builtin; refine Kd.R_append k38 (w0 := w) w.heap.size rfl (.tmp 26) (.tmp 28) 26 38 (.agg #[(.string ⟨#[]⟩), (.int .i64 0)]) 24 rfl Try.underlying26 info38 rfl (by decide) (by omega) u6 x6_1 (⟨(rd_T38 l0 x18_1).f0, (rd_T38 l0 x18_1).f1⟩ : S38) [.string ((rd_T38 l0 x18_1).f0), .int .i64 ((rd_T38 l0 x18_1).f1)] (fun k_ => k_ ≠ gb281) (fun _ => False) rfl (by first | (go_simp; done) | (go_simp; rfl)) ?aP (fun _ hk => hk.elim) ?aF ?aO ?aB ?aS ?aL ?_; (case aP => exact k38_mkM _ _ _ (⟨(rd_T38 l0 x18_1).f0, (rd_T38 l0 x18_1).f1⟩ : S38)); (case aB => exact (by repeat (first | (with_reducible first | exact HB.out | apply wA | apply wN | apply wD | refine wS ?_ GE281.out) | exact HB.out))); (case aF => exact (fun k_ hk => Kd.freshB (g := gb281) (o := .cells #[.string ((rd_T38 l0 x18_1).f0), .int .i64 ((rd_T38 l0 x18_1).f1)] 38 (0, 0)) (by (with_reducible repeat (first | refine bN ?_ _ | refine bD ?_ | refine bA ?_ _)); refine blk_put (cs := #[.string ((rd_T38 l0 x18_1).f0), .int .i64 0]) ?_ 1 _ rfl; (with_reducible repeat (first | refine bN ?_ _ | refine bD ?_ | refine bA ?_ _)); refine blk_put (cs := #[.string (⟨#[]⟩ : ByteArray), .int .i64 0]) ?_ 0 _ rfl; (with_reducible repeat (first | refine bN ?_ _ | refine bD ?_ | refine bA ?_ _)); exact BK281.out) k_ hk)); (case aO => exact (by (with_reducible repeat (first | apply Kd.R_alloc | apply Kd.R_drewN | apply Kd.R_drew)); exact Kd.R_mono (Kd.R_far (p := ⟨gb281, 1, none⟩) (Kd.R_far (p := ⟨gb281, 0, none⟩) (Kd.R_mono HO_6.out (fun k_ hk => (⟨hk, hk.2⟩ : _ ∧ k_ ≠ gb281))) (fun _ hk => hk.2) (.string ((rd_T38 l0 x18_1).f0))) (fun _ hk => hk.2) (.int .i64 ((rd_T38 l0 x18_1).f1))) (fun _ hk => hk.1.2))); (case aS => exact (below_size (by repeat (first | (with_reducible first | exact HB.out | apply wA | apply wN | apply wD | refine wS ?_ GE281.out) | exact HB.out)))); (case aL => have := LMc17.out; omega); intro v283 w20 ho hb hg hat; rw [← Ny282.out] at ho; have n0_ := Aside0.mk (blk_grown (g := gb281) (o := .cells #[.string ((rd_T38 l0 x18_1).f0), .int .i64 ((rd_T38 l0 x18_1).f1)] 38 (0, 0)) (by (with_reducible repeat (first | refine bN ?_ _ | refine bD ?_ | refine bA ?_ _)); refine blk_put (cs := #[.string ((rd_T38 l0 x18_1).f0), .int .i64 0]) ?_ 1 _ rfl; (with_reducible repeat (first | refine bN ?_ _ | refine bD ?_ | refine bA ?_ _)); refine blk_put (cs := #[.string (⟨#[]⟩ : ByteArray), .int .i64 0]) ?_ 0 _ rfl; (with_reducible repeat (first | refine bN ?_ _ | refine bD ?_ | refine bA ?_ _)); exact BK281.out) hg (Kd.R_away HO_6.out (fun _ hk => hk.2))); have n1_ := Aside0.mk (hb); have n2_ := Aside0.mk (ho); clear BK281; clear HB; clear HO_6; have BK281 := n0_; have HB := n1_; have HO284 := n2_; clear n0_ n1_ n2_; clear ho hb hg hat))
          go_roundg k1
          case measure => have := HK1.out; omega
          case rel => exact ⟨(y282), (wrap64 (x18_1 + 1)), (by first | rfl | (simp; done) | (simp [*]; done)), H', ⟨by have := HK1.out; omega⟩, ⟨by (with_reducible repeat (first | apply Kd.R_alloc | apply Kd.R_drewN | apply Kd.R_drew)); exact Kd.R_mono HO284.out (fun _ hk => trivial)⟩, ⟨by repeat (first | (with_reducible first | exact HB.out | apply wA | apply wN | apply wD | refine wS ?_ GE281.out) | exact HB.out)⟩⟩
         ·
          rw [if_neg c17] at H; exact absurd H (by simp)
       ·
        rw [if_neg c13] at H; exact absurd H (by simp)
      ·
       rw [if_neg c12] at H; exact absurd H (by simp)
     ·
      rw [if_neg c11] at H; have c11b0 : decide (x18_1 < (l0.length : Int)) = false := decide_eq_false c11; clear c11; simp only [Option.some.injEq, Prod.mk.injEq] at H; obtain ⟨rfl, rfl⟩ := H
      go_wp2
      go_ret2
      exact ⟨_, by first | rfl | exact congrArg (fun b_ => Ending.returned (Value.bool b_)) HRET.out | (rw [HRET.out]) | (simp [errW_none, errW_some] <;> rfl) | (simp [*, errW_none, errW_some] <;> rfl), by (with_reducible repeat (first | apply Kd.R_alloc | apply Kd.R_drewN | apply Kd.R_drew)); exact HO_6.out, by repeat (first | (with_reducible first | exact HB.out | apply wA | apply wN | apply wD) | exact HB.out)⟩
 ·
  replace c4 := Bool.eq_false_iff.mpr c4; subst c4
  have H1 : (some (([] : List (S38)), 1)) = some (r1, r2) := by rw [if_neg (show ¬ (false = true) by decide)] at H; exact H
  clear H; have H := H1; clear H1; simp only [Option.some.injEq, Prod.mk.injEq] at H; obtain ⟨rfl, rfl⟩ := H
  go_enter Try.func21, Try.ntmps21
  go_wp2_with (first | ((with_reducible refine gate_callee (f := 23) rfl ?_); refine goesL_ (some 10) rfl rfl Try.func23 (by kernel_rfl) rfl #[.slice A0 l0.length c0] rfl (by (try simp only [List.map_toArray, List.map_cons, List.map_nil]); first | done | rfl | (simp only [List.length_drop, List.length_take]; rfl)) ?_; (with_reducible refine (potsherdref12_MayEntries.calls k _ _ l0 false _ ?side1 ?side2 A3.out).mono ?_); (case side1 => repeat (first | exact HR0.out | (with_reducible refine Kd.C_alloc ?_ _) | (with_reducible refine Kd.C_drewN ?_ _) | (with_reducible refine Kd.C_drew ?_))); (case side2 => exact HC0.out); rintro e w21 ⟨rfl, hb⟩; refine ⟨_, rfl, ?_⟩; have n0_ := Aside0.mk (below_step (by repeat (first | (with_reducible first | exact HB.out | apply wA | apply wN | apply wD) | exact HB.out)) hb); clear HB; have HB := n0_; clear n0_; (try clear hb); (try clear hb2); (try clear hk); (try clear hi)))
  go_ret2
  exact ⟨_, by first | rfl | exact congrArg (fun b_ => Ending.returned (Value.bool b_)) HRET.out | (rw [HRET.out]) | (simp [errW_none, errW_some] <;> rfl) | (simp [*, errW_none, errW_some] <;> rfl), by first | exact Kd.R_nil _ _ _ _ _ | exact Kd.N_nil _ _ _ _ _ | exact Kd.V_nil _ _ _ _ _ | exact Kd.Q_nil _ _ _ _ _ | exact Kd.S_nil _ _ _ _ _, by repeat (first | (with_reducible first | exact HB.out | apply wA | apply wN | apply wD) | exact HB.out)⟩

end Go.Proofs.Ytbaiicnibiogpaa.PName
