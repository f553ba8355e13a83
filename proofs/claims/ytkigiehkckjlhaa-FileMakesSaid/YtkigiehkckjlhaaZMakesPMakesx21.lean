/- The Go functions that these laws reach, each as a Lean function with the same answers (a law itself where it answers true), and the proof that the code comes to them; conditions: those of each theorem. Laid by a program of this session over the print. -/
import Derived.Test.YtkigiehkckjlhaaZMakesPMakesx0
import Derived.Test.YtkigiehkckjlhaaZMakesPMakesx10
import Derived.Test.YtkigiehkckjlhaaZMakesPMakesx20
namespace Go.Proofs.Ytkigiehkckjlhaa.PMakes
open Go.RowKit Go.Proofs.YtkigiehkckjlhaaW.PrintWords Go.Proofs.YtkigiehkckjlhaaW.PrintLast Go.Proofs.YtkigiehkckjlhaaW.PrintMore
attribute [local go_sem] max2_int min2_int max_two min_two max_three min_three max_four min_four   -- for this text's walks alone
set_option linter.unusedVariables false
set_option linter.unusedSimpArgs false
open Go.Proofs.YtkigiehkckjlhaaW.PrintWords renaming blk_drewN → bN, blk_drew → bD, blk_alloc → bA, below_set → wS, below_alloc → wA, pw_below_drewN → wN, below_drew1 → wD, blk_below → bB, blk_far → bF, blk_cell → bC, blk_frozen → bZ
open List renaming setIfInBounds_toArray → lT, set_cons_zero → l0_, set_cons_succ → lS
def potsherdref12_find.l0 : Nat → Int → Int → Int → Option (Int × Int)
 | 0, _, _, _ => none
 | k + 1, x6, x10, x11 => if x11 < x10 then (none) else (some (x6, 0))
def potsherdref12_find.f (k : Nat) (l0_0 : List (S28)) (l1 : List ByteArray) : Option (Int × Int) := potsherdref12_find.l0 k 0 (l1.length : Int) 0
theorem potsherdref12_find.mono_l : ∀ k, (∀ y0 y1 y2, LeO (potsherdref12_find.l0 k y0 y1 y2) (potsherdref12_find.l0 (k + 1) y0 y1 y2))
 | 0 => fun _ _ _ r h => by simp [potsherdref12_find.l0] at h
 | k + 1 => by
  have ih0 := potsherdref12_find.mono_l k
  ·
   intro y0 y1 y2
   unfold potsherdref12_find.l0
   repeat' first
   | (with_reducible exact ih0 _ _ _)
   | (with_reducible exact potsherdref12_At.mono _ _ _)
   | (with_reducible exact LeO.refl _)
   | (with_reducible exact LeO.none _)
   | (with_reducible refine LeO.ite ?_ ?_)
   | (with_reducible refine LeO.bind ?_ (fun _ => ?_))
   | exact ih0 _ _ _
   | exact potsherdref12_At.mono _ _ _
   | exact LeO.none _
   | refine LeO.ite ?_ ?_
   | refine LeO.bind ?_ (fun _ => ?_)
theorem potsherdref12_find.mono : ∀ a0 a1 k, LeO (potsherdref12_find.f k a0 a1) (potsherdref12_find.f (k + 1) a0 a1) := by
 intro a0 a1 k; have ih0 := potsherdref12_find.mono_l k
 unfold potsherdref12_find.f
 repeat' first
  | (with_reducible exact ih0 _ _ _)
  | (with_reducible exact potsherdref12_At.mono _ _ _)
  | (with_reducible exact LeO.refl _)
  | (with_reducible exact LeO.none _)
  | (with_reducible refine LeO.ite ?_ ?_)
  | (with_reducible refine LeO.bind ?_ (fun _ => ?_))
  | exact ih0 _ _ _
  | exact potsherdref12_At.mono _ _ _
  | exact LeO.none _
  | refine LeO.ite ?_ ?_
  | refine LeO.bind ?_ (fun _ => ?_)
set_option maxHeartbeats 8000000 in
set_option maxRecDepth 100000 in
theorem potsherdref12_find.calls (k : Nat) (A0_0 : Option Addr) (c0_0 : Nat) (l0_0 : List (S28)) (A1 : Option Addr) (c1 : Nat) (l1 : List ByteArray) (r1 : Int) (r2 : Int) (w : World) (hr0_0 : Kd.C k28 w A0_0 l0_0.length l0_0) (hc0_0 : l0_0.length ≤ c0_0) (hr1 : Kd.C Kd.string w A1 l1.length l1) (hc1 : l1.length ≤ c1) (h : potsherdref12_find.f k l0_0 l1 = some (r1, r2)) :
 Calls Try.prog 92 #[.agg #[.slice A0_0 l0_0.length c0_0], .slice A1 l1.length c1] w fun e w' => e = .returned (.tuple #[.int .i64 r1, .int .i64 r2]) ∧ Below w.heap.size w w' := by
 have hu24 := Try.underlying24; have HR0_0 := Aside0.mk hr0_0; have HC0_0 := Aside0.mk hc0_0; clear hr0_0 hc0_0; have HR1 := Aside0.mk hr1; have HC1 := Aside0.mk hc1; clear hr1 hc1; have HB := Aside0.mk (Below.refl w.heap.size w); have H : (potsherdref12_find.l0 k 0 (l1.length : Int) 0) = some (r1, r2) := h; clear h; have H' := Aside0.mk H; clear H
 go_enter Try.func92, Try.ntmps92
 go_wp2_with (first | ((with_reducible refine gate_dst (N := 2) rfl ?_); refine box_event ?hg (N := 2) ?hd (cs := #[.slice A0_0 l0_0.length c0_0]) (t := 24) ?hr ?_; (case hd => rfl); (case hg => rfl); (case hr => first | (go_simp; done) | (go_simp; rfl)); intro gb366 hg w3 hbox hb; have n0_ := Aside0.mk (below_step (by repeat (first | (with_reducible first | exact HB.out | apply wA | apply wN | apply wD) | exact HB.out)) hb); have n1_ := Aside0.mk (hbox); have n2_ := Aside0.mk ((by rw [hg]; exact (below_size (by repeat (first | (with_reducible first | exact HB.out | apply wA | apply wN | apply wD) | exact HB.out))) : w.heap.size ≤ gb366)); have n3_ := Aside0.mk ((by rw [hg]; exact (below_size (by repeat (first | (with_reducible first | exact HB.out | apply wA | apply wN | apply wD) | exact HB.out))) : w.heap.size ≤ gb366)); clear HB; have HB := n0_; have BK366 := n1_; have GW366 := n2_; have GE366 := n3_; clear n0_ n1_ n2_ n3_; clear hb hbox hg))
 go_loopg [6, 11] k (fun kq v6 v11 w' => ∃ (x6_1 : Int) (x11_1 : Int), v6 = .int .i64 x6_1 ∧ v11 = .int .i64 x11_1 ∧ Aside0 (potsherdref12_find.l0 kq x6_1 (l1.length : Int) x11_1 = some (r1, r2)) ∧ Aside0 (kq ≤ k) ∧ Aside0 (w'.heap[gb366]? = some (.cells #[(.slice A0_0 l0_0.length c0_0)] 24 (0, 0))) ∧ Aside0 (Below w.heap.size w w'))
 case atStart => exact ⟨(0), (0), (by first | rfl | (simp; done) | (simp [*]; done)), (by first | rfl | (simp; done) | (simp [*]; done)), H', ⟨Nat.le_refl _⟩, ⟨by (with_reducible repeat (first | refine bN ?_ _ | refine bD ?_ | refine bA ?_ _)); exact BK366.out⟩, ⟨by repeat (first | (with_reducible first | exact HB.out | apply wA | apply wN | apply wD | refine wS ?_ GE366.out) | exact HB.out)⟩⟩
 case round =>
  clear H'
  try clear c1
  try clear p2
  obtain ⟨x6_1, x11_1, rfl, rfl, HA, HK1, BK366, HB⟩ := hrel
  cases gk with
  | zero => exact absurd HA.out (by simp [potsherdref12_find.l0])
  | succ k1 =>
   have H := HA.out; clear HA; simp only [potsherdref12_find.l0] at H
   by_cases c4 : x11_1 < (l1.length : Int)
   ·
    rw [if_pos c4] at H; exact absurd H (by simp)
   ·
    rw [if_neg c4] at H; have c4b0 : decide (x11_1 < (l1.length : Int)) = false := decide_eq_false c4; clear c4; simp only [Option.some.injEq, Prod.mk.injEq] at H; obtain ⟨rfl, rfl⟩ := H
    go_wp2
    go_ret2
    exact ⟨by first | rfl | exact congrArg (fun b_ => Ending.returned (Value.bool b_)) HRET.out | (rw [HRET.out]) | (simp [errW_none, errW_some] <;> rfl) | (simp [*, errW_none, errW_some] <;> rfl), by repeat (first | (with_reducible first | exact HB.out | apply wA | apply wN | apply wD | refine wS ?_ GE366.out) | exact HB.out)⟩
def potsherdref12_Parent.f (k : Nat) (l0_0 : List (S28)) (a1 : ByteArray) : Option (Int × ByteArray × Int) := (potsherdref12_MayTree.f k l0_0).bind fun t372 => (if t372 = true then ((potsherdref12_Last.f k a1).bind fun bt373 => (if bt373.2.2 = 0 then ((potsherdref12_Split.f k bt373.1).bind fun bt376 => ((potsherdref12_find.f k l0_0 bt376.1).bind fun bt380 => (if bt380.2 = 0 then (if 0 ≤ bt380.1 then (if bt380.1 < (l0_0.length : Int) then (if ((rd_T28 l0_0 bt380.1).f0) = 2 then (some (bt380.1, bt373.2.1, 0)) else (none)) else (none)) else (none)) else (none)))) else (none))) else (none))
theorem potsherdref12_Parent.mono : ∀ a0 a1 k, LeO (potsherdref12_Parent.f k a0 a1) (potsherdref12_Parent.f (k + 1) a0 a1) := by
 intro a0 a1 k
 unfold potsherdref12_Parent.f
 repeat' first
  | (with_reducible exact potsherdref12_Last.mono _ _)
  | (with_reducible exact potsherdref12_MayTree.mono _ _)
  | (with_reducible exact potsherdref12_Split.mono _ _)
  | (with_reducible exact potsherdref12_find.mono _ _ _)
  | (with_reducible exact LeO.refl _)
  | (with_reducible exact LeO.none _)
  | (with_reducible refine LeO.ite ?_ ?_)
  | (with_reducible refine LeO.bind ?_ (fun _ => ?_))
  | exact potsherdref12_Last.mono _ _
  | exact potsherdref12_MayTree.mono _ _
  | exact potsherdref12_Split.mono _ _
  | exact potsherdref12_find.mono _ _ _
  | exact LeO.none _
  | refine LeO.ite ?_ ?_
  | refine LeO.bind ?_ (fun _ => ?_)
set_option maxHeartbeats 8000000 in
set_option maxRecDepth 100000 in
theorem potsherdref12_Parent.calls (k : Nat) (A0_0 : Option Addr) (c0_0 : Nat) (l0_0 : List (S28)) (a1 : ByteArray) (r1 : Int) (r2 : ByteArray) (r3 : Int) (w : World) (hr0_0 : Kd.C k28 w A0_0 l0_0.length l0_0) (hc0_0 : l0_0.length ≤ c0_0) (h : potsherdref12_Parent.f k l0_0 a1 = some (r1, r2, r3)) :
 Calls Try.prog 85 #[.agg #[.slice A0_0 l0_0.length c0_0], .string a1] w fun e w' => e = .returned (.tuple #[.int .i64 r1, .string r2, .int .i64 r3]) ∧ Below w.heap.size w w' := by
 have hu24 := Try.underlying24; have HR0_0 := Aside0.mk hr0_0; have HC0_0 := Aside0.mk hc0_0; clear hr0_0 hc0_0; have HB := Aside0.mk (Below.refl w.heap.size w); have H : ((potsherdref12_MayTree.f k l0_0).bind fun t372 => (if t372 = true then ((potsherdref12_Last.f k a1).bind fun bt373 => (if bt373.2.2 = 0 then ((potsherdref12_Split.f k bt373.1).bind fun bt376 => ((potsherdref12_find.f k l0_0 bt376.1).bind fun bt380 => (if bt380.2 = 0 then (if 0 ≤ bt380.1 then (if bt380.1 < (l0_0.length : Int) then (if ((rd_T28 l0_0 bt380.1).f0) = 2 then (some (bt380.1, bt373.2.1, 0)) else (none)) else (none)) else (none)) else (none)))) else (none))) else (none))) = some (r1, r2, r3) := h; clear h; replace H := Option.bind_eq_some_iff.mp H; obtain ⟨t372, A30, H⟩ := H; replace H : (if t372 = true then ((potsherdref12_Last.f k a1).bind fun bt373 => (if bt373.2.2 = 0 then ((potsherdref12_Split.f k bt373.1).bind fun bt376 => ((potsherdref12_find.f k l0_0 bt376.1).bind fun bt380 => (if bt380.2 = 0 then (if 0 ≤ bt380.1 then (if bt380.1 < (l0_0.length : Int) then (if ((rd_T28 l0_0 bt380.1).f0) = 2 then (some (bt380.1, bt373.2.1, 0)) else (none)) else (none)) else (none)) else (none)))) else (none))) else (none)) = some (r1, r2, r3) := H; have A3 := Aside0.mk A30; clear A30
 by_cases c4 : t372 = true
 ·
  subst c4
  have H1 : ((potsherdref12_Last.f k a1).bind fun bt373 => (if bt373.2.2 = 0 then ((potsherdref12_Split.f k bt373.1).bind fun bt376 => ((potsherdref12_find.f k l0_0 bt376.1).bind fun bt380 => (if bt380.2 = 0 then (if 0 ≤ bt380.1 then (if bt380.1 < (l0_0.length : Int) then (if ((rd_T28 l0_0 bt380.1).f0) = 2 then (some (bt380.1, bt373.2.1, 0)) else (none)) else (none)) else (none)) else (none)))) else (none))) = some (r1, r2, r3) := by rw [if_pos rfl] at H; exact H
  clear H; have H := H1; clear H1; replace H := Option.bind_eq_some_iff.mp H; obtain ⟨⟨t373, t374, t375⟩, A50, H⟩ := H; replace H : (if t375 = 0 then ((potsherdref12_Split.f k t373).bind fun bt376 => ((potsherdref12_find.f k l0_0 bt376.1).bind fun bt380 => (if bt380.2 = 0 then (if 0 ≤ bt380.1 then (if bt380.1 < (l0_0.length : Int) then (if ((rd_T28 l0_0 bt380.1).f0) = 2 then (some (bt380.1, t374, 0)) else (none)) else (none)) else (none)) else (none)))) else (none)) = some (r1, r2, r3) := H; have A5 := Aside0.mk A50; clear A50
  by_cases c6 : t375 = 0
  ·
   rw [if_pos c6] at H; have c6b0 : (t375 == 0) = true := beq_iff_eq.mpr c6; have c6b1 : (t375 != 0) = false := bne_eq_false_iff_eq.mpr c6; clear c6; replace H := Option.bind_eq_some_iff.mp H; obtain ⟨⟨t376, t377⟩, A70, H⟩ := H; replace H : ((potsherdref12_find.f k l0_0 t376).bind fun bt380 => (if bt380.2 = 0 then (if 0 ≤ bt380.1 then (if bt380.1 < (l0_0.length : Int) then (if ((rd_T28 l0_0 bt380.1).f0) = 2 then (some (bt380.1, t374, 0)) else (none)) else (none)) else (none)) else (none))) = some (r1, r2, r3) := H; have A7 := Aside0.mk A70; clear A70; replace H := Option.bind_eq_some_iff.mp H; obtain ⟨⟨t380, t381⟩, A80, H⟩ := H; replace H : (if t381 = 0 then (if 0 ≤ t380 then (if t380 < (l0_0.length : Int) then (if ((rd_T28 l0_0 t380).f0) = 2 then (some (t380, t374, 0)) else (none)) else (none)) else (none)) else (none)) = some (r1, r2, r3) := H; have A8 := Aside0.mk A80; clear A80
   by_cases c9 : t381 = 0
   ·
    rw [if_pos c9] at H; have c9b0 : (t381 == 0) = true := beq_iff_eq.mpr c9; have c9b1 : (t381 != 0) = false := bne_eq_false_iff_eq.mpr c9; clear c9
    by_cases c10 : 0 ≤ t380
    ·
     rw [if_pos c10] at H; have c10b0 : decide (0 ≤ t380) = true := decide_eq_true c10; clear c10
     by_cases c11 : t380 < (l0_0.length : Int)
     ·
      rw [if_pos c11] at H; have c11b0 : decide (t380 < (l0_0.length : Int)) = true := decide_eq_true c11; clear c11
      by_cases c12 : ((rd_T28 l0_0 t380).f0) = 2
      ·
       rw [if_pos c12] at H; have c12b0 : (((rd_T28 l0_0 t380).f0) == 2) = true := beq_iff_eq.mpr c12; have c12b1 : (((rd_T28 l0_0 t380).f0) != 2) = false := bne_eq_false_iff_eq.mpr c12; clear c12; simp only [Option.some.injEq, Prod.mk.injEq] at H; obtain ⟨rfl, rfl, rfl⟩ := H
       go_enter Try.func85, Try.ntmps85
       go_wp2_with (first | ((with_reducible refine gate_dst (N := 2) rfl ?_); refine box_event ?hg (N := 2) ?hd (cs := #[.slice A0_0 l0_0.length c0_0]) (t := 24) ?hr ?_; (case hd => rfl); (case hg => rfl); (case hr => first | (go_simp; done) | (go_simp; rfl)); intro gb371 hg w13 hbox hb; have n0_ := Aside0.mk (below_step (by repeat (first | (with_reducible first | exact HB.out | apply wA | apply wN | apply wD) | exact HB.out)) hb); have n1_ := Aside0.mk (hbox); have n2_ := Aside0.mk ((by rw [hg]; exact (below_size (by repeat (first | (with_reducible first | exact HB.out | apply wA | apply wN | apply wD) | exact HB.out))) : w.heap.size ≤ gb371)); have n3_ := Aside0.mk ((by rw [hg]; exact (below_size (by repeat (first | (with_reducible first | exact HB.out | apply wA | apply wN | apply wD) | exact HB.out))) : w.heap.size ≤ gb371)); clear HB; have HB := n0_; have BK371 := n1_; have GW371 := n2_; have GE371 := n3_; clear n0_ n1_ n2_ n3_; clear hb hbox hg; have hcz14_0 : w13.cell? ⟨gb371, 0, none⟩ = some (.slice A0_0 l0_0.length c0_0) := (bC BK371.out 0).trans rfl; have hfz14_0 := bZ BK371.out 0) | ((with_reducible refine gate_callee (f := 29) rfl ?_); refine goesL_ (some 14) rfl rfl Try.func29 (by kernel_rfl) rfl #[.agg #[.slice A0_0 l0_0.length c0_0]] rfl (by (try simp only [List.map_toArray, List.map_cons, List.map_nil]); first | done | rfl | (simp only [List.length_drop, List.length_take]; rfl)) ?_; (with_reducible refine (potsherdref12_MayTree.calls k _ _ l0_0 true _ ?side1 ?side2 A3.out).mono ?_); (case side1 => repeat (first | exact (Kd.C_below HR0_0.out HB.out) | (with_reducible refine Kd.C_alloc ?_ _) | (with_reducible refine Kd.C_drewN ?_ _) | (with_reducible refine Kd.C_drew ?_))); (case side2 => exact HC0_0.out); rintro e w15 ⟨rfl, hb⟩; refine ⟨_, rfl, ?_⟩; have n0_ := Aside0.mk (bB (g := gb371) (o := .cells #[.slice A0_0 l0_0.length c0_0] 24 (0, 0)) (by (with_reducible repeat (first | refine bN ?_ _ | refine bD ?_ | refine bA ?_ _)); exact BK371.out) hb); have n1_ := Aside0.mk (below_step (by repeat (first | (with_reducible first | exact HB.out | apply wA | apply wN | apply wD | refine wS ?_ GE371.out) | exact HB.out)) hb); clear BK371; clear HB; have BK371 := n0_; have HB := n1_; clear n0_ n1_; (try clear hb); (try clear hb2); (try clear hk); (try clear hi)) | ((with_reducible refine gate_callee (f := 90) rfl ?_); refine goesL_ (some 18) rfl rfl Try.func90 (by kernel_rfl) rfl #[.string a1] rfl (by (try simp only [List.map_toArray, List.map_cons, List.map_nil]); first | done | rfl | (simp only [List.length_drop, List.length_take]; rfl)) ?_; (with_reducible refine (potsherdref12_Last.calls k a1 t373 t374 t375 _ A5.out).mono ?_); rintro e w16 ⟨rfl, hb⟩; refine ⟨_, rfl, ?_⟩; have n0_ := Aside0.mk (bB (g := gb371) (o := .cells #[.slice A0_0 l0_0.length c0_0] 24 (0, 0)) (by (with_reducible repeat (first | refine bN ?_ _ | refine bD ?_ | refine bA ?_ _)); exact BK371.out) hb); have n1_ := Aside0.mk (below_step (by repeat (first | (with_reducible first | exact HB.out | apply wA | apply wN | apply wD | refine wS ?_ GE371.out) | exact HB.out)) hb); clear BK371; clear HB; have BK371 := n0_; have HB := n1_; clear n0_ n1_; (try clear hb); (try clear hb2); (try clear hk); (try clear hi)) | ((with_reducible refine gate_callee (f := 91) rfl ?_); refine goesL_ (some 27) rfl rfl Try.func91 (by kernel_rfl) rfl #[.string t373] rfl (by (try simp only [List.map_toArray, List.map_cons, List.map_nil]); first | done | rfl | (simp only [List.length_drop, List.length_take]; rfl)) ?_; (with_reducible refine (potsherdref12_Split.calls k t373 t376 t377 _ A7.out).mono ?_); rintro e w17 ⟨v378, rfl, ho0, hb⟩; refine ⟨_, rfl, ?_⟩; have n0_ := Aside0.mk (Kd.R_lower ho0 (below_size (by repeat (first | (with_reducible first | exact HB.out | apply wA | apply wN | apply wD | refine wS ?_ GE371.out) | exact HB.out)))); have n1_ := Aside0.mk (bB (g := gb371) (o := .cells #[.slice A0_0 l0_0.length c0_0] 24 (0, 0)) (by (with_reducible repeat (first | refine bN ?_ _ | refine bD ?_ | refine bA ?_ _)); exact BK371.out) hb); have n2_ := Aside0.mk (below_step (by repeat (first | (with_reducible first | exact HB.out | apply wA | apply wN | apply wD | refine wS ?_ GE371.out) | exact HB.out)) hb); clear BK371; clear HB; have HO379 := n0_; have BK371 := n1_; have HB := n2_; clear n0_ n1_ n2_; (try clear hb); (try clear hb2); (try clear hk); (try clear hi); (try clear ho0); have hcz18_0 : w17.cell? ⟨gb371, 0, none⟩ = some (.slice A0_0 l0_0.length c0_0) := (bC BK371.out 0).trans rfl; have hfz18_0 := bZ BK371.out 0; obtain ⟨Ao19, co19, eo19⟩ := Kd.R_slice HO379.out; subst eo19) | ((with_reducible refine gate_callee (f := 92) rfl ?_); refine goesL_ (some 33) rfl rfl Try.func92 (by kernel_rfl) rfl #[.agg #[.slice A0_0 l0_0.length c0_0], .slice Ao19 t376.length co19] rfl (by (try simp only [List.map_toArray, List.map_cons, List.map_nil]); first | done | rfl | (simp only [List.length_drop, List.length_take]; rfl)) ?_; (with_reducible refine (potsherdref12_find.calls k _ _ l0_0 _ _ t376 t380 t381 _ ?side1 ?side2 ?side3 ?side4 A8.out).mono ?_); (case side1 => repeat (first | exact (Kd.C_below HR0_0.out HB.out) | (with_reducible refine Kd.C_alloc ?_ _) | (with_reducible refine Kd.C_drewN ?_ _) | (with_reducible refine Kd.C_drew ?_))); (case side2 => exact HC0_0.out); (case side3 => repeat (first | exact (Kd.R_reads' HO379.out).2.2 | (with_reducible refine Kd.C_alloc ?_ _) | (with_reducible refine Kd.C_drewN ?_ _) | (with_reducible refine Kd.C_drew ?_))); (case side4 => exact (Kd.R_reads' HO379.out).2.1); rintro e w20 ⟨rfl, hb⟩; refine ⟨_, rfl, ?_⟩; have n0_ := Aside0.mk (Kd.R_below (by (with_reducible repeat (first | apply Kd.R_alloc | apply Kd.R_drewN | apply Kd.R_drew)); exact HO379.out) hb); have n1_ := Aside0.mk (bB (g := gb371) (o := .cells #[.slice A0_0 l0_0.length c0_0] 24 (0, 0)) (by (with_reducible repeat (first | refine bN ?_ _ | refine bD ?_ | refine bA ?_ _)); exact BK371.out) hb); have n2_ := Aside0.mk (below_step (by repeat (first | (with_reducible first | exact HB.out | apply wA | apply wN | apply wD | refine wS ?_ GE371.out) | exact HB.out)) hb); clear HO379; clear BK371; clear HB; have HO379 := n0_; have BK371 := n1_; have HB := n2_; clear n0_ n1_ n2_; (try clear hb); (try clear hb2); (try clear hk); (try clear hi); have hcz21_0 : w20.cell? ⟨gb371, 0, none⟩ = some (.slice A0_0 l0_0.length c0_0) := (bC BK371.out 0).trans rfl; have hfz21_0 := bZ BK371.out 0; have p382 : 0 ≤ (t380 : Int) := of_decide_eq_true (by first | (with_reducible assumption) | assumption); have q382 : t380 < (l0_0.length : Int) := of_decide_eq_true (by first | (with_reducible assumption) | assumption); obtain ⟨ad382, A382_3, c382_3, A382_4, c382_4, e382, hx382_0, hx382_1, hx382_2, hx382_3, hx382_4, hl382_3, hi382_3, hl382_4, hi382_4⟩ := at_T28 HR0_0.out t380 p382 q382; cases e382; replace hx382_0 := (HB.out.cell (World.block_lt_of_cell? w _ hx382_0)).trans hx382_0; replace hx382_1 := (HB.out.cell (World.block_lt_of_cell? w _ hx382_1)).trans hx382_1; replace hx382_2 := (HB.out.cell (World.block_lt_of_cell? w _ hx382_2)).trans hx382_2; replace hx382_3 := (HB.out.cell (World.block_lt_of_cell? w _ hx382_3)).trans hx382_3; replace hx382_4 := (HB.out.cell (World.block_lt_of_cell? w _ hx382_4)).trans hx382_4; have HR382_3 := Aside0.mk hi382_3; have HC382_3 := Aside0.mk hl382_3; clear hi382_3 hl382_3; have HR382_4 := Aside0.mk hi382_4; have HC382_4 := Aside0.mk hl382_4; clear hi382_4 hl382_4; replace p382 := eq_true p382; replace q382 := eq_true q382))
       go_ret3
       exact ⟨by first | rfl | exact congrArg (fun b_ => Ending.returned (Value.bool b_)) HRET.out | (rw [HRET.out]) | (simp [errW_none, errW_some] <;> rfl) | (simp [*, errW_none, errW_some] <;> rfl), by repeat (first | (with_reducible first | exact HB.out | apply wA | apply wN | apply wD | refine wS ?_ GE371.out) | exact HB.out)⟩
      ·
       rw [if_neg c12] at H; exact absurd H (by simp)
     ·
      rw [if_neg c11] at H; exact absurd H (by simp)
    ·
     rw [if_neg c10] at H; exact absurd H (by simp)
   ·
    rw [if_neg c9] at H; exact absurd H (by simp)
  ·
   rw [if_neg c6] at H; exact absurd H (by simp)
 ·
  replace c4 := Bool.eq_false_iff.mpr c4; subst c4
  have H1 : (none) = some (r1, r2, r3) := by rw [if_neg (show ¬ (false = true) by decide)] at H; exact H
  clear H; have H := H1; clear H1; exact absurd H (by simp)
def potsherdref12_Free.l0 : Nat → List (S28) → Int → Int → Option (Int)
 | 0, _, _, _ => none
 | k + 1, x9, x10, x11 => if x11 < x10 then (if 0 ≤ x11 then (if x11 < (x9.length : Int) then (if ((rd_T28 x9 x11).f0) = 0 then (some x11) else (potsherdref12_Free.l0 k x9 x10 (wrap64 (x11 + 1)))) else (none)) else (none)) else (none)
def potsherdref12_Free.f (k : Nat) (l0_0 : List (S28)) : Option (Int) := (potsherdref12_MayTree.f k l0_0).bind fun t384 => (if t384 = true then (potsherdref12_Free.l0 k l0_0 (l0_0.length : Int) 0) else (none))
theorem potsherdref12_Free.mono_l : ∀ k, (∀ y0 y1 y2, LeO (potsherdref12_Free.l0 k y0 y1 y2) (potsherdref12_Free.l0 (k + 1) y0 y1 y2))
 | 0 => fun _ _ _ r h => by simp [potsherdref12_Free.l0] at h
 | k + 1 => by
  have ih0 := potsherdref12_Free.mono_l k
  ·
   intro y0 y1 y2
   unfold potsherdref12_Free.l0
   repeat' first
   | (with_reducible exact ih0 _ _ _)
   | (with_reducible exact potsherdref12_MayTree.mono _ _)
   | (with_reducible exact LeO.refl _)
   | (with_reducible exact LeO.none _)
   | (with_reducible refine LeO.ite ?_ ?_)
   | (with_reducible refine LeO.bind ?_ (fun _ => ?_))
   | exact ih0 _ _ _
   | exact potsherdref12_MayTree.mono _ _
   | exact LeO.none _
   | refine LeO.ite ?_ ?_
   | refine LeO.bind ?_ (fun _ => ?_)
theorem potsherdref12_Free.mono : ∀ a0 k, LeO (potsherdref12_Free.f k a0) (potsherdref12_Free.f (k + 1) a0) := by
 intro a0 k; have ih0 := potsherdref12_Free.mono_l k
 unfold potsherdref12_Free.f
 repeat' first
  | (with_reducible exact ih0 _ _ _)
  | (with_reducible exact potsherdref12_MayTree.mono _ _)
  | (with_reducible exact LeO.refl _)
  | (with_reducible exact LeO.none _)
  | (with_reducible refine LeO.ite ?_ ?_)
  | (with_reducible refine LeO.bind ?_ (fun _ => ?_))
  | exact ih0 _ _ _
  | exact potsherdref12_MayTree.mono _ _
  | exact LeO.none _
  | refine LeO.ite ?_ ?_
  | refine LeO.bind ?_ (fun _ => ?_)
set_option maxHeartbeats 8000000 in
set_option maxRecDepth 100000 in
theorem potsherdref12_Free.calls (k : Nat) (A0_0 : Option Addr) (c0_0 : Nat) (l0_0 : List (S28)) (r : Int) (w : World) (hr0_0 : Kd.C k28 w A0_0 l0_0.length l0_0) (hc0_0 : l0_0.length ≤ c0_0) (h : potsherdref12_Free.f k l0_0 = some r) :
 Calls Try.prog 87 #[.agg #[.slice A0_0 l0_0.length c0_0]] w fun e w' => e = .returned (.int .i64 r) ∧ Below w.heap.size w w' := by
 have hu24 := Try.underlying24; have hu28 := Try.underlying28; have HR0_0 := Aside0.mk hr0_0; have HC0_0 := Aside0.mk hc0_0; clear hr0_0 hc0_0; have HB := Aside0.mk (Below.refl w.heap.size w); have H : ((potsherdref12_MayTree.f k l0_0).bind fun t384 => (if t384 = true then (potsherdref12_Free.l0 k l0_0 (l0_0.length : Int) 0) else (none))) = some r := h; clear h; replace H := Option.bind_eq_some_iff.mp H; obtain ⟨t384, A20, H⟩ := H; replace H : (if t384 = true then (potsherdref12_Free.l0 k l0_0 (l0_0.length : Int) 0) else (none)) = some r := H; have A2 := Aside0.mk A20; clear A20
 by_cases c3 : t384 = true
 ·
  subst c3
  have H1 : (potsherdref12_Free.l0 k l0_0 (l0_0.length : Int) 0) = some r := by rw [if_pos rfl] at H; exact H
  clear H; have H := H1; clear H1; have H' := Aside0.mk H; clear H
  go_enter Try.func87, Try.ntmps87
  go_wp2_with (first | ((with_reducible refine gate_dst (N := 1) rfl ?_); refine box_event ?hg (N := 1) ?hd (cs := #[.slice A0_0 l0_0.length c0_0]) (t := 24) ?hr ?_; (case hd => rfl); (case hg => rfl); (case hr => first | (go_simp; done) | (go_simp; rfl)); intro gb383 hg w4 hbox hb; have n0_ := Aside0.mk (below_step (by repeat (first | (with_reducible first | exact HB.out | apply wA | apply wN | apply wD) | exact HB.out)) hb); have n1_ := Aside0.mk (hbox); have n2_ := Aside0.mk ((by rw [hg]; exact (below_size (by repeat (first | (with_reducible first | exact HB.out | apply wA | apply wN | apply wD) | exact HB.out))) : w.heap.size ≤ gb383)); have n3_ := Aside0.mk ((by rw [hg]; exact (below_size (by repeat (first | (with_reducible first | exact HB.out | apply wA | apply wN | apply wD) | exact HB.out))) : w.heap.size ≤ gb383)); clear HB; have HB := n0_; have BK383 := n1_; have GW383 := n2_; have GE383 := n3_; clear n0_ n1_ n2_ n3_; clear hb hbox hg; have hcz5_0 : w4.cell? ⟨gb383, 0, none⟩ = some (.slice A0_0 l0_0.length c0_0) := (bC BK383.out 0).trans rfl; have hfz5_0 := bZ BK383.out 0) | ((with_reducible refine gate_callee (f := 29) rfl ?_); refine goesL_ (some 6) rfl rfl Try.func29 (by kernel_rfl) rfl #[.agg #[.slice A0_0 l0_0.length c0_0]] rfl (by (try simp only [List.map_toArray, List.map_cons, List.map_nil]); first | done | rfl | (simp only [List.length_drop, List.length_take]; rfl)) ?_; (with_reducible refine (potsherdref12_MayTree.calls k _ _ l0_0 true _ ?side1 ?side2 A2.out).mono ?_); (case side1 => repeat (first | exact (Kd.C_below HR0_0.out HB.out) | (with_reducible refine Kd.C_alloc ?_ _) | (with_reducible refine Kd.C_drewN ?_ _) | (with_reducible refine Kd.C_drew ?_))); (case side2 => exact HC0_0.out); rintro e w6 ⟨rfl, hb⟩; refine ⟨_, rfl, ?_⟩; have n0_ := Aside0.mk (bB (g := gb383) (o := .cells #[.slice A0_0 l0_0.length c0_0] 24 (0, 0)) (by (with_reducible repeat (first | refine bN ?_ _ | refine bD ?_ | refine bA ?_ _)); exact BK383.out) hb); have n1_ := Aside0.mk (below_step (by repeat (first | (with_reducible first | exact HB.out | apply wA | apply wN | apply wD | refine wS ?_ GE383.out) | exact HB.out)) hb); clear BK383; clear HB; have BK383 := n0_; have HB := n1_; clear n0_ n1_; (try clear hb); (try clear hb2); (try clear hk); (try clear hi); have hcz7_0 : w6.cell? ⟨gb383, 0, none⟩ = some (.slice A0_0 l0_0.length c0_0) := (bC BK383.out 0).trans rfl; have hfz7_0 := bZ BK383.out 0))
  go_loopg [11] k (fun kq v11 w' => ∃ (x11_1 : Int), v11 = .int .i64 x11_1 ∧ Aside0 (potsherdref12_Free.l0 kq l0_0 (l0_0.length : Int) x11_1 = some r) ∧ Aside0 (kq ≤ k) ∧ Aside0 (w'.heap[gb383]? = some (.cells #[(.slice A0_0 l0_0.length c0_0)] 24 (0, 0))) ∧ Aside0 (Below w.heap.size w w'))
  case atStart => exact ⟨(0), (by first | rfl | (simp; done) | (simp [*]; done)), H', ⟨Nat.le_refl _⟩, ⟨by (with_reducible repeat (first | refine bN ?_ _ | refine bD ?_ | refine bA ?_ _)); exact BK383.out⟩, ⟨by repeat (first | (with_reducible first | exact HB.out | apply wA | apply wN | apply wD | refine wS ?_ GE383.out) | exact HB.out)⟩⟩
  case round =>
   clear H'
   try clear c2
   try clear p2
   try clear c3
   try clear hcz5_0
   try clear hcz7_0
   try clear hfz5_0
   try clear hfz7_0
   obtain ⟨x11_1, rfl, HA, HK1, BK383, HB⟩ := hrel
   cases gk with
   | zero => exact absurd HA.out (by simp [potsherdref12_Free.l0])
   | succ k1 =>
    have H := HA.out; clear HA; simp only [potsherdref12_Free.l0] at H
    by_cases c8 : x11_1 < (l0_0.length : Int)
    ·
     rw [if_pos c8] at H; have c8b0 : decide (x11_1 < (l0_0.length : Int)) = true := decide_eq_true c8; clear c8
     by_cases c9 : 0 ≤ x11_1
     ·
      rw [if_pos c9] at H; have c9b0 : decide (0 ≤ x11_1) = true := decide_eq_true c9; clear c9
      by_cases c10 : x11_1 < (l0_0.length : Int)
      ·
       rw [if_pos c10] at H; have c10b0 : decide (x11_1 < (l0_0.length : Int)) = true := decide_eq_true c10; clear c10
       by_cases c11 : ((rd_T28 l0_0 x11_1).f0) = 0
       ·
        rw [if_pos c11] at H; have c11b0 : (((rd_T28 l0_0 x11_1).f0) == 0) = true := beq_iff_eq.mpr c11; have c11b1 : (((rd_T28 l0_0 x11_1).f0) != 0) = false := bne_eq_false_iff_eq.mpr c11; clear c11; obtain rfl := Option.some.inj H; have p385 : 0 ≤ (x11_1 : Int) := of_decide_eq_true (by first | (with_reducible assumption) | assumption); have q385 : x11_1 < (l0_0.length : Int) := of_decide_eq_true (by first | (with_reducible assumption) | assumption); obtain ⟨ad385, A385_3, c385_3, A385_4, c385_4, e385, hx385_0, hx385_1, hx385_2, hx385_3, hx385_4, hl385_3, hi385_3, hl385_4, hi385_4⟩ := at_T28 HR0_0.out x11_1 p385 q385
        cases e385
        replace hx385_0 := (HB.out.cell (World.block_lt_of_cell? w _ hx385_0)).trans hx385_0; replace hx385_1 := (HB.out.cell (World.block_lt_of_cell? w _ hx385_1)).trans hx385_1; replace hx385_2 := (HB.out.cell (World.block_lt_of_cell? w _ hx385_2)).trans hx385_2; replace hx385_3 := (HB.out.cell (World.block_lt_of_cell? w _ hx385_3)).trans hx385_3; replace hx385_4 := (HB.out.cell (World.block_lt_of_cell? w _ hx385_4)).trans hx385_4; have HR385_3 := Aside0.mk hi385_3; have HC385_3 := Aside0.mk hl385_3; clear hi385_3 hl385_3; have HR385_4 := Aside0.mk hi385_4; have HC385_4 := Aside0.mk hl385_4; clear hi385_4 hl385_4; replace p385 := eq_true p385; replace q385 := eq_true q385
        go_wp2_with (first | ((with_reducible refine gate_dst (N := 4) rfl ?_); refine box_event ?hg (N := 4) ?hd (cs := #[.int .i64 0, .int .i64 0, .int .i64 0, .slice none 0 0, .slice none 0 0]) (t := 28) ?hr ?_; (case hd => rfl); (case hg => rfl); (case hr => first | (go_simp; done) | (go_simp; rfl)); intro gb386 hg w12 hbox hb; have n0_ := Aside0.mk (bB (g := gb383) (o := .cells #[.slice (some ad385) l0_0.length c0_0] 24 (0, 0)) (by (with_reducible repeat (first | refine bN ?_ _ | refine bD ?_ | refine bA ?_ _)); exact BK383.out) hb); have n1_ := Aside0.mk (below_step (by repeat (first | (with_reducible first | exact HB.out | apply wA | apply wN | apply wD | refine wS ?_ GE383.out) | exact HB.out)) hb); have n2_ := Aside0.mk (hbox); have n3_ := Aside0.mk ((by rw [hg]; exact (below_size (by repeat (first | (with_reducible first | exact HB.out | apply wA | apply wN | apply wD | refine wS ?_ GE383.out) | exact HB.out))) : w.heap.size ≤ gb386)); have n4_ := Aside0.mk ((by rw [hg]; exact (below_size (by repeat (first | (with_reducible first | exact HB.out | apply wA | apply wN | apply wD | refine wS ?_ GE383.out) | exact HB.out))) : w.heap.size ≤ gb386)); have n5_ := Aside0.mk ((by rw [hg]; exact Nat.ne_of_lt (blk_lt (g := gb383) (o := .cells #[.slice (some ad385) l0_0.length c0_0] 24 (0, 0)) (by (with_reducible repeat (first | refine bN ?_ _ | refine bD ?_ | refine bA ?_ _)); exact BK383.out)) : gb383 ≠ gb386)); have n6_ := Aside0.mk ((by rw [hg]; exact Nat.ne_of_gt (blk_lt (g := gb383) (o := .cells #[.slice (some ad385) l0_0.length c0_0] 24 (0, 0)) (by (with_reducible repeat (first | refine bN ?_ _ | refine bD ?_ | refine bA ?_ _)); exact BK383.out)) : gb386 ≠ gb383)); clear BK383; clear HB; have BK383 := n0_; have HB := n1_; have BK386 := n2_; have GW386 := n3_; have GE386 := n4_; have NB383_386 := n5_; have NB386_383 := n6_; clear n0_ n1_ n2_ n3_ n4_ n5_ n6_; clear hb hbox hg; have hnb13 := NB386_383.out; have hnc13 := NB383_386.out; have hcz14_0 : w12.cell? ⟨gb386, 0, none⟩ = some (.int .i64 0) := (bC BK386.out 0).trans rfl; have hcz14_1 : w12.cell? ⟨gb386, 1, none⟩ = some (.int .i64 0) := (bC BK386.out 1).trans rfl; have hcz14_2 : w12.cell? ⟨gb386, 2, none⟩ = some (.int .i64 0) := (bC BK386.out 2).trans rfl; have hcz14_3 : w12.cell? ⟨gb386, 3, none⟩ = some (.slice none 0 0) := (bC BK386.out 3).trans rfl; have hcz14_4 : w12.cell? ⟨gb386, 4, none⟩ = some (.slice none 0 0) := (bC BK386.out 4).trans rfl; have hfz14_0 := bZ BK386.out 0; have hfz14_1 := bZ BK386.out 1; have hfz14_2 := bZ BK386.out 2; have hfz14_3 := bZ BK386.out 3; have hfz14_4 := bZ BK386.out 4))
        go_ret
        exact ⟨by first | rfl | exact congrArg (fun b_ => Ending.returned (Value.bool b_)) HRET.out | (rw [HRET.out]) | (simp [errW_none, errW_some] <;> rfl) | (simp [*, errW_none, errW_some] <;> rfl), by repeat (first | (with_reducible first | exact HB.out | apply wA | apply wN | apply wD | refine wS ?_ GE383.out | refine wS ?_ GE386.out) | exact HB.out)⟩
       ·
        rw [if_neg c11] at H; have c11b0 : (((rd_T28 l0_0 x11_1).f0) == 0) = false := beq_eq_false_iff_ne.mpr c11; have c11b1 : (((rd_T28 l0_0 x11_1).f0) != 0) = true := bne_iff_ne.mpr c11; have H' := Aside0.mk H; clear H; have p385 : 0 ≤ (x11_1 : Int) := of_decide_eq_true (by first | (with_reducible assumption) | assumption); have q385 : x11_1 < (l0_0.length : Int) := of_decide_eq_true (by first | (with_reducible assumption) | assumption); obtain ⟨ad385, A385_3, c385_3, A385_4, c385_4, e385, hx385_0, hx385_1, hx385_2, hx385_3, hx385_4, hl385_3, hi385_3, hl385_4, hi385_4⟩ := at_T28 HR0_0.out x11_1 p385 q385
        cases e385
        replace hx385_0 := (HB.out.cell (World.block_lt_of_cell? w _ hx385_0)).trans hx385_0; replace hx385_1 := (HB.out.cell (World.block_lt_of_cell? w _ hx385_1)).trans hx385_1; replace hx385_2 := (HB.out.cell (World.block_lt_of_cell? w _ hx385_2)).trans hx385_2; replace hx385_3 := (HB.out.cell (World.block_lt_of_cell? w _ hx385_3)).trans hx385_3; replace hx385_4 := (HB.out.cell (World.block_lt_of_cell? w _ hx385_4)).trans hx385_4; have HR385_3 := Aside0.mk hi385_3; have HC385_3 := Aside0.mk hl385_3; clear hi385_3 hl385_3; have HR385_4 := Aside0.mk hi385_4; have HC385_4 := Aside0.mk hl385_4; clear hi385_4 hl385_4; replace p385 := eq_true p385; replace q385 := eq_true q385
        go_wp2_with (first | ((with_reducible refine gate_dst (N := 4) rfl ?_); refine box_event ?hg (N := 4) ?hd (cs := #[.int .i64 0, .int .i64 0, .int .i64 0, .slice none 0 0, .slice none 0 0]) (t := 28) ?hr ?_; (case hd => rfl); (case hg => rfl); (case hr => first | (go_simp; done) | (go_simp; rfl)); intro gb386 hg w15 hbox hb; have n0_ := Aside0.mk (bB (g := gb383) (o := .cells #[.slice (some ad385) l0_0.length c0_0] 24 (0, 0)) (by (with_reducible repeat (first | refine bN ?_ _ | refine bD ?_ | refine bA ?_ _)); exact BK383.out) hb); have n1_ := Aside0.mk (below_step (by repeat (first | (with_reducible first | exact HB.out | apply wA | apply wN | apply wD | refine wS ?_ GE383.out) | exact HB.out)) hb); have n2_ := Aside0.mk (hbox); have n3_ := Aside0.mk ((by rw [hg]; exact (below_size (by repeat (first | (with_reducible first | exact HB.out | apply wA | apply wN | apply wD | refine wS ?_ GE383.out) | exact HB.out))) : w.heap.size ≤ gb386)); have n4_ := Aside0.mk ((by rw [hg]; exact (below_size (by repeat (first | (with_reducible first | exact HB.out | apply wA | apply wN | apply wD | refine wS ?_ GE383.out) | exact HB.out))) : w.heap.size ≤ gb386)); have n5_ := Aside0.mk ((by rw [hg]; exact Nat.ne_of_lt (blk_lt (g := gb383) (o := .cells #[.slice (some ad385) l0_0.length c0_0] 24 (0, 0)) (by (with_reducible repeat (first | refine bN ?_ _ | refine bD ?_ | refine bA ?_ _)); exact BK383.out)) : gb383 ≠ gb386)); have n6_ := Aside0.mk ((by rw [hg]; exact Nat.ne_of_gt (blk_lt (g := gb383) (o := .cells #[.slice (some ad385) l0_0.length c0_0] 24 (0, 0)) (by (with_reducible repeat (first | refine bN ?_ _ | refine bD ?_ | refine bA ?_ _)); exact BK383.out)) : gb386 ≠ gb383)); clear BK383; clear HB; have BK383 := n0_; have HB := n1_; have BK386 := n2_; have GW386 := n3_; have GE386 := n4_; have NB383_386 := n5_; have NB386_383 := n6_; clear n0_ n1_ n2_ n3_ n4_ n5_ n6_; clear hb hbox hg; have hnb16 := NB386_383.out; have hnc16 := NB383_386.out; have hcz17_0 : w15.cell? ⟨gb386, 0, none⟩ = some (.int .i64 0) := (bC BK386.out 0).trans rfl; have hcz17_1 : w15.cell? ⟨gb386, 1, none⟩ = some (.int .i64 0) := (bC BK386.out 1).trans rfl; have hcz17_2 : w15.cell? ⟨gb386, 2, none⟩ = some (.int .i64 0) := (bC BK386.out 2).trans rfl; have hcz17_3 : w15.cell? ⟨gb386, 3, none⟩ = some (.slice none 0 0) := (bC BK386.out 3).trans rfl; have hcz17_4 : w15.cell? ⟨gb386, 4, none⟩ = some (.slice none 0 0) := (bC BK386.out 4).trans rfl; have hfz17_0 := bZ BK386.out 0; have hfz17_1 := bZ BK386.out 1; have hfz17_2 := bZ BK386.out 2; have hfz17_3 := bZ BK386.out 3; have hfz17_4 := bZ BK386.out 4))
        go_roundg k1
        case measure => have := HK1.out; omega
        case rel => exact ⟨(wrap64 (x11_1 + 1)), (by first | rfl | (simp; done) | (simp [*]; done)), H', ⟨by have := HK1.out; omega⟩, ⟨by (with_reducible repeat (first | refine bN ?_ _ | refine bD ?_ | refine bA ?_ _)); refine bF ?_ NB383_386.out _; (with_reducible repeat (first | refine bN ?_ _ | refine bD ?_ | refine bA ?_ _)); refine bF ?_ NB383_386.out _; (with_reducible repeat (first | refine bN ?_ _ | refine bD ?_ | refine bA ?_ _)); refine bF ?_ NB383_386.out _; (with_reducible repeat (first | refine bN ?_ _ | refine bD ?_ | refine bA ?_ _)); refine bF ?_ NB383_386.out _; (with_reducible repeat (first | refine bN ?_ _ | refine bD ?_ | refine bA ?_ _)); refine bF ?_ NB383_386.out _; (with_reducible repeat (first | refine bN ?_ _ | refine bD ?_ | refine bA ?_ _)); exact BK383.out⟩, ⟨by repeat (first | (with_reducible first | exact HB.out | apply wA | apply wN | apply wD | refine wS ?_ GE383.out | refine wS ?_ GE386.out) | exact HB.out)⟩⟩
      ·
       rw [if_neg c10] at H; exact absurd H (by simp)
     ·
      rw [if_neg c9] at H; exact absurd H (by simp)
    ·
     rw [if_neg c8] at H; exact absurd H (by simp)
 ·
  replace c3 := Bool.eq_false_iff.mpr c3; subst c3
  have H1 : (none) = some r := by rw [if_neg (show ¬ (false = true) by decide)] at H; exact H
  clear H; have H := H1; clear H1; exact absurd H (by simp)
end Go.Proofs.Ytkigiehkckjlhaa.PMakes
