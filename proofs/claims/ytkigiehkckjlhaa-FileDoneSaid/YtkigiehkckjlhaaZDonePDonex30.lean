/- The Go functions that these laws reach, each as a Lean function with the same answers (a law itself where it answers true), and the proof that the code comes to them; conditions: those of each theorem. Laid by a program of this session over the print. -/
import Derived.Test.YtkigiehkckjlhaaZDonePDoneShort
import Derived.Test.YtkigiehkckjlhaaZDonePDonex0
import Derived.Test.YtkigiehkckjlhaaZDonePDonex6
import Derived.Test.YtkigiehkckjlhaaZDonePDonex2
import Derived.Test.YtkigiehkckjlhaaZDonePDonex26
import Derived.Test.YtkigiehkckjlhaaZDonePDonex9
namespace Go.Proofs.Ytkigiehkckjlhaa.PDone
open Go.RowKit Go.Proofs.YtkigiehkckjlhaaW.PrintWords Go.Proofs.YtkigiehkckjlhaaW.PrintLast Go.Proofs.YtkigiehkckjlhaaW.PrintMore
attribute [local go_sem] max2_int min2_int max_two min_two max_three min_three max_four min_four   -- for this text's walks alone
set_option linter.unusedVariables false
set_option linter.unusedSimpArgs false
open Go.Proofs.YtkigiehkckjlhaaW.PrintWords renaming blk_drewN → bN, blk_drew → bD, blk_alloc → bA, below_set → wS, below_alloc → wA, pw_below_drewN → wN, below_drew1 → wD, blk_below → bB, blk_far → bF, blk_cell → bC, blk_frozen → bZ
open List renaming setIfInBounds_toArray → lT, set_cons_zero → l0_, set_cons_succ → lS
def potsherdref12_Free.l0 : Nat → List (S28) → Int → Int → Option (Int)
 | 0, _, _, _ => none
 | k + 1, x9, x10, x11 => if x11 < x10 then (if 0 ≤ x11 then (if x11 < (x9.length : Int) then (if ((rd_T28 x9 x11).f0) = 0 then (some x11) else (potsherdref12_Free.l0 k x9 x10 (wrap64 (x11 + 1)))) else (none)) else (none)) else (none)
def potsherdref12_Free.f (k : Nat) (l0_0 : List (S28)) : Option (Int) := (potsherdref12_MayTree.f k l0_0).bind fun t388 => (if t388 = true then (potsherdref12_Free.l0 k l0_0 (l0_0.length : Int) 0) else (none))
theorem potsherdref12_Free.mono_l : ∀ k, (∀ y0 y1 y2, LeO (potsherdref12_Free.l0 k y0 y1 y2) (potsherdref12_Free.l0 (k + 1) y0 y1 y2))
 | 0 => fun _ _ _ r h => by simp [potsherdref12_Free.l0] at h
 | k + 1 => by
  have ih0 := potsherdref12_Free.mono_l k
  ·
   intro y0 y1 y2
   unfold potsherdref12_Free.l0
   repeat' with_reducible first | apply ih0 | apply potsherdref12_MayTree.mono | exact LeO.refl _ | exact LeO.none _ | refine LeO.ite ?_ ?_ | refine LeO.bind ?_ (fun _ => ?_)
theorem potsherdref12_Free.mono : ∀ a0 k, LeO (potsherdref12_Free.f k a0) (potsherdref12_Free.f (k + 1) a0) := by
 intro a0 k; have ih0 := potsherdref12_Free.mono_l k
 unfold potsherdref12_Free.f
 repeat' with_reducible first | apply ih0 | apply potsherdref12_MayTree.mono | exact LeO.refl _ | exact LeO.none _ | refine LeO.ite ?_ ?_ | refine LeO.bind ?_ (fun _ => ?_)
set_option maxHeartbeats 8000000 in
set_option maxRecDepth 100000 in
theorem potsherdref12_Free.calls (k : Nat) (A0_0 : Option Addr) (c0_0 : Nat) (l0_0 : List (S28)) (r : Int) (w : World) (hr0_0 : Kd.C k28 w A0_0 l0_0.length l0_0) (hc0_0 : l0_0.length ≤ c0_0) (h : potsherdref12_Free.f k l0_0 = some r) :
 Calls Try.prog 87 #[.agg #[.slice A0_0 l0_0.length c0_0]] w fun e w' => e = .returned (.int .i64 r) ∧ Below w.heap.size w w' := by
 have hu24 := Try.underlying24; have hu28 := Try.underlying28; have HR0_0 := Aside0.mk hr0_0; have HC0_0 := Aside0.mk hc0_0; clear hr0_0 hc0_0; have HB := Aside0.mk (Below.refl w.heap.size w); have H : ((potsherdref12_MayTree.f k l0_0).bind fun t388 => (if t388 = true then (potsherdref12_Free.l0 k l0_0 (l0_0.length : Int) 0) else (none))) = some r := h; clear h; replace H := Option.bind_eq_some_iff.mp H; obtain ⟨t388, A20, H⟩ := H; have A2 := Aside0.mk A20; clear A20
 by_cases c3 : t388 = true
 ·
  subst c3
  have H1 : (potsherdref12_Free.l0 k l0_0 (l0_0.length : Int) 0) = some r := by rw [if_pos rfl] at H; exact H
  clear H; have H := H1; clear H1; have H' := Aside0.mk H; clear H
  go_enter Try.func87, Try.ntmps87
  go_wp2_with (first | ((with_reducible refine gate_dst (N := 1) rfl ?_); refine bxE 24 (cs := #[.slice A0_0 l0_0.length c0_0]) ?_; intro gb387 hg w4 hbox hb; have BK387 := Aside0.mk hbox; have GW387 := kG HB hg; have GE387 := kG HB hg; replace HB := kH HB hb; clear hb hbox hg; obtain ⟨hcz5_0, hfz5_0⟩ := cY0 BK387) | ((with_reducible refine gate_callee (f := 29) rfl ?_); refine goesK (some 6) Try.func29 #[.agg #[.slice A0_0 l0_0.length c0_0]] ?_; (with_reducible refine (potsherdref12_MayTree.calls k _ _ l0_0 true _ ?side1 ?side2 A2.out).mono ?_); (case side1 => exact mC HR0_0 HB); (case side2 => exact HC0_0.out); rintro e w6 ⟨rfl, hb⟩; refine ⟨_, rfl, ?_⟩; replace BK387 := kB BK387 hb; replace HB := kH HB hb; (try clear hb); obtain ⟨hcz7_0, hfz7_0⟩ := cY0 BK387))
  go_loopg [11] k (fun kq v11 w' => ∃ (x11_1 : Int), v11 = .int .i64 x11_1 ∧ Aside0 (potsherdref12_Free.l0 kq l0_0 (l0_0.length : Int) x11_1 = some r) ∧ Aside0 (kq ≤ k) ∧ Aside0 (w'.heap[gb387]? = some (.cells #[(.slice A0_0 l0_0.length c0_0)] 24 (0, 0))) ∧ Aside0 (Below w.heap.size w w'))
  case atStart => exact ⟨(0), sI, H', ⟨Nat.le_refl _⟩, ⟨mB BK387⟩, ⟨mH HB⟩⟩
  case round =>
   clear H'
   (try clear c3); (try clear hcz5_0); (try clear hcz7_0); (try clear hfz5_0); (try clear hfz7_0)
   obtain ⟨x11_1, rfl, HA, HK1, BK387, HB⟩ := hrel
   cases gk with
   | zero => exact absurd HA.out (by simp [potsherdref12_Free.l0])
   | succ k1 =>
    have H := HA.out; clear HA; simp only [potsherdref12_Free.l0] at H
    replace H := nP H; obtain ⟨c8, H⟩ := H; have c8b0 := decide_eq_true c8; clear c8
    replace H := nP H; obtain ⟨c9, H⟩ := H; have c9b0 := decide_eq_true c9; clear c9
    replace H := nP H; obtain ⟨c10, H⟩ := H; have c10b0 := decide_eq_true c10; clear c10
    by_cases c11 : ((rd_T28 l0_0 x11_1).f0) = 0
    ·
     rw [if_pos c11] at H; obtain ⟨c11b0, c11b1⟩ := eP c11; clear c11; obtain rfl := Option.some.inj H; have p389 : 0 ≤ (x11_1 : Int) := dT; have q389 : x11_1 < (l0_0.length : Int) := dT; obtain ⟨ad389, A389_3, c389_3, A389_4, c389_4, e389, hx389_0, hx389_1, hx389_2, hx389_3, hx389_4, hl389_3, hi389_3, hl389_4, hi389_4⟩ := at_T28 HR0_0.out x11_1 p389 q389
     cases e389
     replace hx389_0 := xC HB hx389_0; replace hx389_1 := xC HB hx389_1; replace hx389_2 := xC HB hx389_2; replace hx389_3 := xC HB hx389_3; replace hx389_4 := xC HB hx389_4; have HR389_3 := Aside0.mk hi389_3; have HC389_3 := Aside0.mk hl389_3; clear hi389_3 hl389_3; have HR389_4 := Aside0.mk hi389_4; have HC389_4 := Aside0.mk hl389_4; clear hi389_4 hl389_4; replace p389 := eq_true p389; replace q389 := eq_true q389
     go_wp2_with (first | ((with_reducible refine gate_dst (N := 4) rfl ?_); refine bxE 28 (cs := #[.int .i64 0, .int .i64 0, .int .i64 0, .slice none 0 0, .slice none 0 0]) ?_; intro gb390 hg w12 hbox hb; have BK390 := Aside0.mk hbox; have GW390 := kG HB hg; have GE390 := kG HB hg; replace HB := kH HB hb; have NB387_390 := kL BK387 hg; have NB390_387 := kQ BK387 hg; replace BK387 := kB BK387 hb; clear hb hbox hg; have hnb13 := NB390_387.out; have hnc13 := NB387_390.out; obtain ⟨hcz14_0, hfz14_0⟩ := cY0 BK390; obtain ⟨hcz14_1, hfz14_1⟩ := cY1 BK390; obtain ⟨hcz14_2, hfz14_2⟩ := cY2 BK390; obtain ⟨hcz14_3, hfz14_3⟩ := cY3 BK390; obtain ⟨hcz14_4, hfz14_4⟩ := cY4 BK390))
     go_ret
     exact ⟨rT, mH HB⟩
    ·
     rw [if_neg c11] at H; obtain ⟨c11b0, c11b1⟩ := eN c11; have H' := Aside0.mk H; clear H; have p389 : 0 ≤ (x11_1 : Int) := dT; have q389 : x11_1 < (l0_0.length : Int) := dT; obtain ⟨ad389, A389_3, c389_3, A389_4, c389_4, e389, hx389_0, hx389_1, hx389_2, hx389_3, hx389_4, hl389_3, hi389_3, hl389_4, hi389_4⟩ := at_T28 HR0_0.out x11_1 p389 q389
     cases e389
     replace hx389_0 := xC HB hx389_0; replace hx389_1 := xC HB hx389_1; replace hx389_2 := xC HB hx389_2; replace hx389_3 := xC HB hx389_3; replace hx389_4 := xC HB hx389_4; have HR389_3 := Aside0.mk hi389_3; have HC389_3 := Aside0.mk hl389_3; clear hi389_3 hl389_3; have HR389_4 := Aside0.mk hi389_4; have HC389_4 := Aside0.mk hl389_4; clear hi389_4 hl389_4; replace p389 := eq_true p389; replace q389 := eq_true q389
     go_wp2_with (first | ((with_reducible refine gate_dst (N := 4) rfl ?_); refine bxE 28 (cs := #[.int .i64 0, .int .i64 0, .int .i64 0, .slice none 0 0, .slice none 0 0]) ?_; intro gb390 hg w15 hbox hb; have BK390 := Aside0.mk hbox; have GW390 := kG HB hg; have GE390 := kG HB hg; replace HB := kH HB hb; have NB387_390 := kL BK387 hg; have NB390_387 := kQ BK387 hg; replace BK387 := kB BK387 hb; clear hb hbox hg; have hnb16 := NB390_387.out; have hnc16 := NB387_390.out; obtain ⟨hcz17_0, hfz17_0⟩ := cY0 BK390; obtain ⟨hcz17_1, hfz17_1⟩ := cY1 BK390; obtain ⟨hcz17_2, hfz17_2⟩ := cY2 BK390; obtain ⟨hcz17_3, hfz17_3⟩ := cY3 BK390; obtain ⟨hcz17_4, hfz17_4⟩ := cY4 BK390))
     go_roundg k1
     case measure => have := HK1.out; omega
     case rel => exact ⟨(wrap64 (x11_1 + 1)), sI, H', ⟨oK HK1⟩, ⟨mF BK387⟩, ⟨mH HB⟩⟩
 ·
  replace c3 := Bool.eq_false_iff.mpr c3; subst c3
  have H1 : (none) = some r := by rw [if_neg (show ¬ (false = true) by decide)] at H; exact H
  clear H; have H := H1; clear H1; exact absurd H (by simp)
abbrev B31_0 : Array Bool := #[false, false, false, false, false, false, false, false, false, false, false, false, false, false, false]
abbrev B31_1 := B31_0.set! 0 true
abbrev B31_2 := B31_1.set! 1 true
abbrev B31_3 := B31_2.set! 2 true
abbrev B31_4 := B31_3.set! 4 true
abbrev B31_5 := B31_4.set! 5 true
abbrev B31_6 := B31_5.set! 6 true
abbrev B31_7 := B31_6.set! 9 true
abbrev B31_8 := B31_7.set! 10 true
abbrev B31_9 := B31_8.set! 11 true
abbrev B31_10 : Array Bool := #[true, true, true, true, true, true, true, true, false, true, true, true, false, false, false]
abbrev B31_11 := B31_9.set! 3 true
abbrev B31_12 := B31_9.set! 7 true
abbrev B31_13 := B31_10.set! 8 true
abbrev B31_14 := B31_13.set! 12 true
abbrev B31_15 := B31_14.set! 13 true
abbrev B31_16 := B31_15.set! 14 true
mutual
def potsherdref12_With.j0 : Nat → List (S78) → ByteArray → Int → Bool → Option ((List (S78)) × Int)
 | 0, _, _, _, _ => none
 | k + 1, x0, x1, x2, x9 => if x9 = true then (none) else ((potsherdref12_At.f k x0 x1).bind fun t393 => (if t393 ≥ 0 then (none) else (if (x0.length : Int) ≥ 10 then (none) else (potsherdref12_With.l0 k x0 x1 x2 0))))
def potsherdref12_With.l0 : Nat → List (S78) → ByteArray → Int → Int → Option ((List (S78)) × Int)
 | 0, _, _, _, _ => none
 | k + 1, x0, x1, x2, x8 => if x8 < (x0.length : Int) then (none) else (if 0 ≤ x8 then (if x8 ≤ (x0.length : Int) then ((some (x0.take (x8 : Int).toNat : List (S78))).bind fun y415 => (if ([] : List (S78)).length + y415.length < 5864062014805 then ((some (([] : List (S78)) ++ y415 : List (S78))).bind fun y419 => ((some (([(⟨x1, x2⟩ : S78)] : List (S78)) : List (S78))).bind fun y422 => (if y419.length + y422.length < 5864062014805 then ((some (y419 ++ y422 : List (S78))).bind fun y425 => ((some (x0.drop (x8 : Int).toNat : List (S78))).bind fun y428 => (if y425.length + y428.length < 5864062014805 then (some ((y425 ++ y428), 0)) else (none)))) else (none)))) else (none))) else (none)) else (none))
end
def potsherdref12_With.f (k : Nat) (l0 : List (S78)) (a1 : ByteArray) (a2 : Int) : Option ((List (S78)) × Int) := (potsherdref12_MayEntries.f k l0).bind fun t391 => (if t391 = true then ((potsherdref12_Name.f k a1).bind fun t392 => (if t392 = true then (if a2 < 1 then (none) else (potsherdref12_With.j0 k l0 a1 a2 (decide (a2 ≥ 12)))) else (none))) else (none))
theorem potsherdref12_With.mono_l : ∀ k, (∀ y0 y1 y2 y3, LeO (potsherdref12_With.j0 k y0 y1 y2 y3) (potsherdref12_With.j0 (k + 1) y0 y1 y2 y3)) ∧ (∀ y0 y1 y2 y3, LeO (potsherdref12_With.l0 k y0 y1 y2 y3) (potsherdref12_With.l0 (k + 1) y0 y1 y2 y3))
 | 0 => ⟨fun _ _ _ _ r h => by simp [potsherdref12_With.j0] at h, fun _ _ _ _ r h => by simp [potsherdref12_With.l0] at h⟩
 | k + 1 => by
  obtain ⟨ih0, ih1⟩ := potsherdref12_With.mono_l k; refine ⟨?_, ?_⟩
  ·
   intro y0 y1 y2 y3
   unfold potsherdref12_With.j0
   repeat' with_reducible first | apply ih0 | apply ih1 | apply potsherdref12_At.mono | apply potsherdref12_MayEntries.mono | apply potsherdref12_Name.mono | exact LeO.refl _ | exact LeO.none _ | refine LeO.ite ?_ ?_ | refine LeO.bind ?_ (fun _ => ?_)
  ·
   intro y0 y1 y2 y3
   unfold potsherdref12_With.l0
   repeat' with_reducible first | apply ih0 | apply ih1 | apply potsherdref12_At.mono | apply potsherdref12_MayEntries.mono | apply potsherdref12_Name.mono | exact LeO.refl _ | exact LeO.none _ | refine LeO.ite ?_ ?_ | refine LeO.bind ?_ (fun _ => ?_)
theorem potsherdref12_With.mono : ∀ a0 a1 a2 k, LeO (potsherdref12_With.f k a0 a1 a2) (potsherdref12_With.f (k + 1) a0 a1 a2) := by
 intro a0 a1 a2 k; obtain ⟨ih0, ih1⟩ := potsherdref12_With.mono_l k
 unfold potsherdref12_With.f
 repeat' with_reducible first | apply ih0 | apply ih1 | apply potsherdref12_At.mono | apply potsherdref12_MayEntries.mono | apply potsherdref12_Name.mono | exact LeO.refl _ | exact LeO.none _ | refine LeO.ite ?_ ?_ | refine LeO.bind ?_ (fun _ => ?_)
def potsherdref12_With.T10 : Bool × List (List Nat × List Nat) := (true, [([], []), ([], []), ([0, 1], [0, 1]), ([2], [2]), ([], []), ([], []), ([4, 5], [4, 5]), ([6], [6]), ([3, 7, 3], [3, 7]), ([], []), ([], []), ([9, 10], [9, 10]), ([8, 11, 8], [8, 11]), ([12, 12, 0, 1, 2, 3, 4, 5, 6, 7, 8, 9, 10, 11, 12], [12]), ([13, 0, 1, 2, 3, 4, 5, 6, 7, 8, 9, 10, 11, 12, 13], [])])
def potsherdref12_With.B10 : List Nat := [0, 0, 3, 7, 0, 0, 48, 112, 255, 0, 0, 1536, 4095, 8191, 16383]
theorem potsherdref12_With.tab10 : rtab .any (opsOf Try.f88 10) = potsherdref12_With.T10 := by kernel_rfl
theorem potsherdref12_With.bits10 : waitsOk potsherdref12_With.T10.2 potsherdref12_With.B10 = true := by kernel_rfl
set_option maxHeartbeats 8000000 in
set_option maxRecDepth 100000 in
theorem potsherdref12_With.calls (k : Nat) (A0 : Option Addr) (c0 : Nat) (l0 : List (S78)) (a1 : ByteArray) (a2 : Int) (r1 : List (S78)) (r2 : Int) (w : World) (hr0 : Kd.C k78 w A0 l0.length l0) (hc0 : l0.length ≤ c0) (h : potsherdref12_With.f k l0 a1 a2 = some (r1, r2)) :
 Calls Try.prog 88 #[.slice A0 l0.length c0, .string a1, .int .i64 a2] w fun e w' => ∃ v0_ : Value, e = .returned (.tuple #[v0_, .int .i64 r2]) ∧ Kd.R k78 78 w' w.heap.size (fun _ => True) v0_ r1 ∧ Below w.heap.size w w' := by
 have hu78 := Try.underlying78; have HR0 := Aside0.mk hr0; have HC0 := Aside0.mk hc0; clear hr0 hc0; have HB := Aside0.mk (Below.refl w.heap.size w); have H : ((potsherdref12_MayEntries.f k l0).bind fun t391 => (if t391 = true then ((potsherdref12_Name.f k a1).bind fun t392 => (if t392 = true then (if a2 < 1 then (none) else (potsherdref12_With.j0 k l0 a1 a2 (decide (a2 ≥ 12)))) else (none))) else (none))) = some (r1, r2) := h; clear h; have HC4 := Aside0.mk H; clear H
 go_enter Try.func88, Try.ntmps88
 go_upto_region 1 with (fail)
 go_cut [9] (fun v9 wc => ∃ (kq : Nat) (x9_3 : Bool), v9 = .bool x9_3 ∧ Aside0 (potsherdref12_With.j0 kq l0 a1 a2 x9_3 = some (r1, r2)) ∧ Aside0 (kq ≤ k) ∧ Aside0 (Below w.heap.size w wc))
 case first =>
  have H := HC4.out; clear HC4; replace H := Option.bind_eq_some_iff.mp H; obtain ⟨t391, A50, H⟩ := H; have A5 := Aside0.mk A50; clear A50
  by_cases c6 : t391 = true
  ·
   subst c6
   have H1 : ((potsherdref12_Name.f k a1).bind fun t392 => (if t392 = true then (if a2 < 1 then (none) else (potsherdref12_With.j0 k l0 a1 a2 (decide (a2 ≥ 12)))) else (none))) = some (r1, r2) := by rw [if_pos rfl] at H; exact H
   clear H; have H := H1; clear H1; replace H := Option.bind_eq_some_iff.mp H; obtain ⟨t392, A70, H⟩ := H; have A7 := Aside0.mk A70; clear A70
   by_cases c8 : t392 = true
   ·
    subst c8
    have H1 : (if a2 < 1 then (none) else (potsherdref12_With.j0 k l0 a1 a2 (decide (a2 ≥ 12)))) = some (r1, r2) := by rw [if_pos rfl] at H; exact H
    clear H; have H := H1; clear H1
    replace H := nQ H; obtain ⟨c9, H⟩ := H; have c9b0 := decide_eq_false c9; clear c9
    (first | rw [c9b0] | (simp only [i64_w, i32_w]; rw [c9b0]) | skip)
    have H' := Aside0.mk H; clear H
    go_wp2_with (first | ((with_reducible refine gate_callee (f := 50) rfl ?_); refine goesK (some 11) Try.func50 #[.slice A0 l0.length c0] ?_; (with_reducible refine (potsherdref12_MayEntries.calls k _ _ l0 true _ ?side1 ?side2 A5.out).mono ?_); (case side1 => exact mC HR0 HB); (case side2 => exact HC0.out); rintro e w10 ⟨rfl, hb⟩; refine ⟨_, rfl, ?_⟩; replace HB := kH HB hb; (try clear hb)) | (go_at_call 69; (with_reducible refine (potsherdref12_Name.calls k a1 true _ A7.out).mono ?_); rintro e w' ⟨rfl, ⟨nd, rfl⟩⟩))
    go_meet
    case rel => exact ⟨_, (decide (a2 ≥ 12)), sI, H', ⟨by first | omega | exact Nat.le_refl _⟩, ⟨mH HB⟩⟩
   ·
    replace c8 := Bool.eq_false_iff.mpr c8; subst c8
    have H1 : (none) = some (r1, r2) := by rw [if_neg (show ¬ (false = true) by decide)] at H; exact H
    clear H; have H := H1; clear H1; exact absurd H (by simp)
  ·
   replace c6 := Bool.eq_false_iff.mpr c6; subst c6
   have H1 : (none) = some (r1, r2) := by rw [if_neg (show ¬ (false = true) by decide)] at H; exact H
   clear H; have H := H1; clear H1; exact absurd H (by simp)
 case rest =>
  clear HC4
  obtain ⟨kq, x9_3, rfl, HA, HJ3, HB⟩ := hcut
  cases kq with
  | zero => exact absurd HA.out (by simp [potsherdref12_With.j0])
  | succ kj3 =>
   have H := HA.out; clear HA; simp only [potsherdref12_With.j0] at H
   by_cases c11 : x9_3 = true
   ·
    subst c11
    have H1 : (none) = some (r1, r2) := by rw [if_pos rfl] at H; exact H
    clear H; have H := H1; clear H1; exact absurd H (by simp)
   ·
    replace c11 := Bool.eq_false_iff.mpr c11; subst c11
    have H1 : ((potsherdref12_At.f kj3 l0 a1).bind fun t393 => (if t393 ≥ 0 then (none) else (if (l0.length : Int) ≥ 10 then (none) else (potsherdref12_With.l0 kj3 l0 a1 a2 0)))) = some (r1, r2) := by rw [if_neg (show ¬ (false = true) by decide)] at H; exact H
    clear H; have H := H1; clear H1; replace H := Option.bind_eq_some_iff.mp H; obtain ⟨t393, A120, H⟩ := H; have A12 := Aside0.mk A120; clear A120
    replace H := nQ H; obtain ⟨c13, H⟩ := H; have c13b0 : decide (0 ≤ t393) = false := decide_eq_false c13; clear c13
    replace H := nQ H; obtain ⟨c14, H⟩ := H; have c14b0 : decide (10 ≤ (l0.length : Int)) = false := decide_eq_false c14; have c14b1 : decide (10 ≤ l0.length) = false := decide_eq_false (by omega); clear c14; have H' := Aside0.mk H; clear H
    go_wp2_with (first | ((with_reducible refine gate_callee (f := 86) rfl ?_); refine goesK (some 29) Try.func86 #[.slice A0 l0.length c0, .string a1] ?_; (with_reducible refine (potsherdref12_At.calls kj3 _ _ l0 a1 t393 _ ?side1 ?side2 A12.out).mono ?_); (case side1 => exact mC HR0 HB); (case side2 => exact HC0.out); rintro e w15 ⟨rfl, hb⟩; refine ⟨_, rfl, ?_⟩; replace HB := kH HB hb; (try clear hb)))
    go_loopg [8] kj3 (fun kq v8 w' => ∃ (x8_2 : Int), v8 = .int .i64 x8_2 ∧ Aside0 (potsherdref12_With.l0 kq l0 a1 a2 x8_2 = some (r1, r2)) ∧ Aside0 (kq ≤ kj3) ∧ Aside0 (Below w.heap.size w w'))
    case atStart => exact ⟨(0), sI, H', ⟨Nat.le_refl _⟩, ⟨mH HB⟩⟩
    case round =>
     clear H'
     (try clear c11); (try clear c13); (try clear c13b0); (try clear c14); (try clear c14b0); (try clear c14b1)
     obtain ⟨x8_2, rfl, HA, HK2, HB⟩ := hrel
     cases gk with
     | zero => exact absurd HA.out (by simp [potsherdref12_With.l0])
     | succ k2 =>
      have H := HA.out; clear HA; simp only [potsherdref12_With.l0] at H
      replace H := nQ H; obtain ⟨c16, H⟩ := H; have c16b0 := decide_eq_false c16; clear c16
      replace H := nP H; obtain ⟨c17, H⟩ := H; have c17b0 := eq_true c17; have c17b1 := decide_eq_true c17; clear c17
      replace H := nP H; obtain ⟨c18, H⟩ := H; have c18b0 := eq_true c18; have c18b1 := decide_eq_true c18; clear c18; obtain ⟨y415, hy415⟩ : ∃ y_ : List (S78), y_ = (l0.take (x8_2 : Int).toNat) := ⟨_, rfl⟩
      replace H : (if ([] : List (S78)).length + y415.length < 5864062014805 then ((some (([] : List (S78)) ++ y415 : List (S78))).bind fun y419 => ((some (([(⟨a1, a2⟩ : S78)] : List (S78)) : List (S78))).bind fun y422 => (if y419.length + y422.length < 5864062014805 then ((some (y419 ++ y422 : List (S78))).bind fun y425 => ((some (l0.drop (x8_2 : Int).toNat : List (S78))).bind fun y428 => (if y425.length + y428.length < 5864062014805 then (some ((y425 ++ y428), 0)) else (none)))) else (none)))) else (none)) = some (r1, r2) := rH H hy415
      have Ny415 := Aside0.mk hy415; clear hy415
      replace H := nP H; obtain ⟨c19, H⟩ := H; have LMc19 := Aside0.mk c19; clear c19; obtain ⟨y419, hy419⟩ : ∃ y_ : List (S78), y_ = (([] : List (S78)) ++ y415) := ⟨_, rfl⟩
      replace H : ((some (([(⟨a1, a2⟩ : S78)] : List (S78)) : List (S78))).bind fun y422 => (if y419.length + y422.length < 5864062014805 then ((some (y419 ++ y422 : List (S78))).bind fun y425 => ((some (l0.drop (x8_2 : Int).toNat : List (S78))).bind fun y428 => (if y425.length + y428.length < 5864062014805 then (some ((y425 ++ y428), 0)) else (none)))) else (none))) = some (r1, r2) := rH H hy419
      have Ny419 := Aside0.mk hy419; clear hy419; obtain ⟨y422, hy422⟩ : ∃ y_ : List (S78), y_ = (([(⟨a1, a2⟩ : S78)] : List (S78))) := ⟨_, rfl⟩
      replace H : (if y419.length + y422.length < 5864062014805 then ((some (y419 ++ y422 : List (S78))).bind fun y425 => ((some (l0.drop (x8_2 : Int).toNat : List (S78))).bind fun y428 => (if y425.length + y428.length < 5864062014805 then (some ((y425 ++ y428), 0)) else (none)))) else (none)) = some (r1, r2) := rH H hy422
      have Ny422 := Aside0.mk hy422; clear hy422
      replace H := nP H; obtain ⟨c20, H⟩ := H; have LMc20 := Aside0.mk c20; clear c20; obtain ⟨y425, hy425⟩ : ∃ y_ : List (S78), y_ = (y419 ++ y422) := ⟨_, rfl⟩
      replace H : ((some (l0.drop (x8_2 : Int).toNat : List (S78))).bind fun y428 => (if y425.length + y428.length < 5864062014805 then (some ((y425 ++ y428), 0)) else (none))) = some (r1, r2) := rH H hy425
      have Ny425 := Aside0.mk hy425; clear hy425; have c21b0 := eq_true (dT : 0 ≤ x8_2); have c22b0 := eq_true (dT : x8_2 ≤ (l0.length : Int)); obtain ⟨y428, hy428⟩ : ∃ y_ : List (S78), y_ = (l0.drop (x8_2 : Int).toNat) := ⟨_, rfl⟩
      replace H : (if y425.length + y428.length < 5864062014805 then (some ((y425 ++ y428), 0)) else (none)) = some (r1, r2) := rH H hy428
      have Ny428 := Aside0.mk hy428; clear hy428
      replace H := nP H; obtain ⟨c23, H⟩ := H; have LMc23 := Aside0.mk c23; clear c23; obtain ⟨y432, hy432⟩ : ∃ y_ : List (S78), y_ = (y425 ++ y428) := ⟨_, rfl⟩
      replace H : (some (y432, 0)) = some (r1, r2) := rH H hy432
      have Ny432 := Aside0.mk hy432; clear hy432; simp only [Option.some.injEq, Prod.mk.injEq] at H; obtain ⟨rfl, rfl⟩ := H
      try go_wp2
      replace HB := Aside0.mk (wD HB.out); have q25 : (x8_2 : Int) ≤ ((l0.length : Int) : Int) := dT; obtain ⟨i025, hi025, _, hsz25, _⟩ := info_parts info78; have hroom25 : l0.length ≤ c0 := HC0.out; have hC25 : Kd.C k78 _ A0 l0.length l0 := HR0.out; have hcut25 := cut_to (P := Try.prog) 26 78 .i64 Try.underlying26 hi025 A0 l0.length c0 x8_2 (dT) q25 hroom25; have hr25 := Kd.C_take (m := (x8_2 : Int).toNat) hC25 (by omega); have hy25 : y415.length = (x8_2 : Int).toNat := (by rw [Ny415.out, List.length_take]; omega)
      rw [← Ny415.out] at hr25; rw [← hy25] at hcut25; have HR418 := Aside0.mk hr25; have HC418 := Aside0.mk (show y415.length ≤ c0 from by omega); clear hr25 hC25 hroom25 hi025 hsz25; have KY25 := Aside0.mk hy25; clear hy25; replace q25 := eq_true q25; have q26 : (x8_2 : Int) ≤ ((l0.length : Int) : Int) := dT; obtain ⟨i026, hi026, _, hsz26, _⟩ := info_parts info78; have hroom26 : l0.length ≤ c0 := HC0.out; have hC26 : Kd.C k78 _ A0 l0.length l0 := HR0.out; have q026 : (0 : Int) ≤ (x8_2 : Int) := dT; have hcut26 := cut_from (P := Try.prog) 26 78 .i64 Try.underlying26 hi026 2 hsz26 A0 l0.length c0 x8_2 q026 q26; have hr26 := Kd.C_drop (m := (x8_2 : Int).toNat) (c := c0) hC26 (by omega) hroom26; obtain ⟨A26, hA26⟩ : ∃ A1, A1 = (if c0 = (x8_2 : Int).toNat then A0 else (A0 : Option Addr).map (·.add ((x8_2 : Int).toNat * 2))) := ⟨_, rfl⟩; obtain ⟨c26, hc26⟩ : ∃ c1, c1 = c0 - (x8_2 : Int).toNat := ⟨_, rfl⟩; have hy26 : y428.length = l0.length - (x8_2 : Int).toNat := (by rw [Ny428.out, List.length_drop] <;> omega); rw [show (l0).drop (x8_2 : Int).toNat = y428 from Ny428.out.symm] at hr26; replace hr26 : Kd.C k78 _ A26 y428.length y428 := (by rw [hA26]; exact hr26)
      rw [← hy26, ← hA26, ← hc26] at hcut26; have HR431 := Aside0.mk hr26; have HC431 := Aside0.mk (show y428.length ≤ c26 from by rw [hy26, hc26]; exact Nat.sub_le_sub_right hroom26 _)
      clear hr26 hC26 hroom26 hi026 hsz26 hc26; have KY26 := Aside0.mk hy26; have KA26 := Aside0.mk hA26; clear hy26 hA26; replace q26 := eq_true q26; refine start_ (n := 15) (S := fun w' => True) (ds := []) B31_0 (by kernel_rfl) rfl rfl trivial (fun hHeld => ?_); refine with_tabW potsherdref12_With.tab10 potsherdref12_With.bits10 (fun HT_ HW_ => ?_); generalize wr.drew = w24 at HB HR418 HR431 hHeld ⊢; refine pure_ (i := 0) (N := some 50) (v := ?_) (a' := ?_) B31_1 rfl rfl (any_of HT_.out (by kernel_rfl)) (fun _ _ _ h => h) (Or.inl ⟨by rfl, ?_⟩) ?_ ?_; rotate_left
      ·
       intro w'; go_simp; with_reducible rfl
      rotate_left
      ·
       simp only [Act.put, lT, l0_, lS, i64_w, i32_w]; rfl
      refine pE 1 51 B31_2 HT_ ?_
      refine pE 2 52 B31_3 HT_ ?_
      refine pE 4 54 B31_4 HT_ ?_
      refine pE 5 55 B31_5 HT_ ?_
      refine pE 6 56 B31_6 HT_ ?_
      refine pE 9 59 B31_7 HT_ ?_
      refine pE 10 60 B31_8 HT_ ?_
      refine pE 11 61 B31_9 HT_ ?_
      refine join_ (σ := Value × Value) 4 B31_10 (fun s_ => [(53, s_.1), (57, s_.2)]) (fun s_ w' => (Kd.R k78 78 w' w.heap.size (fun k_ => some k_ ≠ (s_.2 : Value).ownBlock) s_.1 y419) ∧ (Kd.R k78 78 w' w.heap.size (fun k_ => some k_ ≠ (s_.1 : Value).ownBlock) s_.2 y422) ∧ (Below w.heap.size w w')) ?_ ?_; rotate_left
      ·
       intro hCont; refine two_ (i := 3) (j := 7) (Ni := some 53) (Nj := some 57) B31_11 B31_12 rfl rfl rfl rfl (two_of HT_.out (by kernel_rfl)) (by decide) (by decide) (fun K hK => ?_) (fun K hK => ?_)
       ·
        skip
        refine Kd.R_append_rows_step k78 (w0 := w) w.heap.size rfl (.const (.slice none 0 0)) (.tmp 52) 26 78 (.agg #[(.string ⟨#[]⟩), (.int .i64 0)]) 24 rfl Try.underlying26 info78 rfl (by decide) (by omega) (.slice none 0 0) ([] : List (S78)) y415 _ _ _ (fun _ => True) (fun _ => False) rfl rfl ?aO ?aR (fun _ _ h => h) (fun _ h => h.elim) ?aF ?aB ?aS ?aL ?_
        (case aR => repeat (first | exact (Kd.C_below HR418.out HB.out) | (with_reducible refine Kd.C_alloc ?_ _) | (with_reducible refine Kd.C_drewN ?_ _) | (with_reducible refine Kd.C_drew ?_)))
        (case aB => exact (mH HB))
        (case aF => exact (fun _ _ => trivial))
        (case aO => exact ((Kd.R_nil _ _ _ _ (fun _ => True))))
        (case aS => exact (below_size (mH HB)))
        (case aL => have := LMc19.out; omega)
        intro v420 w27 ho hb hg hat; rw [← Ny419.out] at ho; replace HB := Aside0.mk (hb); have HO421 := Aside0.mk (ho); clear ho hb hg hat; refine hK.out _ _ trivial (fun hHeld => ?_); clear hK K; refine norm_ (a' := ?_) ?_ ?_; rotate_left
        ·
         show Act.put _ (some 53) _ = _
         simp only [Act.put, lT, l0_, lS, i64_w, i32_w]; rfl
        refine one_ (i := 7) (N := some 57) B31_10 rfl rfl (one_of HT_.out (by kernel_rfl)) (by decide) (fun K hK => ?_); refine Kd.R_lit_step k78 _ 78 ?hg (N := 57) ?hd (xs := ([(⟨a1, a2⟩ : S78)] : List (S78))) (inner := [.string a1, .int .i64 a2]) (ok := fun _ => True) (okp := fun _ => True) ?hr ?hp (fun _ hk => hk) trivial (Below.refl _ _) (Nat.le_refl _) (by simp) ?_; (case hd => rfl); (case hg => rfl); (case hr => first | (go_simp; done) | (go_simp; rfl)); (case hp => exact (Reps.c2 (show Kd.M k78 _ _ _ (⟨a1, a2⟩ : S78) [.string a1, .int .i64 a2] from (k78_mkM _ _ _ (⟨a1, a2⟩ : S78) )) (Reps.none _ _)))
        intro v423 w28 ho29 hb hg_ hnew_; clear hg_ hnew_
        (first | rw [← Ny422.out] at ho29 | (simp only [Int.reduceToNat] at ho29; rw [← Ny422.out] at ho29))
        have HO424 := Aside0.mk (Kd.R_lower (Kd.R_new' ho29 (Kd.R_lt (mR HO421))) (below_size (mH HB))); replace HO421 := Aside0.mk (Kd.R_elder' (mR HO421) (Kd.R_base ho29) hb); replace HB := kH HB hb; clear hb ho29; refine hK.out _ _ trivial (fun hHeld => ?_); clear hK K; refine norm_ (a' := ?_) ?_ ?_; rotate_left
        ·
         show Act.put _ (some 57) _ = _
         simp only [Act.put, lT, l0_, lS, i64_w, i32_w]; rfl
        exact norm_ (by simp only [putAll, Act.put, lT, l0_, lS]) (hCont (v420, v423) _ ⟨(by (with_reducible repeat (first | apply Kd.R_alloc | apply Kd.R_drewN | apply Kd.R_drew)); exact Kd.R_mono HO421.out (fun _ hk => hk.2)), (by (with_reducible repeat (first | apply Kd.R_alloc | apply Kd.R_drewN | apply Kd.R_drew)); exact Kd.R_mono HO424.out (fun _ hk => hk.2)), (mH HB)⟩)
       ·
        skip
        refine Kd.R_lit_step k78 _ 78 ?hg (N := 57) ?hd (xs := ([(⟨a1, a2⟩ : S78)] : List (S78))) (inner := [.string a1, .int .i64 a2]) (ok := fun _ => True) (okp := fun _ => True) ?hr ?hp (fun _ hk => hk) trivial (Below.refl _ _) (Nat.le_refl _) (by simp) ?_; (case hd => rfl); (case hg => rfl); (case hr => first | (go_simp; done) | (go_simp; rfl)); (case hp => exact (Reps.c2 (show Kd.M k78 _ _ _ (⟨a1, a2⟩ : S78) [.string a1, .int .i64 a2] from (k78_mkM _ _ _ (⟨a1, a2⟩ : S78) )) (Reps.none _ _)))
        intro v423 w27 ho28 hb hg_ hnew_; clear hg_ hnew_
        (first | rw [← Ny422.out] at ho28 | (simp only [Int.reduceToNat] at ho28; rw [← Ny422.out] at ho28))
        have HO424 := Aside0.mk (Kd.R_lower ho28 (below_size (mH HB))); replace HB := kH HB hb; clear hb ho28; refine hK.out _ _ trivial (fun hHeld => ?_); clear hK K; refine norm_ (a' := ?_) ?_ ?_; rotate_left
        ·
         show Act.put _ (some 57) _ = _
         simp only [Act.put, lT, l0_, lS, i64_w, i32_w]; rfl
        refine one_ (i := 3) (N := some 53) B31_10 rfl rfl (one_of HT_.out (by kernel_rfl)) (by decide) (fun K hK => ?_); refine Kd.R_append_rows_step k78 (w0 := w) w.heap.size rfl (.const (.slice none 0 0)) (.tmp 52) 26 78 (.agg #[(.string ⟨#[]⟩), (.int .i64 0)]) 24 rfl Try.underlying26 info78 rfl (by decide) (by omega) (.slice none 0 0) ([] : List (S78)) y415 _ _ _ (fun k_ => some k_ ≠ (v423 : Value).ownBlock) (fun _ => False) rfl rfl ?aO ?aR (fun _ _ h => h) (fun _ h => h.elim) ?aF ?aB ?aS ?aL ?_
        (case aR => repeat (first | exact (Kd.C_below HR418.out HB.out) | (with_reducible refine Kd.C_alloc ?_ _) | (with_reducible refine Kd.C_drewN ?_ _) | (with_reducible refine Kd.C_drew ?_)))
        (case aB => exact (mH HB))
        (case aF => exact (fun k_ hk => Kd.fresh' (Kd.R_lt (mR HO424)) k_ hk))
        (case aO => exact ((Kd.R_nil _ _ _ _ (fun k_ => some k_ ≠ (v423 : Value).ownBlock))))
        (case aS => exact (below_size (mH HB)))
        (case aL => have := LMc19.out; omega)
        intro v420 w29 ho hb hg hat; rw [← Ny419.out] at ho; replace HO424 := Aside0.mk (Kd.R_after (Kd.R_apart_nil (mR HO424)) hg hat); replace HB := Aside0.mk (hb); have HO421 := Aside0.mk (ho); clear ho hb hg hat; refine hK.out _ _ trivial (fun hHeld => ?_); clear hK K; refine norm_ (a' := ?_) ?_ ?_; rotate_left
        ·
         show Act.put _ (some 53) _ = _
         simp only [Act.put, lT, l0_, lS, i64_w, i32_w]; rfl
        exact norm_ (by simp only [putAll, Act.put, lT, l0_, lS]) (hCont (v420, v423) _ ⟨(mR HO421), (by (with_reducible repeat (first | apply Kd.R_alloc | apply Kd.R_drewN | apply Kd.R_drew)); exact Kd.R_mono HO424.out (fun _ hk => hk.2)), (mH HB)⟩)
      rintro ⟨v420, v423⟩ w30 ⟨h0_, h1_, h2_⟩; have n0_ : Aside0 (Kd.R k78 78 w30 w.heap.size (fun k_ => some k_ ≠ (v423 : Value).ownBlock) v420 y419) := ⟨h0_⟩; have n1_ : Aside0 (Kd.R k78 78 w30 w.heap.size (fun k_ => some k_ ≠ (v420 : Value).ownBlock) v423 y422) := ⟨h1_⟩; have n2_ : Aside0 (Below w.heap.size w w30) := ⟨h2_⟩; clear HB; clear h0_ h1_ h2_; have HO421 := n0_; have HO424 := n1_; have HB := n2_; clear n0_ n1_ n2_; have hHeld := trivial; obtain ⟨Ao32, co32, eo32⟩ := Kd.R_slice HO424.out
      (first | subst eo32 | (injection eo32 with f1_ f2_ f3_; have f4_ := f1_.symm; have f5_ := f3_.symm; clear f1_ f2_ f3_; subst f4_; subst f5_))
      refine norm_ (a' := ?_) ?_ ?_; rotate_left
      ·
       simp only [putAll, Act.put, lT, l0_, lS]; rfl
      refine one_ (i := 8) (N := some 58) B31_13 rfl rfl (one_of HT_.out (by kernel_rfl)) (by decide) (fun K hK => ?_); refine Kd.R_append_rows_step k78 (w0 := w) w.heap.size (by rfl) (.tmp 53) (.tmp 57) 26 78 (.agg #[(.string ⟨#[]⟩), (.int .i64 0)]) 24 rfl Try.underlying26 info78 rfl (by decide) (by omega) v420 y419 y422 _ _ _ (fun k_ => some k_ ≠ (.slice Ao32 y422.length co32 : Value).ownBlock) (fun _ => False) rfl rfl ?aO ?aR (fun _ _ h => h) (fun _ h => h.elim) ?aF ?aB ?aS ?aL ?_
      (case aR => repeat (first | exact (Kd.R_reads' HO424.out).2.2 | (with_reducible refine Kd.C_alloc ?_ _) | (with_reducible refine Kd.C_drewN ?_ _) | (with_reducible refine Kd.C_drew ?_)))
      (case aB => exact (mH HB))
      (case aF => exact (fun k_ hk => Kd.fresh' (Kd.R_lt (mR HO424)) k_ hk))
      (case aO => exact (mR HO421))
      (case aS => exact (below_size (mH HB)))
      (case aL => have := LMc20.out; omega)
      intro v426 w31 ho hb hg hat; rw [← Ny425.out] at ho; replace HO424 := Aside0.mk (Kd.R_after (ok := (fun _ => True)) (by (with_reducible repeat (first | apply Kd.R_alloc | apply Kd.R_drewN | apply Kd.R_drew)); exact Kd.R_mono HO424.out (fun _ hk => ⟨trivial, hk⟩)) hg hat); replace HB := Aside0.mk (hb); have HO427 := Aside0.mk (ho); clear HO421; clear ho hb hg hat; refine hK.out _ _ trivial (fun hHeld => ?_); clear hK K; refine norm_ (a' := ?_) ?_ ?_; rotate_left
      ·
       show Act.put _ (some 58) _ = _
       simp only [Act.put, lT, l0_, lS, i64_w, i32_w]; rfl
      refine one_ (i := 12) (N := some 62) B31_14 rfl rfl (one_of HT_.out (by kernel_rfl)) (by decide) (fun K hK => ?_); refine Kd.R_append_rows_step k78 (w0 := w) w.heap.size (by rfl) (.tmp 58) (.tmp 61) 26 78 (.agg #[(.string ⟨#[]⟩), (.int .i64 0)]) 24 rfl Try.underlying26 info78 rfl (by decide) (by omega) v426 y425 y428 _ _ _ (fun k_ => some k_ ≠ (.slice Ao32 y422.length co32 : Value).ownBlock) (fun _ => False) rfl rfl ?aO ?aR (fun _ _ h => h) (fun _ h => h.elim) ?aF ?aB ?aS ?aL ?_
      (case aR => repeat (first | exact (Kd.C_below HR431.out HB.out) | (with_reducible refine Kd.C_alloc ?_ _) | (with_reducible refine Kd.C_drewN ?_ _) | (with_reducible refine Kd.C_drew ?_)))
      (case aB => exact (mH HB))
      (case aF => exact (fun k_ hk => Kd.fresh' (Kd.R_lt (mR HO424)) k_ hk))
      (case aO => exact (mR HO427))
      (case aS => exact (below_size (mH HB)))
      (case aL => have := LMc23.out; omega)
      intro v433 w33 ho hb hg hat; rw [← Ny432.out] at ho; replace HO424 := Aside0.mk (Kd.R_after (ok := (fun _ => True)) (mR HO424) hg hat); replace HB := Aside0.mk (hb); have HO434 := Aside0.mk (ho); clear HO427; clear ho hb hg hat; refine hK.out _ _ trivial (fun hHeld => ?_); clear hK K; refine norm_ (a' := ?_) ?_ ?_; rotate_left
      ·
       show Act.put _ (some 62) _ = _
       simp only [Act.put, lT, l0_, lS, i64_w, i32_w]; rfl
      refine pE 13 6 B31_15 HT_ ?_
      refine pE 14 7 B31_16 HT_ ?_
      refine done_ (done_of HT_.out (by kernel_rfl)) ?_
      try go_wp2
      go_ret2
      exact ⟨_, rT, by (with_reducible repeat (first | apply Kd.R_alloc | apply Kd.R_drewN | apply Kd.R_drew)); exact Kd.R_mono HO434.out (fun _ hk => trivial), mH HB⟩
abbrev B32_0 : Array Bool := #[false, false, false, false, false, false, false]
abbrev B32_1 := B32_0.set! 0 true
abbrev B32_2 := B32_1.set! 2 true
abbrev B32_3 := B32_2.set! 3 true
abbrev B32_4 := B32_3.set! 1 true
abbrev B32_5 := B32_4.set! 4 true
abbrev B32_6 := B32_5.set! 5 true
abbrev B32_7 := B32_6.set! 6 true
abbrev B32_8 : Array Bool := #[false, false, false, false, false, false, false, false, false, false, false, false, false, false, false, false, false, false]
abbrev B32_9 := B32_8.set! 0 true
abbrev B32_10 := B32_9.set! 2 true
abbrev B32_11 := B32_10.set! 3 true
abbrev B32_12 := B32_11.set! 5 true
abbrev B32_13 := B32_12.set! 9 true
abbrev B32_14 := B32_13.set! 10 true
abbrev B32_15 := B32_14.set! 1 true
abbrev B32_16 := B32_15.set! 4 true
abbrev B32_17 := B32_16.set! 6 true
abbrev B32_18 := B32_17.set! 7 true
abbrev B32_19 := B32_18.set! 8 true
abbrev B32_20 := B32_19.set! 11 true
abbrev B32_21 := B32_20.set! 12 true
abbrev B32_22 := B32_21.set! 13 true
abbrev B32_23 := B32_22.set! 14 true
abbrev B32_24 := B32_23.set! 15 true
abbrev B32_25 := B32_24.set! 16 true
abbrev B32_26 := B32_25.set! 17 true
def potsherdref12_make1.j0 : Nat → Int → Int → ByteArray → Int → Bool → List (S28) → Option ((List (S28)) × Int)
 | 0, _, _, _, _, _, _ => none
 | k + 1, x2, x8, x9, x11, x47, x436000 => if x47 = true then (none) else ((potsherdref12_CopyTree.f k x436000).bind fun t444 => ((potsherdref12_EmptyNode.f x2).bind fun bt448 => (if 0 ≤ x11 then (if x11 < (t444.length : Int) then ((some (t444.set (x11 : Int).toNat (⟨bt448.1, bt448.2.1, bt448.2.2.1, bt448.2.2.2.1, bt448.2.2.2.2⟩ : S28) : List (S28))).bind fun y457 => (if 0 ≤ x8 then (if x8 < (x436000.length : Int) then ((potsherdref12_With.f k ((rd_T28 x436000 x8).f4) x9 x11).bind fun bt459 => (if x8 < (t444.length : Int) then (some ((y457.set (x8 : Int).toNat (⟨(rd_T28 y457 x8).f0, (rd_T28 y457 x8).f1, (rd_T28 y457 x8).f2, (rd_T28 y457 x8).f3, bt459.1⟩ : S28)), 0)) else (none))) else (none)) else (none))) else (none)) else (none))))
def potsherdref12_make1.f (k : Nat) (l0_0 : List (S28)) (a1 : ByteArray) (a2 : Int) : Option ((List (S28)) × Int) := (potsherdref12_Parent.f k l0_0 a1).bind fun bt437 => (if bt437.2.2 = 0 then (if 0 ≤ bt437.1 then (if bt437.1 < (l0_0.length : Int) then ((potsherdref12_At.f k ((rd_T28 l0_0 bt437.1).f4) bt437.2.1).bind fun t441 => (if t441 ≥ 0 then (none) else ((potsherdref12_Free.f k l0_0).bind fun t442 => (if t442 < 0 then (none) else (potsherdref12_make1.j0 k a2 bt437.1 bt437.2.1 t442 (decide ((((rd_T28 l0_0 bt437.1).f4).length : Int) ≥ 10)) l0_0))))) else (none)) else (none)) else (none))
theorem potsherdref12_make1.mono_l : ∀ k, (∀ y0 y1 y2 y3 y4 y5, LeO (potsherdref12_make1.j0 k y0 y1 y2 y3 y4 y5) (potsherdref12_make1.j0 (k + 1) y0 y1 y2 y3 y4 y5))
 | 0 => fun _ _ _ _ _ _ r h => by simp [potsherdref12_make1.j0] at h
 | k + 1 => by
  have ih0 := potsherdref12_make1.mono_l k
  ·
   intro y0 y1 y2 y3 y4 y5
   unfold potsherdref12_make1.j0
   repeat' with_reducible first | apply ih0 | apply potsherdref12_At.mono | apply potsherdref12_CopyTree.mono | apply potsherdref12_Free.mono | apply potsherdref12_Parent.mono | apply potsherdref12_With.mono | exact LeO.refl _ | exact LeO.none _ | refine LeO.ite ?_ ?_ | refine LeO.bind ?_ (fun _ => ?_)
theorem potsherdref12_make1.mono : ∀ a0 a1 a2 k, LeO (potsherdref12_make1.f k a0 a1 a2) (potsherdref12_make1.f (k + 1) a0 a1 a2) := by
 intro a0 a1 a2 k; have ih0 := potsherdref12_make1.mono_l k
 unfold potsherdref12_make1.f
 repeat' with_reducible first | apply ih0 | apply potsherdref12_At.mono | apply potsherdref12_CopyTree.mono | apply potsherdref12_Free.mono | apply potsherdref12_Parent.mono | apply potsherdref12_With.mono | exact LeO.refl _ | exact LeO.none _ | refine LeO.ite ?_ ?_ | refine LeO.bind ?_ (fun _ => ?_)
def potsherdref12_make1.T11 : Bool × List (List Nat × List Nat) := (true, [([], []), ([0], [0]), ([], []), ([], []), ([3], [3]), ([], []), ([4, 5], [4, 5]), ([6], [6]), ([7], [7]), ([], []), ([], []), ([8, 9, 10], [8, 9, 10]), ([11], [11]), ([12], [12]), ([12], [12]), ([1, 2, 0, 1, 2, 3, 4, 5, 6, 7, 8, 9, 10, 11, 12, 13], [1, 2]), ([15, 0, 1, 2, 3, 4, 5, 6, 7, 8, 9, 10, 11, 12, 13], [15]), ([16, 13, 11, 0, 1, 2, 3, 4, 5, 6, 7, 8, 9, 10, 11, 12, 13], [13, 16])])
def potsherdref12_make1.B11 : List Nat := [0, 1, 0, 0, 8, 0, 56, 120, 248, 0, 0, 2040, 4088, 8184, 8184, 16383, 49151, 114687]
theorem potsherdref12_make1.tab11 : rtab .any (opsOf Try.f79 11) = potsherdref12_make1.T11 := by kernel_rfl
theorem potsherdref12_make1.bits11 : waitsOk potsherdref12_make1.T11.2 potsherdref12_make1.B11 = true := by kernel_rfl
set_option maxHeartbeats 8000000 in
set_option maxRecDepth 100000 in
theorem potsherdref12_make1.calls (k : Nat) (A0_0 : Option Addr) (c0_0 : Nat) (l0_0 : List (S28)) (a1 : ByteArray) (a2 : Int) (r1 : List (S28)) (r2 : Int) (w : World) (hr0_0 : Kd.C k28 w A0_0 l0_0.length l0_0) (hc0_0 : l0_0.length ≤ c0_0) (h : potsherdref12_make1.f k l0_0 a1 a2 = some (r1, r2)) :
 Calls Try.prog 79 #[.agg #[.slice A0_0 l0_0.length c0_0], .string a1, .int .i64 a2] w fun e w' => ∃ v0_ : Value, e = .returned (.tuple #[.agg #[v0_], .int .i64 r2]) ∧ Kd.N k28 28 w' w.heap.size (fun k_ => (w.heap.size ≤ k_)) v0_ r1 ∧ Below w.heap.size w w' := by
 have hu24 := Try.underlying24; have hu28 := Try.underlying28; have HR0_0 := Aside0.mk hr0_0; have HC0_0 := Aside0.mk hc0_0; clear hr0_0 hc0_0; have HB := Aside0.mk (Below.refl w.heap.size w); have H : ((potsherdref12_Parent.f k l0_0 a1).bind fun bt437 => (if bt437.2.2 = 0 then (if 0 ≤ bt437.1 then (if bt437.1 < (l0_0.length : Int) then ((potsherdref12_At.f k ((rd_T28 l0_0 bt437.1).f4) bt437.2.1).bind fun t441 => (if t441 ≥ 0 then (none) else ((potsherdref12_Free.f k l0_0).bind fun t442 => (if t442 < 0 then (none) else (potsherdref12_make1.j0 k a2 bt437.1 bt437.2.1 t442 (decide ((((rd_T28 l0_0 bt437.1).f4).length : Int) ≥ 10)) l0_0))))) else (none)) else (none)) else (none))) = some (r1, r2) := h; clear h; replace H := Option.bind_eq_some_iff.mp H; obtain ⟨⟨t437, t438, t439⟩, A40, H⟩ := H; replace H : (if t439 = 0 then (if 0 ≤ t437 then (if t437 < (l0_0.length : Int) then ((potsherdref12_At.f k ((rd_T28 l0_0 t437).f4) t438).bind fun t441 => (if t441 ≥ 0 then (none) else ((potsherdref12_Free.f k l0_0).bind fun t442 => (if t442 < 0 then (none) else (potsherdref12_make1.j0 k a2 t437 t438 t442 (decide ((((rd_T28 l0_0 t437).f4).length : Int) ≥ 10)) l0_0))))) else (none)) else (none)) else (none)) = some (r1, r2) := H; have A4 := Aside0.mk A40; clear A40
 replace H := nP H; obtain ⟨c5, H⟩ := H; obtain ⟨c5b0, c5b1⟩ := eP c5; clear c5
 replace H := nP H; obtain ⟨c6, H⟩ := H; have c6b0 := decide_eq_true c6; clear c6
 replace H := nP H; obtain ⟨c7, H⟩ := H; have c7b0 := decide_eq_true c7; clear c7; replace H := Option.bind_eq_some_iff.mp H; obtain ⟨t441, A80, H⟩ := H; have A8 := Aside0.mk A80; clear A80
 replace H := nQ H; obtain ⟨c9, H⟩ := H; have c9b0 : decide (0 ≤ t441) = false := decide_eq_false c9; clear c9; replace H := Option.bind_eq_some_iff.mp H; obtain ⟨t442, A100, H⟩ := H; have A10 := Aside0.mk A100; clear A100; have HC11 := Aside0.mk H; clear H
 go_enter Try.func79, Try.ntmps79
 go_upto_region 7 with (first | ((with_reducible refine gate_dst (N := 3) rfl ?_); (try (refine gate_guard (by rfl) ?_; dsimp only)); refine bxE 24 (cs := #[.slice A0_0 l0_0.length c0_0]) ?_; intro gb435 hg w12 hbox hb; have BK435 := Aside0.mk hbox; have GW435 := kG HB hg; have GE435 := kG HB hg; replace HB := kH HB hb; clear hb hbox hg) | ((with_reducible refine gate_dst (N := 6) rfl ?_); (try (refine gate_guard (by rfl) ?_; dsimp only)); refine bxE 24 (cs := #[.slice none 0 0]) ?_; intro gb436 hg w13 hbox hb; have BK436 := Aside0.mk hbox; have GW436 := kG HB hg; have GE436 := kG HB hg; replace HB := kH HB hb; have NB435_436 := kL BK435 hg; have NB436_435 := kQ BK435 hg; replace BK435 := kB BK435 hb; clear hb hbox hg; have hnb14 := NB435_436.out; have hnc14 := NB436_435.out; obtain ⟨hcz15_0, hfz15_0⟩ := cY0 BK435) | ((with_reducible refine gate_callee (f := 85) rfl ?_); refine goesK (some 16) Try.func85 #[.agg #[.slice A0_0 l0_0.length c0_0], .string a1] ?_; (with_reducible refine (potsherdref12_Parent.calls k _ _ l0_0 a1 t437 t438 t439 _ ?side1 ?side2 A4.out).mono ?_); (case side1 => exact mC HR0_0 HB); (case side2 => exact HC0_0.out); rintro e w16 ⟨rfl, hb⟩; refine ⟨_, rfl, ?_⟩; replace BK435 := kB BK435 hb; replace BK436 := kB BK436 hb; replace HB := kH HB hb; (try clear hb); obtain ⟨hcz17_0, hfz17_0⟩ := cY0 BK435; have p440 : 0 ≤ (t437 : Int) := dT; have q440 : t437 < (l0_0.length : Int) := dT; obtain ⟨ad440, A440_3, c440_3, A440_4, c440_4, e440, hx440_0, hx440_1, hx440_2, hx440_3, hx440_4, hl440_3, hi440_3, hl440_4, hi440_4⟩ := at_T28 HR0_0.out t437 p440 q440; cases e440; replace hx440_0 := xC HB hx440_0; replace hx440_1 := xC HB hx440_1; replace hx440_2 := xC HB hx440_2; replace hx440_3 := xC HB hx440_3; replace hx440_4 := xC HB hx440_4; have HR440_3 := Aside0.mk hi440_3; have HC440_3 := Aside0.mk hl440_3; clear hi440_3 hl440_3; have HR440_4 := Aside0.mk hi440_4; have HC440_4 := Aside0.mk hl440_4; clear hi440_4 hl440_4; replace p440 := eq_true p440; replace q440 := eq_true q440) | ((with_reducible refine gate_callee (f := 86) rfl ?_); refine goesK (some 31) Try.func86 #[.slice A440_4 ((rd_T28 l0_0 t437).f4).length c440_4, .string t438] ?_; (with_reducible refine (potsherdref12_At.calls k _ _ ((rd_T28 l0_0 t437).f4) t438 t441 _ ?side1 ?side2 A8.out).mono ?_); (case side1 => exact mC HR440_4 HB); (case side2 => exact HC440_4.out); rintro e w18 ⟨rfl, hb⟩; refine ⟨_, rfl, ?_⟩; replace BK435 := kB BK435 hb; replace BK436 := kB BK436 hb; replace HB := kH HB hb; (try clear hb); obtain ⟨hcz19_0, hfz19_0⟩ := cY0 BK435) | ((with_reducible refine gate_callee (f := 87) rfl ?_); refine goesK (some 35) Try.func87 #[.agg #[.slice (some ad440) l0_0.length c0_0]] ?_; (with_reducible refine (potsherdref12_Free.calls k _ _ l0_0 t442 _ ?side1 ?side2 A10.out).mono ?_); (case side1 => exact mC HR0_0 HB); (case side2 => exact HC0_0.out); rintro e w20 ⟨rfl, hb⟩; refine ⟨_, rfl, ?_⟩; replace BK435 := kB BK435 hb; replace BK436 := kB BK436 hb; replace HB := kH HB hb; (try clear hb)))
 (try simp only [Act.put, lT, l0_, lS])
 go_cut [47] (fun v47 wc => ∃ (kq : Nat) (x47_10 : Bool), v47 = .bool x47_10 ∧ Aside0 (potsherdref12_make1.j0 kq a2 t437 t438 t442 x47_10 l0_0 = some (r1, r2)) ∧ Aside0 (kq ≤ k) ∧ Aside0 (wc.heap[gb435]? = some (.cells #[(.slice (some ad440) l0_0.length c0_0)] 24 (0, 0))) ∧ Aside0 (wc.heap[gb436]? = some (.cells #[(.slice none 0 0)] 24 (0, 0))) ∧ Aside0 (Below w.heap.size w wc))
 case first =>
  have H := HC11.out; clear HC11
  replace H := nQ H; obtain ⟨c21, H⟩ := H; have c21b0 := decide_eq_false c21; clear c21
  (first | rw [c21b0] | (simp only [i64_w, i32_w]; rw [c21b0]) | skip)
  have H' := Aside0.mk H; clear H; have hnb22 := NB435_436.out; have hnc22 := NB436_435.out; obtain ⟨hcz23_0, hfz23_0⟩ := cY0 BK435; have p443 : 0 ≤ (t437 : Int) := dT; have q443 : t437 < (l0_0.length : Int) := dT; obtain ⟨ad443, A443_3, c443_3, A443_4, c443_4, e443, hx443_0, hx443_1, hx443_2, hx443_3, hx443_4, hl443_3, hi443_3, hl443_4, hi443_4⟩ := at_T28 HR0_0.out t437 p443 q443; obtain rfl : ad440 = ad443 := (by injection e443); replace hx443_0 := xC HB hx443_0; replace hx443_1 := xC HB hx443_1; replace hx443_2 := xC HB hx443_2; replace hx443_3 := xC HB hx443_3; replace hx443_4 := xC HB hx443_4; have HR443_3 := Aside0.mk hi443_3; have HC443_3 := Aside0.mk hl443_3; clear hi443_3 hl443_3; have HR443_4 := Aside0.mk hi443_4; have HC443_4 := Aside0.mk hl443_4; clear hi443_4 hl443_4; replace p443 := eq_true p443; replace q443 := eq_true q443
  go_wp2
  go_meet
  case rel => exact ⟨_, (decide ((((rd_T28 l0_0 t437).f4).length : Int) ≥ 10)), sI, H', ⟨by first | omega | exact Nat.le_refl _⟩, ⟨mB BK435⟩, ⟨mB BK436⟩, ⟨mH HB⟩⟩
 case rest =>
  clear HC11
  (try clear c5); (try clear c5b0); (try clear c5b1); (try clear c6); (try clear c6b0); (try clear c7); (try clear c7b0); (try clear c9); (try clear c9b0); (try clear hcz15_0); (try clear hcz17_0); (try clear hcz19_0); (try clear hfz15_0); (try clear hfz17_0); (try clear hfz19_0); (try clear hx440_0); (try clear hx440_1); (try clear hx440_2); (try clear hx440_3); (try clear hx440_4); (try clear p440); (try clear q440)
  obtain ⟨kq, x47_10, rfl, HA, HJ10, BK435, BK436, HB⟩ := hcut
  cases kq with
  | zero => exact absurd HA.out (by simp [potsherdref12_make1.j0])
  | succ kj10 =>
   have H := HA.out; clear HA; simp only [potsherdref12_make1.j0] at H
   by_cases c24 : x47_10 = true
   ·
    subst c24
    have H1 : (none) = some (r1, r2) := by rw [if_pos rfl] at H; exact H
    clear H; have H := H1; clear H1; exact absurd H (by simp)
   ·
    replace c24 := Bool.eq_false_iff.mpr c24; subst c24
    have H1 : ((potsherdref12_CopyTree.f kj10 l0_0).bind fun t444 => ((potsherdref12_EmptyNode.f a2).bind fun bt448 => (if 0 ≤ t442 then (if t442 < (t444.length : Int) then ((some (t444.set (t442 : Int).toNat (⟨bt448.1, bt448.2.1, bt448.2.2.1, bt448.2.2.2.1, bt448.2.2.2.2⟩ : S28) : List (S28))).bind fun y457 => (if 0 ≤ t437 then (if t437 < (l0_0.length : Int) then ((potsherdref12_With.f kj10 ((rd_T28 l0_0 t437).f4) t438 t442).bind fun bt459 => (if t437 < (t444.length : Int) then (some ((y457.set (t437 : Int).toNat (⟨(rd_T28 y457 t437).f0, (rd_T28 y457 t437).f1, (rd_T28 y457 t437).f2, (rd_T28 y457 t437).f3, bt459.1⟩ : S28)), 0)) else (none))) else (none)) else (none))) else (none)) else (none)))) = some (r1, r2) := by rw [if_neg (show ¬ (false = true) by decide)] at H; exact H
    clear H; have H := H1; clear H1; replace H := Option.bind_eq_some_iff.mp H; obtain ⟨t444, A250, H⟩ := H; have A25 := Aside0.mk A250; clear A250; replace H := Option.bind_eq_some_iff.mp H; obtain ⟨⟨t448, t449, t450, t451, t454⟩, A260, H⟩ := H; replace H : (if 0 ≤ t442 then (if t442 < (t444.length : Int) then ((some (t444.set (t442 : Int).toNat (⟨t448, t449, t450, t451, t454⟩ : S28) : List (S28))).bind fun y457 => (if 0 ≤ t437 then (if t437 < (l0_0.length : Int) then ((potsherdref12_With.f kj10 ((rd_T28 l0_0 t437).f4) t438 t442).bind fun bt459 => (if t437 < (t444.length : Int) then (some ((y457.set (t437 : Int).toNat (⟨(rd_T28 y457 t437).f0, (rd_T28 y457 t437).f1, (rd_T28 y457 t437).f2, (rd_T28 y457 t437).f3, bt459.1⟩ : S28)), 0)) else (none))) else (none)) else (none))) else (none)) else (none)) = some (r1, r2) := H; have A26 := Aside0.mk A260; clear A260
    replace H := nP H; obtain ⟨c27, H⟩ := H; have c27b0 := decide_eq_true c27; clear c27
    replace H := nP H; obtain ⟨c28, H⟩ := H; have c28b0 := decide_eq_true c28; clear c28; obtain ⟨y457, hy457⟩ : ∃ y_ : List (S28), y_ = (t444.set (t442 : Int).toNat (⟨t448, t449, t450, t451, t454⟩ : S28)) := ⟨_, rfl⟩
    replace H : (if 0 ≤ t437 then (if t437 < (l0_0.length : Int) then ((potsherdref12_With.f kj10 ((rd_T28 l0_0 t437).f4) t438 t442).bind fun bt459 => (if t437 < (t444.length : Int) then (some ((y457.set (t437 : Int).toNat (⟨(rd_T28 y457 t437).f0, (rd_T28 y457 t437).f1, (rd_T28 y457 t437).f2, (rd_T28 y457 t437).f3, bt459.1⟩ : S28)), 0)) else (none))) else (none)) else (none)) = some (r1, r2) := rH H hy457
    have Ny457 := Aside0.mk hy457; clear hy457
    replace H := nP H; obtain ⟨c30, H⟩ := H; have c30b0 := decide_eq_true c30; clear c30
    replace H := nP H; obtain ⟨c31, H⟩ := H; have c31b0 := decide_eq_true c31; clear c31; replace H := Option.bind_eq_some_iff.mp H; obtain ⟨⟨t459, t460⟩, A320, H⟩ := H; replace H : (if t437 < (t444.length : Int) then (some ((y457.set (t437 : Int).toNat (⟨(rd_T28 y457 t437).f0, (rd_T28 y457 t437).f1, (rd_T28 y457 t437).f2, (rd_T28 y457 t437).f3, t459⟩ : S28)), 0)) else (none)) = some (r1, r2) := H; have A32 := Aside0.mk A320; clear A320
    replace H := nP H; obtain ⟨c33, H⟩ := H; have c33b0 := decide_eq_true c33; clear c33; obtain ⟨y463, hy463⟩ : ∃ y_ : List (S28), y_ = (y457.set (t437 : Int).toNat (⟨(rd_T28 y457 t437).f0, (rd_T28 y457 t437).f1, (rd_T28 y457 t437).f2, (rd_T28 y457 t437).f3, t459⟩ : S28)) := ⟨_, rfl⟩
    replace H : (some (y463, 0)) = some (r1, r2) := rH H hy463
    have Ny463 := Aside0.mk hy463; clear hy463; simp only [Option.some.injEq, Prod.mk.injEq] at H; obtain ⟨rfl, rfl⟩ := H; have hnb35 := NB435_436.out; have hnc35 := NB436_435.out; obtain ⟨hcz36_0, hfz36_0⟩ := cY0 BK435
    try go_wp2_with (first | ((with_reducible refine gate_callee (f := 32) rfl ?_); refine goesK (some 50) Try.func32 #[.agg #[.slice (some ad440) l0_0.length c0_0]] ?_; (with_reducible refine (potsherdref12_CopyTree.calls kj10 _ _ l0_0 t444 _ ?side1 ?side2 A25.out).mono ?_); (case side1 => exact mC HR0_0 HB); (case side2 => exact HC0_0.out); rintro e w37 ⟨v445, rfl, ho0, hb⟩; refine ⟨_, rfl, ?_⟩; have HO446 := Aside0.mk (Kd.N_lower (Kd.N_mono (ok' := fun k_ => (w.heap.size ≤ k_) ∧ k_ ≠ gb435 ∧ k_ ≠ gb436) (Kd.S_N (Kd.S_bound ho0)) (fun k_ hk_ => ⟨(Nat.le_trans (below_size (mH HB)) hk_.2.1), (Kd.freshB (g := gb435) (o := .cells #[.slice (some ad440) l0_0.length c0_0] 24 (0, 0)) (mB BK435) k_ hk_.2.1), (Kd.freshB (g := gb436) (o := .cells #[.slice none 0 0] 24 (0, 0)) (mB BK436) k_ hk_.2.1)⟩)) (below_size (mH HB))); replace BK435 := kB BK435 hb; replace BK436 := kB BK436 hb; replace HB := kH HB hb; (try clear hb); (try clear ho0)) | ((with_reducible refine gate_dst (N := 12) rfl ?_); (try (refine gate_guard (by rfl) ?_; dsimp only)); refine bxE 24 (cs := #[.slice none 0 0]) ?_; intro gb447 hg w38 hbox hb; replace HO446 := Aside0.mk (Kd.N_below (Kd.N_elderB (mN HO446) gb447 (Nat.le_of_eq hg.symm)) hb); have BK447 := Aside0.mk hbox; have GW447 := kG HB hg; have GE447 := kG HB hg; replace HB := kH HB hb; have NB435_447 := kL BK435 hg; have NB447_435 := kQ BK435 hg; replace BK435 := kB BK435 hb; have NB436_447 := kL BK436 hg; have NB447_436 := kQ BK436 hg; replace BK436 := kB BK436 hb; clear hb hbox hg; obtain ⟨Ao39, co39, eo39⟩ := Kd.N_slice HO446.out; subst eo39; have hnb40 := NB447_435.out; have hnc40 := NB435_447.out; have hnb41 := NB447_436.out; have hnc41 := NB436_447.out; obtain ⟨hcz42_0, hfz42_0⟩ := cY0 BK447))
    obtain ⟨w43, hw_, n_⟩ : ∃ W_, w38.setCell ⟨gb447, 0, none⟩ (.slice Ao39 t444.length co39) = W_ ∧ Aside0 (Kd.N k28 28 W_ w.heap.size (fun k_ => (w.heap.size ≤ k_) ∧ k_ ≠ gb435 ∧ k_ ≠ gb436 ∧ k_ ≠ gb447) (.slice Ao39 t444.length co39) t444) ∧ Aside0 (W_.heap[gb435]? = some (.cells #[.slice (some ad440) l0_0.length c0_0] 24 (0, 0))) ∧ Aside0 (W_.heap[gb436]? = some (.cells #[.slice none 0 0] 24 (0, 0))) ∧ Aside0 (W_.heap[gb447]? = some (.cells #[.slice Ao39 t444.length co39] 24 (0, 0))) ∧ Aside0 (Below w.heap.size w W_) := ⟨_, rfl, ⟨fN HO446 (fun _ hk => ⟨hk.1.1, ⟨hk.1.2.1, ⟨hk.1.2.2, hk.2⟩⟩⟩)⟩, ⟨mF BK435⟩, ⟨mF BK436⟩, ⟨pP BK447⟩, ⟨mH HB⟩⟩
    (try clear HO446); (try clear BK435); (try clear BK436); (try clear BK447); (try clear HB); rewrite [hw_]; clear hw_; obtain ⟨HO446, BK435, BK436, BK447, HB⟩ := n_; replace HO446 := Aside0.mk (Kd.N_drew HO446.out); replace BK435 := Aside0.mk (bD BK435.out); replace BK436 := Aside0.mk (bD BK436.out); replace BK447 := Aside0.mk (bD BK447.out); replace HB := Aside0.mk (wD HB.out); refine start_ (n := 7) (S := fun w' => w'.cell? ⟨gb447, 0, none⟩ = some (.slice Ao39 t444.length co39)) (ds := [6]) B32_0 (by kernel_rfl) rfl rfl (cZ0 BK447) (fun hHeld => ?_); generalize w43.drew = w44 at HO446 BK435 BK436 BK447 HB hHeld ⊢; refine pure_ (i := 0) (N := some 51) (v := ?_) (a' := ?_) B32_1 rfl rfl (by kernel_rfl) (fun _ _ _ h => h) (Or.inl ⟨by rfl, ?_⟩) ?_ ?_; rotate_left
    ·
     intro w'; go_simp; with_reducible rfl
    rotate_left
    ·
     simp only [Act.put, lT, l0_, lS, i64_w, i32_w]; rfl
    refine pureE 2 (some 53) B32_2 (by kernel_rfl) ?_
    refine pureE 3 (some 54) B32_3 (by kernel_rfl) ?_
    refine takeE 1 (some 52) B32_4 (by kernel_rfl) hHeld ?_
    refine one_ (i := 4) (N := some 55) B32_5 rfl rfl (by kernel_rfl) (by decide) (fun K hK => ?_); refine goes_ Try.func53 (by kernel_rfl) rfl #[.int .i64 a2] (by rfl) rfl rfl (by (try simp only [List.map_toArray, List.map_cons, List.map_nil]); first | done | rfl | (simp only [List.length_drop, List.length_take]; rfl)) ?_
    with_reducible refine (potsherdref12_EmptyNode.calls a2 t448 t449 t450 t451 t454 _ A26.out).mono ?_
    rintro e w45 ⟨v452, v455, rfl, ho0, ho1, hb⟩; refine ⟨_, rfl, ?_⟩; replace HO446 := Aside0.mk (Kd.N_mono (Kd.N_told (Kd.N_told (Kd.N_old (mN HO446) hb) (Kd.R_base ho0)) (Kd.R_base ho1)) (fun _ h_ => h_.1)); have HO453 := Aside0.mk (Kd.R_lower (Kd.R_newM (M := fun k_ => (w.heap.size ≤ k_)) ho0 (below_size (mH HB)) (fun k_ h_ => h_)) (below_size (mH HB))); have HO456 := Aside0.mk (Kd.R_lower (Kd.R_newM (M := fun k_ => (w.heap.size ≤ k_)) ho1 (below_size (mH HB)) (fun k_ h_ => h_)) (below_size (mH HB))); replace BK435 := kB BK435 hb; replace BK436 := kB BK436 hb; replace BK447 := kB BK447 hb; replace HB := kH HB hb
    (try clear hb); (try clear hk); (try clear ho0); (try clear ho1)
    have p29 : 0 ≤ (t442 : Int) := dT; have q29 : (t442 : Int) < ((t444.length : Int) : Int) := dT; obtain ⟨go29, co29, eo29, gb29, gl29, cl29, HG29⟩ := Kd.N_form HO446.out (by omega)
    (first | cases eo29 | (injection eo29 with ea_ en_ ec_; (first | subst ea_ | (injection ea_ with ea_; subst ea_)); subst ec_; clear en_))
    have GB29 := Aside0.mk gb29; have GG29 := Aside0.mk HG29; clear gb29 gl29 HG29; obtain ⟨ce29, hcl29, hM29, hcc29, hfr29⟩ := Kd.N_elem HO446.out z28 (t442 : Int) p29 q29; obtain ⟨ua29_3, uc29_3, ua29_4, uc29_4, rfl, ul29_3, ge29_3, ul29_4, ge29_4⟩ := k28_openF hM29; have hx29_0 : World.cell? _ ⟨go29, (t442 : Int).toNat * 5, none⟩ = some (.int .i64 ((rd_T28 t444 t442).f0)) := hcc29 0 _ rfl; have hx29_1 : World.cell? _ ⟨go29, (t442 : Int).toNat * 5 + 1, none⟩ = some (.int .i64 ((rd_T28 t444 t442).f1)) := hcc29 1 _ rfl; have hx29_2 : World.cell? _ ⟨go29, (t442 : Int).toNat * 5 + 2, none⟩ = some (.int .i64 ((rd_T28 t444 t442).f2)) := hcc29 2 _ rfl; have hx29_3 : World.cell? _ ⟨go29, (t442 : Int).toNat * 5 + 3, none⟩ = some (.slice ua29_3 ((rd_T28 t444 t442).f3).length uc29_3) := hcc29 3 _ rfl; have hx29_4 : World.cell? _ ⟨go29, (t442 : Int).toNat * 5 + 4, none⟩ = some (.slice ua29_4 ((rd_T28 t444 t442).f4).length uc29_4) := hcc29 4 _ rfl; have hf29_0 : World.frozen? _ ⟨go29, (t442 : Int).toNat * 5, none⟩ = false := hfr29 0; have hf29_1 : World.frozen? _ ⟨go29, (t442 : Int).toNat * 5 + 1, none⟩ = false := hfr29 1; have hf29_2 : World.frozen? _ ⟨go29, (t442 : Int).toNat * 5 + 2, none⟩ = false := hfr29 2; have hf29_3 : World.frozen? _ ⟨go29, (t442 : Int).toNat * 5 + 3, none⟩ = false := hfr29 3; have hf29_4 : World.frozen? _ ⟨go29, (t442 : Int).toNat * 5 + 4, none⟩ = false := hfr29 4; clear hcl29 hcc29 hfr29 hM29; replace p29 := eq_true p29; replace q29 := eq_true q29; obtain ⟨Azv452, czv452, ezv452⟩ := Kd.R_slice HO453.out; subst ezv452; obtain ⟨Azv455, czv455, ezv455⟩ := Kd.R_slice HO456.out; subst ezv455; have HX46 := Aside0.mk (show Kd.N k28 28 _ w.heap.size (fun k_ => (w.heap.size ≤ k_) ∧ some k_ ≠ ((Value.slice Azv452 t451.length czv452) : Value).ownBlock ∧ some k_ ≠ ((Value.slice Azv455 t454.length czv455) : Value).ownBlock ∧ k_ ≠ gb435 ∧ k_ ≠ gb436 ∧ k_ ≠ gb447) (.slice (some ⟨go29, 0, none⟩) t444.length co39) t444 from (Kd.N_mono (HO446.out) (fun k_ hk => ⟨hk.1.1.1, ⟨hk.1.2, ⟨hk.2, ⟨hk.1.1.2.1, ⟨hk.1.1.2.2.1, hk.1.1.2.2.2⟩⟩⟩⟩⟩))); replace HX46 := Aside0.mk (show Kd.N k28 28 _ w.heap.size (fun k_ => (w.heap.size ≤ k_) ∧ k_ ≠ gb435 ∧ k_ ≠ gb436 ∧ k_ ≠ gb447) (.slice (some ⟨go29, 0, none⟩) t444.length co39) t444 from Kd.N_mono HX46.out (fun k_ hk => ⟨hk.1, ⟨hk.2.2.2.1, ⟨hk.2.2.2.2.1, hk.2.2.2.2.2⟩⟩⟩)); obtain ⟨ce46, hcl46, hM46, hcc46, hfr46⟩ := Kd.N_elem HX46.out z28 (t442 : Int) (dT) (by have h_ : (t442 : Int) < ((t444.length : Int) : Int) := dT; first | exact h_ | (have e_ := (Kd.N_reads' HO446.out).1; omega) | simpa using h_)
    obtain ⟨ua46_3, uc46_3, ua46_4, uc46_4, rfl, ul46_3, ge46_3, ul46_4, ge46_4⟩ := k28_openF hM46; have HP46 := (Kd.N_seg HX46.out (t442 : Int) (dT) (by have h_ : (t442 : Int) < ((t444.length : Int) : Int) := dT; first | exact h_ | (have e_ := (Kd.N_reads' HO446.out).1; omega) | simpa using h_) (seg := [.int .i64 t448, .int .i64 t449, .int .i64 t450, (Value.slice Azv452 t451.length czv452), (Value.slice Azv455 t454.length czv455)]) (j := 0) hcl46 hcc46 (show 5 ≤ 5 from by decide) (x' := (⟨t448, t449, t450, t451, t454⟩ : S28)) (k28_mkF _ _ (⟨t448, t449, t450, t451, t454⟩ : S28) (Kd.R_reads' (Kd.R_mono (ok' := (fun k_ => ((fun k_ => (w.heap.size ≤ k_) ∧ k_ ≠ gb435 ∧ k_ ≠ gb436 ∧ k_ ≠ gb447)) k_ ∧ k_ ≠ go29)) (Kd.R_types (Kd.R_types (Kd.R_types (Kd.R_apart' (HO453.out) (Kd.N_typed HO446.out) (by decide)) BK435.out (by decide)) BK436.out (by decide)) BK447.out (by decide)) (fun k_ hk => ⟨⟨hk.1.1.1.1.1, ⟨hk.1.1.2, ⟨hk.1.2, hk.2⟩⟩⟩, fun e_ => (hk.1.1.1.2) (by rw [e_]; rfl)⟩))).2.1 (Kd.R_F (Kd.R_mono (ok' := (fun k_ => ((fun k_ => (w.heap.size ≤ k_) ∧ k_ ≠ gb435 ∧ k_ ≠ gb436 ∧ k_ ≠ gb447)) k_ ∧ k_ ≠ go29)) (Kd.R_types (Kd.R_types (Kd.R_types (Kd.R_apart' (HO453.out) (Kd.N_typed HO446.out) (by decide)) BK435.out (by decide)) BK436.out (by decide)) BK447.out (by decide)) (fun k_ hk => ⟨⟨hk.1.1.1.1.1, ⟨hk.1.1.2, ⟨hk.1.2, hk.2⟩⟩⟩, fun e_ => (hk.1.1.1.2) (by rw [e_]; rfl)⟩))) (Kd.R_reads' (Kd.R_mono (ok' := (fun k_ => ((fun k_ => (w.heap.size ≤ k_) ∧ k_ ≠ gb435 ∧ k_ ≠ gb436 ∧ k_ ≠ gb447)) k_ ∧ k_ ≠ go29)) (Kd.R_types (Kd.R_types (Kd.R_types (Kd.R_apart' (HO456.out) (Kd.N_typed HO446.out) (by decide)) BK435.out (by decide)) BK436.out (by decide)) BK447.out (by decide)) (fun k_ hk => ⟨⟨hk.1.1.1.1.1, ⟨hk.1.1.2, ⟨hk.1.2, hk.2⟩⟩⟩, fun e_ => (hk.1.1.1.2) (by rw [e_]; rfl)⟩))).2.1 (Kd.R_F (Kd.R_mono (ok' := (fun k_ => ((fun k_ => (w.heap.size ≤ k_) ∧ k_ ≠ gb435 ∧ k_ ≠ gb436 ∧ k_ ≠ gb447)) k_ ∧ k_ ≠ go29)) (Kd.R_types (Kd.R_types (Kd.R_types (Kd.R_apart' (HO456.out) (Kd.N_typed HO446.out) (by decide)) BK435.out (by decide)) BK436.out (by decide)) BK447.out (by decide)) (fun k_ hk => ⟨⟨hk.1.1.1.1.1, ⟨hk.1.1.2, ⟨hk.1.2, hk.2⟩⟩⟩, fun e_ => (hk.1.1.1.2) (by rw [e_]; rfl)⟩)))) (fun _ hk => hk)).1
    rw [← Ny457.out] at HP46; have HQ46 := Aside0.mk HP46; clear hcl46 hcc46 hfr46 hM46 HP46; refine hK.out _ _ (cZ0 BK447) (fun hHeld => ?_); clear hK K; refine norm_ (a' := ?_) ?_ ?_; rotate_left
    ·
     show Act.put _ (some 55) _ = _
     simp only [Act.put, lT, l0_, lS, i64_w, i32_w]; rfl
    refine pureE 5 (some 56) B32_6 (by kernel_rfl) ?_
    refine last_ (i := 6) (N := none) B32_7 rfl rfl (by kernel_rfl) (by decide) (fun K hK => ?_); refine skip_ (w1 := ?_) (by rfl) rfl ?_ ?_; rotate_left
    ·
     go_simp; rfl
    refine hK.out _ _ ?_; clear hK K; refine done_ (by kernel_rfl) ?_
    obtain ⟨w47, hw_, n_⟩ : ∃ W_, ((((w45.setCell ⟨go29, (t442 : Int).toNat * 5, none⟩ (.int .i64 t448)).setCell ⟨go29, (t442 : Int).toNat * 5 + 1, none⟩ (.int .i64 t449)).setCell ⟨go29, (t442 : Int).toNat * 5 + 2, none⟩ (.int .i64 t450)).setCell ⟨go29, (t442 : Int).toNat * 5 + 3, none⟩ ((Value.slice Azv452 t451.length czv452))).setCell ⟨go29, (t442 : Int).toNat * 5 + 4, none⟩ ((Value.slice Azv455 t454.length czv455)) = W_ ∧ Aside0 (Kd.N k28 28 W_ w.heap.size (fun k_ => (w.heap.size ≤ k_) ∧ k_ ≠ gb435 ∧ k_ ≠ gb436 ∧ k_ ≠ gb447) (.slice (some ⟨go29, 0, none⟩) t444.length co39) y457) ∧ Aside0 (W_.heap[gb435]? = some (.cells #[.slice (some ad440) l0_0.length c0_0] 24 (0, 0))) ∧ Aside0 (W_.heap[gb436]? = some (.cells #[.slice none 0 0] 24 (0, 0))) ∧ Aside0 (W_.heap[gb447]? = some (.cells #[.slice (some ⟨go29, 0, none⟩) t444.length co39] 24 (0, 0))) ∧ Aside0 (Below w.heap.size w W_) := ⟨_, rfl, ⟨mN HQ46⟩, ⟨by (with_reducible repeat (first | refine bN ?_ _ | refine bD ?_ | refine bA ?_ _)); refine bF ?_ (by have h_ := Kd.N_away HO446.out (fun _ hk => by first | exact hk.2.1 | exact hk.1.1.2.1 | exact hk.1.2.1); intro e_; exact h_ (by rw [e_]; rfl)) _; (with_reducible repeat (first | refine bN ?_ _ | refine bD ?_ | refine bA ?_ _)); refine bF ?_ (by have h_ := Kd.N_away HO446.out (fun _ hk => by first | exact hk.2.1 | exact hk.1.1.2.1 | exact hk.1.2.1); intro e_; exact h_ (by rw [e_]; rfl)) _; (with_reducible repeat (first | refine bN ?_ _ | refine bD ?_ | refine bA ?_ _)); refine bF ?_ (by have h_ := Kd.N_away HO446.out (fun _ hk => by first | exact hk.2.1 | exact hk.1.1.2.1 | exact hk.1.2.1); intro e_; exact h_ (by rw [e_]; rfl)) _; (with_reducible repeat (first | refine bN ?_ _ | refine bD ?_ | refine bA ?_ _)); refine bF ?_ (by have h_ := Kd.N_away HO446.out (fun _ hk => by first | exact hk.2.1 | exact hk.1.1.2.1 | exact hk.1.2.1); intro e_; exact h_ (by rw [e_]; rfl)) _; (with_reducible repeat (first | refine bN ?_ _ | refine bD ?_ | refine bA ?_ _)); refine bF ?_ (by have h_ := Kd.N_away HO446.out (fun _ hk => by first | exact hk.2.1 | exact hk.1.1.2.1 | exact hk.1.2.1); intro e_; exact h_ (by rw [e_]; rfl)) _; (with_reducible repeat (first | refine bN ?_ _ | refine bD ?_ | refine bA ?_ _)); exact BK435.out⟩, ⟨by (with_reducible repeat (first | refine bN ?_ _ | refine bD ?_ | refine bA ?_ _)); refine bF ?_ (by have h_ := Kd.N_away HO446.out (fun _ hk => by first | exact hk.2.2.1 | exact hk.1.1.2.2.1 | exact hk.1.2.2.1); intro e_; exact h_ (by rw [e_]; rfl)) _; (with_reducible repeat (first | refine bN ?_ _ | refine bD ?_ | refine bA ?_ _)); refine bF ?_ (by have h_ := Kd.N_away HO446.out (fun _ hk => by first | exact hk.2.2.1 | exact hk.1.1.2.2.1 | exact hk.1.2.2.1); intro e_; exact h_ (by rw [e_]; rfl)) _; (with_reducible repeat (first | refine bN ?_ _ | refine bD ?_ | refine bA ?_ _)); refine bF ?_ (by have h_ := Kd.N_away HO446.out (fun _ hk => by first | exact hk.2.2.1 | exact hk.1.1.2.2.1 | exact hk.1.2.2.1); intro e_; exact h_ (by rw [e_]; rfl)) _; (with_reducible repeat (first | refine bN ?_ _ | refine bD ?_ | refine bA ?_ _)); refine bF ?_ (by have h_ := Kd.N_away HO446.out (fun _ hk => by first | exact hk.2.2.1 | exact hk.1.1.2.2.1 | exact hk.1.2.2.1); intro e_; exact h_ (by rw [e_]; rfl)) _; (with_reducible repeat (first | refine bN ?_ _ | refine bD ?_ | refine bA ?_ _)); refine bF ?_ (by have h_ := Kd.N_away HO446.out (fun _ hk => by first | exact hk.2.2.1 | exact hk.1.1.2.2.1 | exact hk.1.2.2.1); intro e_; exact h_ (by rw [e_]; rfl)) _; (with_reducible repeat (first | refine bN ?_ _ | refine bD ?_ | refine bA ?_ _)); exact BK436.out⟩, ⟨by (with_reducible repeat (first | refine bN ?_ _ | refine bD ?_ | refine bA ?_ _)); refine bF ?_ (by have h_ := Kd.N_away HO446.out (fun _ hk => by first | exact hk.2.2.2 | exact hk.1.1.2.2.2 | exact hk.1.2.2.2); intro e_; exact h_ (by rw [e_]; rfl)) _; (with_reducible repeat (first | refine bN ?_ _ | refine bD ?_ | refine bA ?_ _)); refine bF ?_ (by have h_ := Kd.N_away HO446.out (fun _ hk => by first | exact hk.2.2.2 | exact hk.1.1.2.2.2 | exact hk.1.2.2.2); intro e_; exact h_ (by rw [e_]; rfl)) _; (with_reducible repeat (first | refine bN ?_ _ | refine bD ?_ | refine bA ?_ _)); refine bF ?_ (by have h_ := Kd.N_away HO446.out (fun _ hk => by first | exact hk.2.2.2 | exact hk.1.1.2.2.2 | exact hk.1.2.2.2); intro e_; exact h_ (by rw [e_]; rfl)) _; (with_reducible repeat (first | refine bN ?_ _ | refine bD ?_ | refine bA ?_ _)); refine bF ?_ (by have h_ := Kd.N_away HO446.out (fun _ hk => by first | exact hk.2.2.2 | exact hk.1.1.2.2.2 | exact hk.1.2.2.2); intro e_; exact h_ (by rw [e_]; rfl)) _; (with_reducible repeat (first | refine bN ?_ _ | refine bD ?_ | refine bA ?_ _)); refine bF ?_ (by have h_ := Kd.N_away HO446.out (fun _ hk => by first | exact hk.2.2.2 | exact hk.1.1.2.2.2 | exact hk.1.2.2.2); intro e_; exact h_ (by rw [e_]; rfl)) _; (with_reducible repeat (first | refine bN ?_ _ | refine bD ?_ | refine bA ?_ _)); exact BK447.out⟩, ⟨mH HB⟩⟩
    (try clear HO446); (try clear BK435); (try clear BK436); (try clear BK447); (try clear HB); rewrite [hw_]; clear hw_; obtain ⟨HO446, BK435, BK436, BK447, HB⟩ := n_
    try go_wp2
    replace HO446 := Aside0.mk (Kd.N_drew HO446.out); replace BK435 := Aside0.mk (bD BK435.out); replace BK436 := Aside0.mk (bD BK436.out); replace BK447 := Aside0.mk (bD BK447.out); replace HB := Aside0.mk (wD HB.out); have p458 : 0 ≤ (t437 : Int) := dT; have q458 : t437 < (l0_0.length : Int) := dT; obtain ⟨ad458, A458_3, c458_3, A458_4, c458_4, e458, hx458_0, hx458_1, hx458_2, hx458_3, hx458_4, hl458_3, hi458_3, hl458_4, hi458_4⟩ := at_T28 HR0_0.out t437 p458 q458; have hw458_4 := hx458_4; have hw458_3 := hx458_3; have hw458_2 := hx458_2; have hw458_1 := hx458_1; have hw458_0 := hx458_0; obtain rfl : ad440 = ad458 := (by injection e458); replace hx458_0 := xC HB hx458_0; replace hx458_1 := xC HB hx458_1; replace hx458_2 := xC HB hx458_2; replace hx458_3 := xC HB hx458_3; replace hx458_4 := xC HB hx458_4; have HR458_3 := Aside0.mk hi458_3; have HC458_3 := Aside0.mk hl458_3; clear hi458_3 hl458_3; have HR458_4 := Aside0.mk hi458_4; have HC458_4 := Aside0.mk hl458_4; clear hi458_4 hl458_4; replace p458 := eq_true p458; replace q458 := eq_true q458; refine start_ (n := 18) (S := fun w' => w'.cell? ⟨gb447, 0, none⟩ = some (.slice (some ⟨go29, 0, none⟩) t444.length co39) ∧ w'.cell? ⟨gb435, 0, none⟩ = some (.slice (some ad440) l0_0.length c0_0) ∧ w'.cell? (ad440.add ((t437).toNat * 5)) = some (.int .i64 ((rd_T28 l0_0 t437).f0)) ∧ w'.cell? ⟨(ad440.add ((t437).toNat * 5)).block, (ad440.add ((t437).toNat * 5)).off + 1, none⟩ = some (.int .i64 ((rd_T28 l0_0 t437).f1)) ∧ w'.cell? ⟨(ad440.add ((t437).toNat * 5)).block, (ad440.add ((t437).toNat * 5)).off + 2, none⟩ = some (.int .i64 ((rd_T28 l0_0 t437).f2)) ∧ w'.cell? ⟨(ad440.add ((t437).toNat * 5)).block, (ad440.add ((t437).toNat * 5)).off + 3, none⟩ = some (.slice A458_3 ((rd_T28 l0_0 t437).f3).length c458_3) ∧ w'.cell? ⟨(ad440.add ((t437).toNat * 5)).block, (ad440.add ((t437).toNat * 5)).off + 4, none⟩ = some (.slice A458_4 ((rd_T28 l0_0 t437).f4).length c458_4)) (ds := [17]) B32_8 (by kernel_rfl) rfl rfl ⟨cZ0 BK447, cZ0 BK435, (xC HB hw458_0), (xC HB hw458_1), (xC HB hw458_2), (xC HB hw458_3), (xC HB hw458_4)⟩ (fun hHeld => ?_); refine with_tabW potsherdref12_make1.tab11 potsherdref12_make1.bits11 (fun HT_ HW_ => ?_); generalize w47.drew = w48 at HO446 BK435 BK436 BK447 HB HR458_3 HR458_4 hx458_0 hx458_1 hx458_2 hx458_3 hx458_4 hHeld ⊢; refine pure_ (i := 0) (N := some 58) (v := ?_) (a' := ?_) B32_9 rfl rfl (any_of HT_.out (by kernel_rfl)) (fun _ _ _ h => h) (Or.inl ⟨by rfl, ?_⟩) ?_ ?_; rotate_left
    ·
     intro w'; go_simp; with_reducible rfl
    rotate_left
    ·
     simp only [Act.put, lT, l0_, lS, i64_w, i32_w]; rfl
    refine pE 2 60 B32_10 HT_ ?_
    refine pE 3 61 B32_11 HT_ ?_
    refine pE 5 63 B32_12 HT_ ?_
    refine pE 9 67 B32_13 HT_ ?_
    refine pE 10 68 B32_14 HT_ ?_
    refine tE 1 59 B32_15 HT_ HW_ hHeld ?_
    refine tE 4 62 B32_16 HT_ HW_ hHeld ?_
    refine pE 6 64 B32_17 HT_ ?_
    refine pE 7 65 B32_18 HT_ ?_
    refine tE 8 66 B32_19 HT_ HW_ hHeld ?_
    refine one_ (i := 11) (N := some 69) B32_20 rfl rfl (one_of HT_.out (by kernel_rfl)) (by decide) (fun K hK => ?_); refine goes_ Try.func88 (by kernel_rfl) rfl #[.slice A458_4 ((rd_T28 l0_0 t437).f4).length c458_4, .string t438, .int .i64 t442] (by rfl) rfl rfl (by (try simp only [List.map_toArray, List.map_cons, List.map_nil]); first | done | rfl | (simp only [List.length_drop, List.length_take]; rfl)) ?_
    with_reducible refine (potsherdref12_With.calls kj10 _ _ ((rd_T28 l0_0 t437).f4) t438 t442 t459 t460 _ ?side1 ?side2 A32.out).mono ?_
    (case side1 => exact mC HR458_4 HB)
    (case side2 => exact HC458_4.out)
    rintro e w49 ⟨v461, rfl, ho0, hb⟩; refine ⟨_, rfl, ?_⟩; replace HO446 := Aside0.mk (Kd.N_elder' (mN HO446) (Kd.R_base ho0) hb); have HO462 := Aside0.mk (Kd.R_lower (Kd.R_newM (M := fun k_ => (w.heap.size ≤ k_)) ho0 (below_size (mH HB)) (fun k_ h_ => h_)) (below_size (mH HB))); replace BK435 := kB BK435 hb; replace BK436 := kB BK436 hb; replace BK447 := kB BK447 hb; replace HB := kH HB hb
    (try clear hb); (try clear hk); (try clear ho0)
    have p34 : 0 ≤ (t437 : Int) := dT; have q34 : (t437 : Int) < ((t444.length : Int) : Int) := dT; obtain ⟨ce34, hcl34, hM34, hcc34, hfr34⟩ := Kd.N_elem HO446.out z28 (t437 : Int) p34 q34; obtain ⟨ua34_3, uc34_3, ua34_4, uc34_4, rfl, ul34_3, ge34_3, ul34_4, ge34_4⟩ := k28_openF hM34; have hx34_0 : World.cell? _ ⟨go29, (t437 : Int).toNat * 5, none⟩ = some (.int .i64 ((rd_T28 y457 t437).f0)) := hcc34 0 _ rfl; have hx34_1 : World.cell? _ ⟨go29, (t437 : Int).toNat * 5 + 1, none⟩ = some (.int .i64 ((rd_T28 y457 t437).f1)) := hcc34 1 _ rfl; have hx34_2 : World.cell? _ ⟨go29, (t437 : Int).toNat * 5 + 2, none⟩ = some (.int .i64 ((rd_T28 y457 t437).f2)) := hcc34 2 _ rfl; have hx34_3 : World.cell? _ ⟨go29, (t437 : Int).toNat * 5 + 3, none⟩ = some (.slice ua34_3 ((rd_T28 y457 t437).f3).length uc34_3) := hcc34 3 _ rfl; have hx34_4 : World.cell? _ ⟨go29, (t437 : Int).toNat * 5 + 4, none⟩ = some (.slice ua34_4 ((rd_T28 y457 t437).f4).length uc34_4) := hcc34 4 _ rfl; have hf34_0 : World.frozen? _ ⟨go29, (t437 : Int).toNat * 5, none⟩ = false := hfr34 0; have hf34_1 : World.frozen? _ ⟨go29, (t437 : Int).toNat * 5 + 1, none⟩ = false := hfr34 1; have hf34_2 : World.frozen? _ ⟨go29, (t437 : Int).toNat * 5 + 2, none⟩ = false := hfr34 2; have hf34_3 : World.frozen? _ ⟨go29, (t437 : Int).toNat * 5 + 3, none⟩ = false := hfr34 3; have hf34_4 : World.frozen? _ ⟨go29, (t437 : Int).toNat * 5 + 4, none⟩ = false := hfr34 4; clear hcl34 hcc34 hfr34 hM34; replace p34 := eq_true p34; replace q34 := eq_true q34; obtain ⟨Azv461, czv461, ezv461⟩ := Kd.R_slice HO462.out; subst ezv461; have HX50 := Aside0.mk (show Kd.N k28 28 _ w.heap.size (fun k_ => (w.heap.size ≤ k_) ∧ some k_ ≠ ((Value.slice Azv461 t459.length czv461) : Value).ownBlock ∧ k_ ≠ gb435 ∧ k_ ≠ gb436 ∧ k_ ≠ gb447) (.slice (some ⟨go29, 0, none⟩) t444.length co39) y457 from (Kd.N_mono (HO446.out) (fun k_ hk => ⟨hk.1.1, ⟨hk.2, ⟨hk.1.2.1, ⟨hk.1.2.2.1, hk.1.2.2.2⟩⟩⟩⟩))); replace HX50 := Aside0.mk (show Kd.N k28 28 _ w.heap.size (fun k_ => (w.heap.size ≤ k_) ∧ k_ ≠ gb435 ∧ k_ ≠ gb436 ∧ k_ ≠ gb447) (.slice (some ⟨go29, 0, none⟩) t444.length co39) y457 from Kd.N_mono HX50.out (fun k_ hk => ⟨hk.1, ⟨hk.2.2.1, ⟨hk.2.2.2.1, hk.2.2.2.2⟩⟩⟩)); obtain ⟨ce50, hcl50, hM50, hcc50, hfr50⟩ := Kd.N_elem HX50.out z28 (t437 : Int) (dT) (by have h_ : (t437 : Int) < ((t444.length : Int) : Int) := dT; first | exact h_ | (have e_ := (Kd.N_reads' HO446.out).1; omega) | simpa using h_)
    obtain ⟨ua50_3, uc50_3, ua50_4, uc50_4, rfl, ul50_3, ge50_3, ul50_4, ge50_4⟩ := k28_openF hM50; have HP50 := (Kd.N_seg HX50.out (t437 : Int) (dT) (by have h_ : (t437 : Int) < ((t444.length : Int) : Int) := dT; first | exact h_ | (have e_ := (Kd.N_reads' HO446.out).1; omega) | simpa using h_) (seg := [(Value.slice Azv461 t459.length czv461)]) (j := 4) hcl50 hcc50 (show 5 ≤ 5 from by decide) (x' := (⟨(rd_T28 y457 t437).f0, (rd_T28 y457 t437).f1, (rd_T28 y457 t437).f2, (rd_T28 y457 t437).f3, t459⟩ : S28)) (k28_mkF _ _ (⟨(rd_T28 y457 t437).f0, (rd_T28 y457 t437).f1, (rd_T28 y457 t437).f2, (rd_T28 y457 t437).f3, t459⟩ : S28) ul50_3 ge50_3 (Kd.R_reads' (Kd.R_mono (ok' := (fun k_ => ((fun k_ => (w.heap.size ≤ k_) ∧ k_ ≠ gb435 ∧ k_ ≠ gb436 ∧ k_ ≠ gb447)) k_ ∧ k_ ≠ go29)) (Kd.R_types (Kd.R_types (Kd.R_types (Kd.R_apart' (HO462.out) (Kd.N_typed HO446.out) (by decide)) BK435.out (by decide)) BK436.out (by decide)) BK447.out (by decide)) (fun k_ hk => ⟨⟨hk.1.1.1.1.1, ⟨hk.1.1.2, ⟨hk.1.2, hk.2⟩⟩⟩, fun e_ => (hk.1.1.1.2) (by rw [e_]; rfl)⟩))).2.1 (Kd.R_F (Kd.R_mono (ok' := (fun k_ => ((fun k_ => (w.heap.size ≤ k_) ∧ k_ ≠ gb435 ∧ k_ ≠ gb436 ∧ k_ ≠ gb447)) k_ ∧ k_ ≠ go29)) (Kd.R_types (Kd.R_types (Kd.R_types (Kd.R_apart' (HO462.out) (Kd.N_typed HO446.out) (by decide)) BK435.out (by decide)) BK436.out (by decide)) BK447.out (by decide)) (fun k_ hk => ⟨⟨hk.1.1.1.1.1, ⟨hk.1.1.2, ⟨hk.1.2, hk.2⟩⟩⟩, fun e_ => (hk.1.1.1.2) (by rw [e_]; rfl)⟩)))) (fun _ hk => hk)).1
    rw [← Ny463.out] at HP50; have HQ50 := Aside0.mk HP50; clear hcl50 hcc50 hfr50 hM50 HP50; refine hK.out _ _ ⟨cZ0 BK447, cZ0 BK435, (xC HB hw458_0), (xC HB hw458_1), (xC HB hw458_2), (xC HB hw458_3), (xC HB hw458_4)⟩ (fun hHeld => ?_); clear hK K; refine norm_ (a' := ?_) ?_ ?_; rotate_left
    ·
     show Act.put _ (some 69) _ = _
     simp only [Act.put, lT, l0_, lS, i64_w, i32_w]; rfl
    refine pE 12 57 B32_21 HT_ ?_
    refine pE 13 70 B32_22 HT_ ?_
    refine pE 14 71 B32_23 HT_ ?_
    refine pE 15 72 B32_24 HT_ ?_
    refine pE 16 73 B32_25 HT_ ?_
    refine last_ (i := 17) (N := none) B32_26 rfl rfl (one_of HT_.out (by kernel_rfl)) (by decide) (fun K hK => ?_); refine skip_ (w1 := ?_) (by rfl) rfl ?_ ?_; rotate_left
    ·
     go_simp; rfl
    refine hK.out _ _ ?_; clear hK K; refine done_ (done_of HT_.out (by kernel_rfl)) ?_
    obtain ⟨w51, hw_, n_⟩ : ∃ W_, w49.setCell ⟨go29, (t437 : Int).toNat * 5 + 4, none⟩ ((Value.slice Azv461 t459.length czv461)) = W_ ∧ Aside0 (Kd.N k28 28 W_ w.heap.size (fun k_ => (w.heap.size ≤ k_) ∧ k_ ≠ gb435 ∧ k_ ≠ gb436 ∧ k_ ≠ gb447) (.slice (some ⟨go29, 0, none⟩) t444.length co39) y463) ∧ Aside0 (W_.heap[gb435]? = some (.cells #[.slice (some ad440) l0_0.length c0_0] 24 (0, 0))) ∧ Aside0 (W_.heap[gb436]? = some (.cells #[.slice none 0 0] 24 (0, 0))) ∧ Aside0 (W_.heap[gb447]? = some (.cells #[.slice (some ⟨go29, 0, none⟩) t444.length co39] 24 (0, 0))) ∧ Aside0 (Below w.heap.size w W_) := ⟨_, rfl, ⟨mN HQ50⟩, ⟨by (with_reducible repeat (first | refine bN ?_ _ | refine bD ?_ | refine bA ?_ _)); refine bF ?_ (by have h_ := Kd.N_away HO446.out (fun _ hk => by first | exact hk.2.1 | exact hk.1.1.2.1 | exact hk.1.2.1); intro e_; exact h_ (by rw [e_]; rfl)) _; (with_reducible repeat (first | refine bN ?_ _ | refine bD ?_ | refine bA ?_ _)); exact BK435.out⟩, ⟨by (with_reducible repeat (first | refine bN ?_ _ | refine bD ?_ | refine bA ?_ _)); refine bF ?_ (by have h_ := Kd.N_away HO446.out (fun _ hk => by first | exact hk.2.2.1 | exact hk.1.1.2.2.1 | exact hk.1.2.2.1); intro e_; exact h_ (by rw [e_]; rfl)) _; (with_reducible repeat (first | refine bN ?_ _ | refine bD ?_ | refine bA ?_ _)); exact BK436.out⟩, ⟨by (with_reducible repeat (first | refine bN ?_ _ | refine bD ?_ | refine bA ?_ _)); refine bF ?_ (by have h_ := Kd.N_away HO446.out (fun _ hk => by first | exact hk.2.2.2 | exact hk.1.1.2.2.2 | exact hk.1.2.2.2); intro e_; exact h_ (by rw [e_]; rfl)) _; (with_reducible repeat (first | refine bN ?_ _ | refine bD ?_ | refine bA ?_ _)); exact BK447.out⟩, ⟨mH HB⟩⟩
    (try clear HO446); (try clear BK435); (try clear BK436); (try clear BK447); (try clear HB); rewrite [hw_]; clear hw_; obtain ⟨HO446, BK435, BK436, BK447, HB⟩ := n_; obtain ⟨hcz52_0, hfz52_0⟩ := cY0 BK447; obtain ⟨hcz53_0, hfz53_0⟩ := cY0 BK436
    try go_wp2
    refine bodyPost_ret (results_ct rfl _ _ gb436 24 #[.slice (some ⟨go29, 0, none⟩) t444.length co39] (0, 0) _ rfl (pP BK436) Try.underlying24 rfl (by kernel_rfl)) rfl ?_
    exact ⟨_, rT, fN HO446 (hg := fun _ hk => hk.2.2.1), mH HB⟩
end Go.Proofs.Ytkigiehkckjlhaa.PDone
