/- The Go functions that these laws reach, each as a Lean function with the same answers (a law itself where it answers true), and the proof that the code comes to them; conditions: those of each theorem. Laid by a program of this session over the print. -/
import Derived.Test.YtkigiehkckjlhaaZDonePDoneShort
import Derived.Test.YtkigiehkckjlhaaZDonePDonex0
import Derived.Test.YtkigiehkckjlhaaZDonePDonex1
namespace Go.Proofs.Ytkigiehkckjlhaa.PDone
open Go.RowKit Go.Proofs.YtkigiehkckjlhaaW.PrintWords Go.Proofs.YtkigiehkckjlhaaW.PrintLast Go.Proofs.YtkigiehkckjlhaaW.PrintMore
attribute [local go_sem] max2_int min2_int max_two min_two max_three min_three max_four min_four   -- for this text's walks alone
set_option linter.unusedVariables false
set_option linter.unusedSimpArgs false
open Go.Proofs.YtkigiehkckjlhaaW.PrintWords renaming blk_drewN → bN, blk_drew → bD, blk_alloc → bA, below_set → wS, below_alloc → wA, pw_below_drewN → wN, below_drew1 → wD, blk_below → bB, blk_far → bF, blk_cell → bC, blk_frozen → bZ
open List renaming setIfInBounds_toArray → lT, set_cons_zero → l0_, set_cons_succ → lS
attribute [local go_sem high] eqA78
def potsherdlaw20_light.l0 : Nat → List (S60) → Int → Int → Option (Bool)
 | 0, _, _, _ => none
 | k + 1, x5, x6, x7 => if x7 < x6 then (if 0 ≤ x7 then (if x7 < (x5.length : Int) then (if x7 ≥ 30 then (none) else (if (((rd_T60 x5 x7).f5).length : Int) > 200 then (none) else (potsherdlaw20_light.l0 k x5 x6 (wrap64 (x7 + 1))))) else (none)) else (none)) else (some true)
def potsherdlaw20_light.f (k : Nat) (l0 : List (S60)) : Option (Bool) := potsherdlaw20_light.l0 k l0 (l0.length : Int) 0
theorem potsherdlaw20_light.mono_l : ∀ k, (∀ y0 y1 y2, LeO (potsherdlaw20_light.l0 k y0 y1 y2) (potsherdlaw20_light.l0 (k + 1) y0 y1 y2))
 | 0 => fun _ _ _ r h => by simp [potsherdlaw20_light.l0] at h
 | k + 1 => by
  have ih0 := potsherdlaw20_light.mono_l k
  ·
   intro y0 y1 y2
   unfold potsherdlaw20_light.l0
   repeat' with_reducible first | apply ih0 | exact LeO.refl _ | exact LeO.none _ | refine LeO.ite ?_ ?_ | refine LeO.bind ?_ (fun _ => ?_)
theorem potsherdlaw20_light.mono : ∀ a0 k, LeO (potsherdlaw20_light.f k a0) (potsherdlaw20_light.f (k + 1) a0) := by
 intro a0 k; have ih0 := potsherdlaw20_light.mono_l k
 unfold potsherdlaw20_light.f
 repeat' with_reducible first | apply ih0 | exact LeO.refl _ | exact LeO.none _ | refine LeO.ite ?_ ?_ | refine LeO.bind ?_ (fun _ => ?_)
set_option maxHeartbeats 8000000 in
set_option maxRecDepth 100000 in
theorem potsherdlaw20_light.calls (k : Nat) (A0 : Option Addr) (c0 : Nat) (l0 : List (S60)) (r : Bool) (w : World) (hr0 : Kd.C k60 w A0 l0.length l0) (hc0 : l0.length ≤ c0) (h : potsherdlaw20_light.f k l0 = some r) :
 Calls Try.prog 35 #[.slice A0 l0.length c0] w fun e w' => e = .returned (.bool r) ∧ Below w.heap.size w w' := by
 have hu60 := Try.underlying60; have HR0 := Aside0.mk hr0; have HC0 := Aside0.mk hc0; clear hr0 hc0; have HB := Aside0.mk (Below.refl w.heap.size w); have H : (potsherdlaw20_light.l0 k l0 (l0.length : Int) 0) = some r := h; clear h; have H' := Aside0.mk H; clear H
 go_enter Try.func35, Try.ntmps35
 go_wp2
 go_loopg [7] k (fun kq v7 w' => ∃ (x7_1 : Int), v7 = .int .i64 x7_1 ∧ Aside0 (potsherdlaw20_light.l0 kq l0 (l0.length : Int) x7_1 = some r) ∧ Aside0 (kq ≤ k) ∧ Aside0 (Below w.heap.size w w'))
 case atStart => exact ⟨(0), sI, H', ⟨Nat.le_refl _⟩, ⟨mH HB⟩⟩
 case round =>
  clear H'; obtain ⟨x7_1, rfl, HA, HK1, HB⟩ := hrel
  cases gk with
  | zero => exact absurd HA.out (by simp [potsherdlaw20_light.l0])
  | succ k1 =>
   have H := HA.out; clear HA; simp only [potsherdlaw20_light.l0] at H
   by_cases c2 : x7_1 < (l0.length : Int)
   ·
    rw [if_pos c2] at H; have c2b0 := decide_eq_true c2; clear c2
    replace H := nP H; obtain ⟨c3, H⟩ := H; have c3b0 := decide_eq_true c3; clear c3
    replace H := nP H; obtain ⟨c4, H⟩ := H; have c4b0 := decide_eq_true c4; clear c4
    replace H := nQ H; obtain ⟨c5, H⟩ := H; have c5b0 : decide (30 ≤ x7_1) = false := decide_eq_false c5; clear c5
    replace H := nQ H; obtain ⟨c6, H⟩ := H; have c6b0 : decide (200 < (((rd_T60 l0 x7_1).f5).length : Int)) = false := decide_eq_false c6; have c6b1 : decide (200 < ((rd_T60 l0 x7_1).f5).length) = false := decide_eq_false (by omega); clear c6; have H' := Aside0.mk H; clear H; have p486 : 0 ≤ (x7_1 : Int) := dT; have q486 : x7_1 < (l0.length : Int) := dT; obtain ⟨ad486, A486_5, c486_5, e486, hx486_0, hx486_1, hx486_2, hx486_3, hx486_4, hx486_5, hl486_5, hi486_5⟩ := at_T60 HR0.out x7_1 p486 q486
    cases e486
    replace hx486_0 := xC HB hx486_0; replace hx486_1 := xC HB hx486_1; replace hx486_2 := xC HB hx486_2; replace hx486_3 := xC HB hx486_3; replace hx486_4 := xC HB hx486_4; replace hx486_5 := xC HB hx486_5; have HR486_5 := Aside0.mk hi486_5; have HC486_5 := Aside0.mk hl486_5; clear hi486_5 hl486_5; replace p486 := eq_true p486; replace q486 := eq_true q486
    go_wp2_with (first | ((with_reducible refine gate_dst (N := 4) rfl ?_); (try (refine gate_guard (by rfl) ?_; dsimp only)); refine bxE 60 (cs := #[.int .i64 0, .int .i64 0, .int .i64 0, .int .i64 0, .int .i64 0, .slice none 0 0]) ?_; intro gb487 hg w7 hbox hb; have BK487 := Aside0.mk hbox; have GW487 := kG HB hg; have GE487 := kG HB hg; replace HB := kH HB hb; clear hb hbox hg; obtain ⟨hcz8_0, hfz8_0⟩ := cY0 BK487; obtain ⟨hcz8_1, hfz8_1⟩ := cY1 BK487; obtain ⟨hcz8_2, hfz8_2⟩ := cY2 BK487; obtain ⟨hcz8_3, hfz8_3⟩ := cY3 BK487; obtain ⟨hcz8_4, hfz8_4⟩ := cY4 BK487; obtain ⟨hcz8_5, hfz8_5⟩ := cY5 BK487))
    go_roundg k1
    case measure => have := HK1.out; omega
    case rel => exact ⟨(wrap64 (x7_1 + 1)), sI, H', ⟨oK HK1⟩, ⟨mH HB⟩⟩
   ·
    rw [if_neg c2] at H; have c2b0 := decide_eq_false c2; clear c2; obtain rfl := Option.some.inj H
    go_wp2
    go_ret
    exact ⟨rT, mH HB⟩
def potsherdref12_Ints.l0 : Nat → List Int → List Int → Int → Int → Option (Bool)
 | 0, _, _, _, _ => none
 | k + 1, x0, x1, x12, x13 => if x13 < x12 then (if 0 ≤ x13 then (if x13 < (x0.length : Int) then (if x13 < (x1.length : Int) then (if (rd x0 x13) = (rd x1 x13) then (potsherdref12_Ints.l0 k x0 x1 x12 (wrap64 (x13 + 1))) else (none)) else (none)) else (none)) else (none)) else (some true)
def potsherdref12_Ints.f (k : Nat) (l0 : List Int) (l1 : List Int) : Option (Bool) := if (l0.length : Int) = (l1.length : Int) then (potsherdref12_Ints.l0 k l0 l1 (l0.length : Int) 0) else (none)
theorem potsherdref12_Ints.mono_l : ∀ k, (∀ y0 y1 y2 y3, LeO (potsherdref12_Ints.l0 k y0 y1 y2 y3) (potsherdref12_Ints.l0 (k + 1) y0 y1 y2 y3))
 | 0 => fun _ _ _ _ r h => by simp [potsherdref12_Ints.l0] at h
 | k + 1 => by
  have ih0 := potsherdref12_Ints.mono_l k
  ·
   intro y0 y1 y2 y3
   unfold potsherdref12_Ints.l0
   repeat' with_reducible first | apply ih0 | exact LeO.refl _ | exact LeO.none _ | refine LeO.ite ?_ ?_ | refine LeO.bind ?_ (fun _ => ?_)
theorem potsherdref12_Ints.mono : ∀ a0 a1 k, LeO (potsherdref12_Ints.f k a0 a1) (potsherdref12_Ints.f (k + 1) a0 a1) := by
 intro a0 a1 k; have ih0 := potsherdref12_Ints.mono_l k
 unfold potsherdref12_Ints.f
 repeat' with_reducible first | apply ih0 | exact LeO.refl _ | exact LeO.none _ | refine LeO.ite ?_ ?_ | refine LeO.bind ?_ (fun _ => ?_)
set_option maxHeartbeats 8000000 in
set_option maxRecDepth 100000 in
theorem potsherdref12_Ints.calls (k : Nat) (A0 : Option Addr) (c0 : Nat) (l0 : List Int) (A1 : Option Addr) (c1 : Nat) (l1 : List Int) (r : Bool) (w : World) (hr0 : Kd.C (Kd.int .i64) w A0 l0.length l0) (hc0 : l0.length ≤ c0) (hr1 : Kd.C (Kd.int .i64) w A1 l1.length l1) (hc1 : l1.length ≤ c1) (h : potsherdref12_Ints.f k l0 l1 = some r) :
 Calls Try.prog 77 #[.slice A0 l0.length c0, .slice A1 l1.length c1] w fun e w' => e = .returned (.bool r) ∧ Drawn0 w w' := by
 have HR0 := Aside0.mk hr0; have HC0 := Aside0.mk hc0; clear hr0 hc0; have HR1 := Aside0.mk hr1; have HC1 := Aside0.mk hc1; clear hr1 hc1; have H : (if (l0.length : Int) = (l1.length : Int) then (potsherdref12_Ints.l0 k l0 l1 (l0.length : Int) 0) else (none)) = some r := h; clear h
 replace H := nP H; obtain ⟨c3, H⟩ := H; obtain ⟨c3b0, c3b1⟩ := eP c3
 have c3b2 : (l0.length == l1.length) = true := by first | simpa using c3 | (simp at c3 ⊢; omega)
 clear c3; have H' := Aside0.mk H; clear H
 go_enter Try.func77, Try.ntmps77
 go_wp2
 repeat (go_quiet (fail); try go_wp2)
 go_loopg [13] k (fun kq v13 w' => ∃ (x13_1 : Int), v13 = .int .i64 x13_1 ∧ Aside0 (potsherdref12_Ints.l0 kq l0 l1 (l0.length : Int) x13_1 = some r) ∧ Aside0 (kq ≤ k) ∧ Drawn0 w w')
 case atStart => exact ⟨(0), sI, H', ⟨Nat.le_refl _⟩, by repeat (first | exact Drawn0.refl _ | apply Drawn0.step)⟩
 case round =>
  clear H'
  (try clear c1); (try clear c3); (try clear c3b0); (try clear c3b1); (try clear c3b2)
  obtain ⟨x13_1, rfl, HA, HK1, ⟨m1, rfl⟩⟩ := hrel
  cases gk with
  | zero => exact absurd HA.out (by simp [potsherdref12_Ints.l0])
  | succ k1 =>
   have H := HA.out; clear HA; simp only [potsherdref12_Ints.l0] at H
   by_cases c4 : x13_1 < (l0.length : Int)
   ·
    rw [if_pos c4] at H; have c4b0 := decide_eq_true c4; clear c4
    replace H := nP H; obtain ⟨c5, H⟩ := H; have c5b0 := decide_eq_true c5; clear c5
    replace H := nP H; obtain ⟨c6, H⟩ := H; have c6b0 := decide_eq_true c6; clear c6
    replace H := nP H; obtain ⟨c7, H⟩ := H; have c7b0 := decide_eq_true c7; clear c7
    replace H := nP H; obtain ⟨c8, H⟩ := H; obtain ⟨c8b0, c8b1⟩ := eP c8; clear c8; have H' := Aside0.mk H; clear H; have p488 : 0 ≤ (x13_1 : Int) := dT; have q488 : x13_1 < (l0.length : Int) := dT; obtain ⟨ad488, e488, hx488_0⟩ := Kd.at_int HR0.out x13_1 p488 q488
    cases e488
    replace p488 := eq_true p488; replace q488 := eq_true q488; have p489 : 0 ≤ (x13_1 : Int) := dT; have q489 : x13_1 < (l1.length : Int) := dT; obtain ⟨ad489, e489, hx489_0⟩ := Kd.at_int HR1.out x13_1 p489 q489
    cases e489
    replace p489 := eq_true p489; replace q489 := eq_true q489
    go_wp2
    repeat (go_quiet (fail); try go_wp2)
    go_roundg k1
    case measure => have := HK1.out; omega
    case rel => exact ⟨(wrap64 (x13_1 + 1)), sI, H', ⟨oK HK1⟩, by repeat (first | exact Drawn0.refl _ | apply Drawn0.step)⟩
   ·
    rw [if_neg c4] at H; have c4b0 := decide_eq_false c4; clear c4; obtain rfl := Option.some.inj H
    go_wp2
    repeat (go_quiet (fail); try go_wp2)
    go_ret
    exact ⟨sI, by repeat (first | exact Drawn0.refl _ | apply Drawn0.step)⟩
def potsherdref12_SameEntries.l0 : Nat → List (S78) → List (S78) → Int → Int → Option (Bool)
 | 0, _, _, _, _ => none
 | k + 1, x0, x1, x12, x13 => if x13 < x12 then (if 0 ≤ x13 then (if x13 < (x0.length : Int) then (if x13 < (x1.length : Int) then (if (!((((rd_T78 x0 x13).f0).toList) == (((rd_T78 x1 x13).f0).toList)) || (!(((rd_T78 x0 x13).f1) == ((rd_T78 x1 x13).f1)))) = true then (none) else (potsherdref12_SameEntries.l0 k x0 x1 x12 (wrap64 (x13 + 1)))) else (none)) else (none)) else (none)) else (some true)
def potsherdref12_SameEntries.f (k : Nat) (l0 : List (S78)) (l1 : List (S78)) : Option (Bool) := if (l0.length : Int) = (l1.length : Int) then (potsherdref12_SameEntries.l0 k l0 l1 (l0.length : Int) 0) else (none)
theorem potsherdref12_SameEntries.mono_l : ∀ k, (∀ y0 y1 y2 y3, LeO (potsherdref12_SameEntries.l0 k y0 y1 y2 y3) (potsherdref12_SameEntries.l0 (k + 1) y0 y1 y2 y3))
 | 0 => fun _ _ _ _ r h => by simp [potsherdref12_SameEntries.l0] at h
 | k + 1 => by
  have ih0 := potsherdref12_SameEntries.mono_l k
  ·
   intro y0 y1 y2 y3
   unfold potsherdref12_SameEntries.l0
   repeat' with_reducible first | apply ih0 | exact LeO.refl _ | exact LeO.none _ | refine LeO.ite ?_ ?_ | refine LeO.bind ?_ (fun _ => ?_)
theorem potsherdref12_SameEntries.mono : ∀ a0 a1 k, LeO (potsherdref12_SameEntries.f k a0 a1) (potsherdref12_SameEntries.f (k + 1) a0 a1) := by
 intro a0 a1 k; have ih0 := potsherdref12_SameEntries.mono_l k
 unfold potsherdref12_SameEntries.f
 repeat' with_reducible first | apply ih0 | exact LeO.refl _ | exact LeO.none _ | refine LeO.ite ?_ ?_ | refine LeO.bind ?_ (fun _ => ?_)
set_option maxHeartbeats 8000000 in
set_option maxRecDepth 100000 in
theorem potsherdref12_SameEntries.calls (k : Nat) (A0 : Option Addr) (c0 : Nat) (l0 : List (S78)) (A1 : Option Addr) (c1 : Nat) (l1 : List (S78)) (r : Bool) (w : World) (hr0 : Kd.C k78 w A0 l0.length l0) (hc0 : l0.length ≤ c0) (hr1 : Kd.C k78 w A1 l1.length l1) (hc1 : l1.length ≤ c1) (h : potsherdref12_SameEntries.f k l0 l1 = some r) :
 Calls Try.prog 78 #[.slice A0 l0.length c0, .slice A1 l1.length c1] w fun e w' => e = .returned (.bool r) ∧ Drawn0 w w' := by
 have hu78 := Try.underlying78; have HR0 := Aside0.mk hr0; have HC0 := Aside0.mk hc0; clear hr0 hc0; have HR1 := Aside0.mk hr1; have HC1 := Aside0.mk hc1; clear hr1 hc1; have H : (if (l0.length : Int) = (l1.length : Int) then (potsherdref12_SameEntries.l0 k l0 l1 (l0.length : Int) 0) else (none)) = some r := h; clear h
 replace H := nP H; obtain ⟨c3, H⟩ := H; obtain ⟨c3b0, c3b1⟩ := eP c3
 have c3b2 : (l0.length == l1.length) = true := by first | simpa using c3 | (simp at c3 ⊢; omega)
 clear c3; have H' := Aside0.mk H; clear H
 go_enter Try.func78, Try.ntmps78
 go_wp2
 repeat (go_quiet (fail); try go_wp2)
 go_loopg [13] k (fun kq v13 w' => ∃ (x13_1 : Int), v13 = .int .i64 x13_1 ∧ Aside0 (potsherdref12_SameEntries.l0 kq l0 l1 (l0.length : Int) x13_1 = some r) ∧ Aside0 (kq ≤ k) ∧ Drawn0 w w')
 case atStart => exact ⟨(0), sI, H', ⟨Nat.le_refl _⟩, by repeat (first | exact Drawn0.refl _ | apply Drawn0.step)⟩
 case round =>
  clear H'
  (try clear c1); (try clear c3); (try clear c3b0); (try clear c3b1); (try clear c3b2)
  obtain ⟨x13_1, rfl, HA, HK1, ⟨m1, rfl⟩⟩ := hrel
  cases gk with
  | zero => exact absurd HA.out (by simp [potsherdref12_SameEntries.l0])
  | succ k1 =>
   have H := HA.out; clear HA; simp only [potsherdref12_SameEntries.l0] at H
   by_cases c4 : x13_1 < (l0.length : Int)
   ·
    rw [if_pos c4] at H; have c4b0 := decide_eq_true c4; clear c4
    replace H := nP H; obtain ⟨c5, H⟩ := H; have c5b0 := decide_eq_true c5; clear c5
    replace H := nP H; obtain ⟨c6, H⟩ := H; have c6b0 := decide_eq_true c6; clear c6
    replace H := nP H; obtain ⟨c7, H⟩ := H; have c7b0 := decide_eq_true c7; clear c7
    replace H := nQ H; obtain ⟨c8, H⟩ := H
    have c8b0 : (!((((rd_T78 l0 x13_1).f0).toList) == (((rd_T78 l1 x13_1).f0).toList)) || (!(((rd_T78 l0 x13_1).f1) == ((rd_T78 l1 x13_1).f1)))) = false := by simpa using c8
    clear c8; have H' := Aside0.mk H; clear H; have p490 : 0 ≤ (x13_1 : Int) := dT; have q490 : x13_1 < (l0.length : Int) := dT; obtain ⟨ad490, e490, hx490_0, hx490_1⟩ := at_T78 HR0.out x13_1 p490 q490
    cases e490
    replace p490 := eq_true p490; replace q490 := eq_true q490; have p491 : 0 ≤ (x13_1 : Int) := dT; have q491 : x13_1 < (l1.length : Int) := dT; obtain ⟨ad491, e491, hx491_0, hx491_1⟩ := at_T78 HR1.out x13_1 p491 q491
    cases e491
    replace p491 := eq_true p491; replace q491 := eq_true q491
    go_wp2
    repeat (go_quiet (fail); try go_wp2)
    go_roundg k1
    case measure => have := HK1.out; omega
    case rel => exact ⟨(wrap64 (x13_1 + 1)), sI, H', ⟨oK HK1⟩, by repeat (first | exact Drawn0.refl _ | apply Drawn0.step)⟩
   ·
    rw [if_neg c4] at H; have c4b0 := decide_eq_false c4; clear c4; obtain rfl := Option.some.inj H
    go_wp2
    repeat (go_quiet (fail); try go_wp2)
    go_ret
    exact ⟨sI, by repeat (first | exact Drawn0.refl _ | apply Drawn0.step)⟩
def potsherdref12_SameNode.f (k : Nat) (a0_0 : Int) (a0_1 : Int) (a0_2 : Int) (l0_3 : List Int) (l0_4 : List (S78)) (a1_0 : Int) (a1_1 : Int) (a1_2 : Int) (l1_3 : List Int) (l1_4 : List (S78)) : Option (Bool) := if a0_0 = a1_0 then (if a0_1 = a1_1 then (if a0_2 = a1_2 then ((potsherdref12_Ints.f k l0_3 l1_3).bind fun t494 => (if t494 = true then ((potsherdref12_SameEntries.f k l0_4 l1_4).bind fun t495 => (some t495)) else (none))) else (none)) else (none)) else (none)
theorem potsherdref12_SameNode.mono : ∀ a0 a1 a2 a3 a4 a5 a6 a7 a8 a9 k, LeO (potsherdref12_SameNode.f k a0 a1 a2 a3 a4 a5 a6 a7 a8 a9) (potsherdref12_SameNode.f (k + 1) a0 a1 a2 a3 a4 a5 a6 a7 a8 a9) := by
 intro a0 a1 a2 a3 a4 a5 a6 a7 a8 a9 k
 unfold potsherdref12_SameNode.f
 repeat' with_reducible first | apply potsherdref12_Ints.mono | apply potsherdref12_SameEntries.mono | exact LeO.refl _ | exact LeO.none _ | refine LeO.ite ?_ ?_ | refine LeO.bind ?_ (fun _ => ?_)
set_option maxHeartbeats 8000000 in
set_option maxRecDepth 100000 in
theorem potsherdref12_SameNode.calls (k : Nat) (a0_0 : Int) (a0_1 : Int) (a0_2 : Int) (A0_3 : Option Addr) (c0_3 : Nat) (l0_3 : List Int) (A0_4 : Option Addr) (c0_4 : Nat) (l0_4 : List (S78)) (a1_0 : Int) (a1_1 : Int) (a1_2 : Int) (A1_3 : Option Addr) (c1_3 : Nat) (l1_3 : List Int) (A1_4 : Option Addr) (c1_4 : Nat) (l1_4 : List (S78)) (r : Bool) (w : World) (hr0_3 : Kd.C (Kd.int .i64) w A0_3 l0_3.length l0_3) (hc0_3 : l0_3.length ≤ c0_3) (hr0_4 : Kd.C k78 w A0_4 l0_4.length l0_4) (hc0_4 : l0_4.length ≤ c0_4) (hr1_3 : Kd.C (Kd.int .i64) w A1_3 l1_3.length l1_3) (hc1_3 : l1_3.length ≤ c1_3) (hr1_4 : Kd.C k78 w A1_4 l1_4.length l1_4) (hc1_4 : l1_4.length ≤ c1_4) (h : potsherdref12_SameNode.f k a0_0 a0_1 a0_2 l0_3 l0_4 a1_0 a1_1 a1_2 l1_3 l1_4 = some r) :
 Calls Try.prog 60 #[.agg #[.int .i64 a0_0, .int .i64 a0_1, .int .i64 a0_2, .slice A0_3 l0_3.length c0_3, .slice A0_4 l0_4.length c0_4], .agg #[.int .i64 a1_0, .int .i64 a1_1, .int .i64 a1_2, .slice A1_3 l1_3.length c1_3, .slice A1_4 l1_4.length c1_4]] w fun e w' => e = .returned (.bool r) ∧ Below w.heap.size w w' := by
 have hu28 := Try.underlying28; have HR0_3 := Aside0.mk hr0_3; have HC0_3 := Aside0.mk hc0_3; clear hr0_3 hc0_3; have HR0_4 := Aside0.mk hr0_4; have HC0_4 := Aside0.mk hc0_4; clear hr0_4 hc0_4; have HR1_3 := Aside0.mk hr1_3; have HC1_3 := Aside0.mk hc1_3; clear hr1_3 hc1_3; have HR1_4 := Aside0.mk hr1_4; have HC1_4 := Aside0.mk hc1_4; clear hr1_4 hc1_4; have HB := Aside0.mk (Below.refl w.heap.size w); have H : (if a0_0 = a1_0 then (if a0_1 = a1_1 then (if a0_2 = a1_2 then ((potsherdref12_Ints.f k l0_3 l1_3).bind fun t494 => (if t494 = true then ((potsherdref12_SameEntries.f k l0_4 l1_4).bind fun t495 => (some t495)) else (none))) else (none)) else (none)) else (none)) = some r := h; clear h
 replace H := nP H; obtain ⟨c3, H⟩ := H; obtain ⟨c3b0, c3b1⟩ := eP c3; clear c3
 replace H := nP H; obtain ⟨c4, H⟩ := H; obtain ⟨c4b0, c4b1⟩ := eP c4; clear c4
 replace H := nP H; obtain ⟨c5, H⟩ := H; obtain ⟨c5b0, c5b1⟩ := eP c5; clear c5; replace H := Option.bind_eq_some_iff.mp H; obtain ⟨t494, A60, H⟩ := H; have A6 := Aside0.mk A60; clear A60
 by_cases c7 : t494 = true
 ·
  subst c7
  have H1 : ((potsherdref12_SameEntries.f k l0_4 l1_4).bind fun t495 => (some t495)) = some r := by rw [if_pos rfl] at H; exact H
  clear H; have H := H1; clear H1; replace H := Option.bind_eq_some_iff.mp H; obtain ⟨t495, A80, H⟩ := H; have A8 := Aside0.mk A80; clear A80; obtain rfl := Option.some.inj H
  go_enter Try.func60, Try.ntmps60
  go_wp2_with (first | ((with_reducible refine gate_dst (N := 2) rfl ?_); refine bxE 28 (cs := #[.int .i64 a0_0, .int .i64 a0_1, .int .i64 a0_2, .slice A0_3 l0_3.length c0_3, .slice A0_4 l0_4.length c0_4]) ?_; intro gb492 hg w9 hbox hb; have BK492 := Aside0.mk hbox; have GW492 := kG HB hg; have GE492 := kG HB hg; replace HB := kH HB hb; clear hb hbox hg) | ((with_reducible refine gate_dst (N := 3) rfl ?_); refine bxE 28 (cs := #[.int .i64 a1_0, .int .i64 a1_1, .int .i64 a1_2, .slice A1_3 l1_3.length c1_3, .slice A1_4 l1_4.length c1_4]) ?_; intro gb493 hg w10 hbox hb; have BK493 := Aside0.mk hbox; have GW493 := kG HB hg; have GE493 := kG HB hg; replace HB := kH HB hb; have NB492_493 := kL BK492 hg; have NB493_492 := kQ BK492 hg; replace BK492 := kB BK492 hb; clear hb hbox hg; have hnb11 := NB492_493.out; have hnc11 := NB493_492.out; obtain ⟨hcz12_0, hfz12_0⟩ := cY0 BK492; obtain ⟨hcz12_1, hfz12_1⟩ := cY1 BK492; obtain ⟨hcz12_2, hfz12_2⟩ := cY2 BK492; obtain ⟨hcz12_3, hfz12_3⟩ := cY3 BK492; obtain ⟨hcz12_4, hfz12_4⟩ := cY4 BK492; obtain ⟨hcz13_0, hfz13_0⟩ := cY0 BK493; obtain ⟨hcz13_1, hfz13_1⟩ := cY1 BK493; obtain ⟨hcz13_2, hfz13_2⟩ := cY2 BK493; obtain ⟨hcz13_3, hfz13_3⟩ := cY3 BK493; obtain ⟨hcz13_4, hfz13_4⟩ := cY4 BK493) | (go_at_call 77; (with_reducible refine (potsherdref12_Ints.calls k _ _ l0_3 _ _ l1_3 true _ ?side1 ?side2 ?side3 ?side4 A6.out).mono ?_); (case side1 => exact mC HR0_3 HB); (case side2 => exact HC0_3.out); (case side3 => exact mC HR1_3 HB); (case side4 => exact HC1_3.out); rintro e w' ⟨rfl, ⟨nd, rfl⟩⟩) | (go_at_call 78; (with_reducible refine (potsherdref12_SameEntries.calls k _ _ l0_4 _ _ l1_4 t495 _ ?side1 ?side2 ?side3 ?side4 A8.out).mono ?_); (case side1 => repeat (first | exact (Kd.C_below HR0_4.out (mH HB)) | (with_reducible refine Kd.C_alloc ?_ _) | (with_reducible refine Kd.C_drewN ?_ _) | (with_reducible refine Kd.C_drew ?_))); (case side2 => exact HC0_4.out); (case side3 => repeat (first | exact (Kd.C_below HR1_4.out (mH HB)) | (with_reducible refine Kd.C_alloc ?_ _) | (with_reducible refine Kd.C_drewN ?_ _) | (with_reducible refine Kd.C_drew ?_))); (case side4 => exact HC1_4.out); rintro e w' ⟨rfl, ⟨nd, rfl⟩⟩))
  go_ret
  exact ⟨rT, mH HB⟩
 ·
  replace c7 := Bool.eq_false_iff.mpr c7; subst c7
  have H1 : (none) = some r := by rw [if_neg (show ¬ (false = true) by decide)] at H; exact H
  clear H; have H := H1; clear H1; exact absurd H (by simp)
end Go.Proofs.Ytkigiehkckjlhaa.PDone
