/- The Go functions that these laws reach, each as a Lean function with the same answers (a law itself where it answers true), and the proof that the code comes to them; conditions: those of each theorem. Laid by a program of this session over the print. -/
import Derived.Test.YtkigiehkckjlhaaZReadsPReadsShort
import Derived.Test.YtkigiehkckjlhaaZReadsPReadsx0
namespace Go.Proofs.Ytkigiehkckjlhaa.PReads
open Go.RowKit Go.Proofs.YtkigiehkckjlhaaW.PrintWords Go.Proofs.YtkigiehkckjlhaaW.PrintLast Go.Proofs.YtkigiehkckjlhaaW.PrintMore
attribute [local go_sem] max2_int min2_int max_two min_two max_three min_three max_four min_four   -- for this text's walks alone
set_option linter.unusedVariables false
set_option linter.unusedSimpArgs false
open Go.Proofs.YtkigiehkckjlhaaW.PrintWords renaming blk_drewN → bN, blk_drew → bD, blk_alloc → bA, below_set → wS, below_alloc → wA, pw_below_drewN → wN, below_drew1 → wD, blk_below → bB, blk_far → bF, blk_cell → bC, blk_frozen → bZ
open List renaming setIfInBounds_toArray → lT, set_cons_zero → l0_, set_cons_succ → lS
def node_within.f (a0 : Int) (a1 : Int) : Option (Bool) := if a0 ≥ 0 then (some (decide (a0 ≤ a1))) else (some false)
set_option maxHeartbeats 8000000 in
set_option maxRecDepth 100000 in
theorem node_within.calls (a0 : Int) (a1 : Int) (r : Bool) (w : World) (h : node_within.f a0 a1 = some r) :
 Calls Try.prog 81 #[.int .i64 a0, .int .i64 a1] w fun e w' => e = .returned (.bool r) ∧ Drawn0 w w' := by
 have H : (if a0 ≥ 0 then (some (decide (a0 ≤ a1))) else (some false)) = some r := h; clear h
 by_cases c3 : a0 ≥ 0
 ·
  rw [if_pos c3] at H; have c3b0 : decide (0 ≤ a0) = true := qT c3; clear c3; obtain rfl := qI H
  go_enter Try.func81, Try.ntmps81
  go_wp2
  go_ret
  exact ⟨sI, by repeat (first | exact Drawn0.refl _ | apply Drawn0.step)⟩
 ·
  rw [if_neg c3] at H; have c3b0 : decide (0 ≤ a0) = false := qF c3; clear c3; obtain rfl := qI H
  go_enter Try.func81, Try.ntmps81
  go_wp2
  go_ret
  exact ⟨sI, by repeat (first | exact Drawn0.refl _ | apply Drawn0.step)⟩
mutual
def node_file.j0 : Nat → Bool → Int → Int → Int → List Int → List (S78) → Option (Bool)
 | 0, _, _, _, _, _, _ => none
 | k + 1, x26, x139000, x139001, x139002, x139003, x139004 => if x26 = true then (some false) else (node_file.l0 k x139003 (x139003.length : Int) 0 x139000 x139001 x139002 x139003 x139004)
def node_file.l0 : Nat → List Int → Int → Int → Int → Int → Int → List Int → List (S78) → Option (Bool)
 | 0, _, _, _, _, _, _, _, _ => none
 | k + 1, x28, x29, x30, x139000, x139001, x139002, x139003, x139004 => if x30 < x29 then (if 0 ≤ x30 then (if x30 < (x28.length : Int) then ((node_within.f (rd x28 x30) 1099511627776).bind fun t142 => (if t142 = true then (if (wrap64 (x30 * 16)) ≥ x139002 then (if (rd x28 x30) = 0 then (node_file.l0 k x28 x29 (wrap64 (x30 + 1)) x139000 x139001 x139002 x139003 x139004) else (some false)) else (node_file.l0 k x28 x29 (wrap64 (x30 + 1)) x139000 x139001 x139002 x139003 x139004)) else (some false))) else (none)) else (none)) else (some true)
end
def node_file.f (k : Nat) (a0_0 : Int) (a0_1 : Int) (a0_2 : Int) (l0_3 : List Int) (l0_4 : List (S78)) : Option (Bool) := (node_within.f a0_1 120).bind fun t139 => (if t139 = true then ((node_within.f a0_2 80).bind fun t140 => (if t140 = true then (if (l0_3.length : Int) = 5 then (node_file.j0 k (decide ((l0_4.length : Int) > 0)) a0_0 a0_1 a0_2 l0_3 l0_4) else (node_file.j0 k true a0_0 a0_1 a0_2 l0_3 l0_4)) else (node_file.j0 k true a0_0 a0_1 a0_2 l0_3 l0_4))) else (node_file.j0 k true a0_0 a0_1 a0_2 l0_3 l0_4))
theorem node_file.mono_l : ∀ k, (∀ y0 y1 y2 y3 y4 y5, LeO (node_file.j0 k y0 y1 y2 y3 y4 y5) (node_file.j0 (k + 1) y0 y1 y2 y3 y4 y5)) ∧ (∀ y0 y1 y2 y3 y4 y5 y6 y7, LeO (node_file.l0 k y0 y1 y2 y3 y4 y5 y6 y7) (node_file.l0 (k + 1) y0 y1 y2 y3 y4 y5 y6 y7))
 | 0 => ⟨fun _ _ _ _ _ _ r h => by simp [node_file.j0] at h, fun _ _ _ _ _ _ _ _ r h => by simp [node_file.l0] at h⟩
 | k + 1 => by
  obtain ⟨ih0, ih1⟩ := node_file.mono_l k; refine ⟨?_, ?_⟩
  ·
   intro y0 y1 y2 y3 y4 y5
   unfold node_file.j0
   repeat' with_reducible first | apply ih0 | apply ih1 | exact LeO.refl _ | exact LeO.none _ | refine LeO.ite ?_ ?_ | refine LeO.bind ?_ (fun _ => ?_)
  ·
   intro y0 y1 y2 y3 y4 y5 y6 y7
   unfold node_file.l0
   repeat' with_reducible first | apply ih0 | apply ih1 | exact LeO.refl _ | exact LeO.none _ | refine LeO.ite ?_ ?_ | refine LeO.bind ?_ (fun _ => ?_)
theorem node_file.mono : ∀ a0 a1 a2 a3 a4 k, LeO (node_file.f k a0 a1 a2 a3 a4) (node_file.f (k + 1) a0 a1 a2 a3 a4) := by
 intro a0 a1 a2 a3 a4 k; obtain ⟨ih0, ih1⟩ := node_file.mono_l k
 unfold node_file.f
 repeat' with_reducible first | apply ih0 | apply ih1 | exact LeO.refl _ | exact LeO.none _ | refine LeO.ite ?_ ?_ | refine LeO.bind ?_ (fun _ => ?_)
set_option maxHeartbeats 8000000 in
set_option maxRecDepth 100000 in
theorem node_file.calls (k : Nat) (a0_0 : Int) (a0_1 : Int) (a0_2 : Int) (A0_3 : Option Addr) (c0_3 : Nat) (l0_3 : List Int) (A0_4 : Option Addr) (c0_4 : Nat) (l0_4 : List (S78)) (r : Bool) (w : World) (hr0_3 : Kd.C (Kd.int .i64) w A0_3 l0_3.length l0_3) (hc0_3 : l0_3.length ≤ c0_3) (hr0_4 : Kd.C k78 w A0_4 l0_4.length l0_4) (hc0_4 : l0_4.length ≤ c0_4) (h : node_file.f k a0_0 a0_1 a0_2 l0_3 l0_4 = some r) :
 Calls Try.prog 67 #[.agg #[.int .i64 a0_0, .int .i64 a0_1, .int .i64 a0_2, .slice A0_3 l0_3.length c0_3, .slice A0_4 l0_4.length c0_4]] w fun e w' => e = .returned (.bool r) ∧ Below w.heap.size w w' := by
 have hu28 := Try.underlying28; have HR0_3 := kA hr0_3; have HC0_3 := kA hc0_3; clear hr0_3 hc0_3; have HR0_4 := kA hr0_4; have HC0_4 := kA hc0_4; clear hr0_4 hc0_4; have HB := kA (Below.refl w.heap.size w); have H : ((node_within.f a0_1 120).bind fun t139 => (if t139 = true then ((node_within.f a0_2 80).bind fun t140 => (if t140 = true then (if (l0_3.length : Int) = 5 then (node_file.j0 k (decide ((l0_4.length : Int) > 0)) a0_0 a0_1 a0_2 l0_3 l0_4) else (node_file.j0 k true a0_0 a0_1 a0_2 l0_3 l0_4)) else (node_file.j0 k true a0_0 a0_1 a0_2 l0_3 l0_4))) else (node_file.j0 k true a0_0 a0_1 a0_2 l0_3 l0_4))) = some r := h; clear h; have HC2 := kA H; clear H
 go_enter Try.func67, Try.ntmps67
 go_upto_region 1 with (first | ((with_reducible refine gate_dst (N := 1) rfl ?_); (try (refine gate_guard (by rfl) ?_; dsimp only)); refine bxE 28 (cs := #[.int .i64 a0_0, .int .i64 a0_1, .int .i64 a0_2, .slice A0_3 l0_3.length c0_3, .slice A0_4 l0_4.length c0_4]) ?_; intro gb138 hg w3 hbox hb; have BK138 := kA hbox; have GW138 := kG HB hg; have GE138 := kG HB hg; replace HB := kH HB hb; clear hb hbox hg))
 (try simp only [Act.put, lT, l0_, lS])
 go_cut [26] (fun v26 wc => ∃ (kq : Nat) (x26_1 : Bool), v26 = .bool x26_1 ∧ Aside0 (node_file.j0 kq x26_1 a0_0 a0_1 a0_2 l0_3 l0_4 = some r) ∧ Aside0 (kq ≤ k) ∧ Aside0 (wc.heap[gb138]? = some (.cells #[.int .i64 a0_0, .int .i64 a0_1, .int .i64 a0_2, (.slice A0_3 l0_3.length c0_3), (.slice A0_4 l0_4.length c0_4)] 28 (0, 0))) ∧ Aside0 (Below w.heap.size w wc))
 case first =>
  have H := HC2.out; clear HC2; replace H := qB H; obtain ⟨t139, A40, H⟩ := H; have A4 := kA A40; clear A40
  by_cases c5 : t139 = true
  ·
   subst c5
   have H1 : ((node_within.f a0_2 80).bind fun t140 => (if t140 = true then (if (l0_3.length : Int) = 5 then (node_file.j0 k (decide ((l0_4.length : Int) > 0)) a0_0 a0_1 a0_2 l0_3 l0_4) else (node_file.j0 k true a0_0 a0_1 a0_2 l0_3 l0_4)) else (node_file.j0 k true a0_0 a0_1 a0_2 l0_3 l0_4))) = some r := by rw [if_pos rfl] at H; exact H
   clear H; have H := H1; clear H1; replace H := qB H; obtain ⟨t140, A60, H⟩ := H; have A6 := kA A60; clear A60
   by_cases c7 : t140 = true
   ·
    subst c7
    have H1 : (if (l0_3.length : Int) = 5 then (node_file.j0 k (decide ((l0_4.length : Int) > 0)) a0_0 a0_1 a0_2 l0_3 l0_4) else (node_file.j0 k true a0_0 a0_1 a0_2 l0_3 l0_4)) = some r := by rw [if_pos rfl] at H; exact H
    clear H; have H := H1; clear H1
    by_cases c8 : (l0_3.length : Int) = 5
    ·
     rw [if_pos c8] at H; obtain ⟨c8b0, c8b1⟩ := eP c8; clear c8
     (first | rw [c8b0] | (simp only [i64_w, i32_w]; rw [c8b0]) | skip)
     have H' := kA H; clear H; obtain ⟨hcz9_0, hfz9_0⟩ := cY0 BK138; obtain ⟨hcz9_1, hfz9_1⟩ := cY1 BK138; obtain ⟨hcz9_2, hfz9_2⟩ := cY2 BK138; obtain ⟨hcz9_3, hfz9_3⟩ := cY3 BK138; obtain ⟨hcz9_4, hfz9_4⟩ := cY4 BK138
     go_wp2_with (first | ((with_reducible refine gate_callee (f := 81) rfl ?_); refine goesK (some 7) Try.func81 #[.int .i64 a0_1, .int .i64 120] ?_; (with_reducible refine (node_within.calls a0_1 120 true _ A4.out).mono ?_); rintro e w' ⟨rfl, ⟨nd, rfl⟩⟩; refine ⟨_, rfl, ?_⟩) | (go_at_call 81; (with_reducible refine (node_within.calls a0_2 80 true _ A6.out).mono ?_); rintro e w' ⟨rfl, ⟨nd, rfl⟩⟩))
     go_meet
     case rel => exact ⟨_, (decide ((l0_4.length : Int) > 0)), sI, H', ⟨by first | omega | exact Nat.le_refl _⟩, ⟨mB BK138⟩, ⟨mH HB⟩⟩
    ·
     rw [if_neg c8] at H; obtain ⟨c8b0, c8b1⟩ := eN c8
     (first | rw [c8b0] | (simp only [i64_w, i32_w]; rw [c8b0]) | skip)
     have H' := kA H; clear H; obtain ⟨hcz10_0, hfz10_0⟩ := cY0 BK138; obtain ⟨hcz10_1, hfz10_1⟩ := cY1 BK138; obtain ⟨hcz10_2, hfz10_2⟩ := cY2 BK138; obtain ⟨hcz10_3, hfz10_3⟩ := cY3 BK138; obtain ⟨hcz10_4, hfz10_4⟩ := cY4 BK138
     go_wp2_with (first | ((with_reducible refine gate_callee (f := 81) rfl ?_); refine goesK (some 7) Try.func81 #[.int .i64 a0_1, .int .i64 120] ?_; (with_reducible refine (node_within.calls a0_1 120 true _ A4.out).mono ?_); rintro e w' ⟨rfl, ⟨nd, rfl⟩⟩; refine ⟨_, rfl, ?_⟩) | (go_at_call 81; (with_reducible refine (node_within.calls a0_2 80 true _ A6.out).mono ?_); rintro e w' ⟨rfl, ⟨nd, rfl⟩⟩))
     go_meet
     case rel => exact ⟨_, (true), sI, H', ⟨by first | omega | exact Nat.le_refl _⟩, ⟨mB BK138⟩, ⟨mH HB⟩⟩
   ·
    replace c7 := Bool.eq_false_iff.mpr c7; subst c7
    have H1 : (node_file.j0 k true a0_0 a0_1 a0_2 l0_3 l0_4) = some r := by rw [if_neg (show ¬ (false = true) by decide)] at H; exact H
    clear H; have H := H1; clear H1; have H' := kA H; clear H; obtain ⟨hcz11_0, hfz11_0⟩ := cY0 BK138; obtain ⟨hcz11_1, hfz11_1⟩ := cY1 BK138; obtain ⟨hcz11_2, hfz11_2⟩ := cY2 BK138; obtain ⟨hcz11_3, hfz11_3⟩ := cY3 BK138; obtain ⟨hcz11_4, hfz11_4⟩ := cY4 BK138
    go_wp2_with (first | ((with_reducible refine gate_callee (f := 81) rfl ?_); refine goesK (some 7) Try.func81 #[.int .i64 a0_1, .int .i64 120] ?_; (with_reducible refine (node_within.calls a0_1 120 true _ A4.out).mono ?_); rintro e w' ⟨rfl, ⟨nd, rfl⟩⟩; refine ⟨_, rfl, ?_⟩) | (go_at_call 81; (with_reducible refine (node_within.calls a0_2 80 false _ A6.out).mono ?_); rintro e w' ⟨rfl, ⟨nd, rfl⟩⟩))
    go_meet
    case rel => exact ⟨_, (true), sI, H', ⟨by first | omega | exact Nat.le_refl _⟩, ⟨mB BK138⟩, ⟨mH HB⟩⟩
  ·
   replace c5 := Bool.eq_false_iff.mpr c5; subst c5
   have H1 : (node_file.j0 k true a0_0 a0_1 a0_2 l0_3 l0_4) = some r := by rw [if_neg (show ¬ (false = true) by decide)] at H; exact H
   clear H; have H := H1; clear H1; have H' := kA H; clear H; obtain ⟨hcz12_0, hfz12_0⟩ := cY0 BK138; obtain ⟨hcz12_1, hfz12_1⟩ := cY1 BK138; obtain ⟨hcz12_2, hfz12_2⟩ := cY2 BK138; obtain ⟨hcz12_3, hfz12_3⟩ := cY3 BK138; obtain ⟨hcz12_4, hfz12_4⟩ := cY4 BK138
   go_wp2_with (first | ((with_reducible refine gate_callee (f := 81) rfl ?_); refine goesK (some 7) Try.func81 #[.int .i64 a0_1, .int .i64 120] ?_; (with_reducible refine (node_within.calls a0_1 120 false _ A4.out).mono ?_); rintro e w' ⟨rfl, ⟨nd, rfl⟩⟩; refine ⟨_, rfl, ?_⟩))
   go_meet
   case rel => exact ⟨_, (true), sI, H', ⟨by first | omega | exact Nat.le_refl _⟩, ⟨mB BK138⟩, ⟨mH HB⟩⟩
 case rest =>
  clear HC2
  obtain ⟨kq, x26_1, rfl, HA, HJ1, BK138, HB⟩ := hcut
  cases kq with
  | zero => exact absurd HA.out (by simp [node_file.j0])
  | succ kj1 =>
   have H := HA.out; clear HA; simp only [node_file.j0] at H
   by_cases c13 : x26_1 = true
   ·
    subst c13
    have H1 : (some false) = some r := by rw [if_pos rfl] at H; exact H
    clear H; have H := H1; clear H1; obtain rfl := qI H
    go_wp2
    go_ret
    exact ⟨rT, mH HB⟩
   ·
    replace c13 := Bool.eq_false_iff.mpr c13; subst c13
    have H1 : (node_file.l0 kj1 l0_3 (l0_3.length : Int) 0 a0_0 a0_1 a0_2 l0_3 l0_4) = some r := by rw [if_neg (show ¬ (false = true) by decide)] at H; exact H
    clear H; have H := H1; clear H1; have H' := kA H; clear H; obtain ⟨hcz14_0, hfz14_0⟩ := cY0 BK138; obtain ⟨hcz14_1, hfz14_1⟩ := cY1 BK138; obtain ⟨hcz14_2, hfz14_2⟩ := cY2 BK138; obtain ⟨hcz14_3, hfz14_3⟩ := cY3 BK138; obtain ⟨hcz14_4, hfz14_4⟩ := cY4 BK138
    go_wp2
    go_loopg [30] kj1 (fun kq v30 w' => ∃ (x30_2 : Int), v30 = .int .i64 x30_2 ∧ Aside0 (node_file.l0 kq l0_3 (l0_3.length : Int) x30_2 a0_0 a0_1 a0_2 l0_3 l0_4 = some r) ∧ Aside0 (kq ≤ kj1) ∧ Aside0 (w'.heap[gb138]? = some (.cells #[.int .i64 a0_0, .int .i64 a0_1, .int .i64 a0_2, (.slice A0_3 l0_3.length c0_3), (.slice A0_4 l0_4.length c0_4)] 28 (0, 0))) ∧ Aside0 (Below w.heap.size w w'))
    case atStart => exact ⟨(0), sI, H', ⟨Nat.le_refl _⟩, ⟨mB BK138⟩, ⟨mH HB⟩⟩
    case round =>
     clear H'
     (try clear c13); (try clear hcz14_0); (try clear hcz14_1); (try clear hcz14_2); (try clear hcz14_3); (try clear hcz14_4); (try clear hfz14_0); (try clear hfz14_1); (try clear hfz14_2); (try clear hfz14_3); (try clear hfz14_4)
     obtain ⟨x30_2, rfl, HA, HK2, BK138, HB⟩ := hrel
     cases gk with
     | zero => exact absurd HA.out (by simp [node_file.l0])
     | succ k2 =>
      have H := HA.out; clear HA; simp only [node_file.l0] at H
      by_cases c15 : x30_2 < (l0_3.length : Int)
      ·
       rw [if_pos c15] at H; have c15b0 := qT c15; clear c15
       replace H := nP H; obtain ⟨c16, H⟩ := H; have c16b0 := qT c16; clear c16
       replace H := nP H; obtain ⟨c17, H⟩ := H; have c17b0 := qT c17; clear c17; replace H := qB H; obtain ⟨t142, A180, H⟩ := H; have A18 := kA A180; clear A180
       by_cases c19 : t142 = true
       ·
        subst c19
        have H1 : (if (wrap64 (x30_2 * 16)) ≥ a0_2 then (if (rd l0_3 x30_2) = 0 then (node_file.l0 k2 l0_3 (l0_3.length : Int) (wrap64 (x30_2 + 1)) a0_0 a0_1 a0_2 l0_3 l0_4) else (some false)) else (node_file.l0 k2 l0_3 (l0_3.length : Int) (wrap64 (x30_2 + 1)) a0_0 a0_1 a0_2 l0_3 l0_4)) = some r := by rw [if_pos rfl] at H; exact H
        clear H; have H := H1; clear H1
        by_cases c20 : (wrap64 (x30_2 * 16)) ≥ a0_2
        ·
         rw [if_pos c20] at H; have c20b0 : decide (a0_2 ≤ (wrap64 (x30_2 * 16))) = true := qT c20; clear c20
         by_cases c21 : (rd l0_3 x30_2) = 0
         ·
          rw [if_pos c21] at H; obtain ⟨c21b0, c21b1⟩ := eP c21; clear c21; have H' := kA H; clear H; have p141 : 0 ≤ (x30_2 : Int) := dT; have q141 : x30_2 < (l0_3.length : Int) := dT; obtain ⟨ad141, e141, hx141_0⟩ := Kd.at_int HR0_3.out x30_2 p141 q141
          cases e141
          replace hx141_0 := xC HB hx141_0; replace p141 := eq_true p141; replace q141 := eq_true q141
          go_wp2_with (first | ((with_reducible refine gate_callee (f := 81) rfl ?_); refine goesK (some 36) Try.func81 #[.int .i64 (rd l0_3 x30_2), .int .i64 1099511627776] ?_; (with_reducible refine (node_within.calls (rd l0_3 x30_2) 1099511627776 true _ A18.out).mono ?_); rintro e w' ⟨rfl, ⟨nd, rfl⟩⟩; refine ⟨_, rfl, ?_⟩; obtain ⟨hcz22_0, hfz22_0⟩ := cY0 BK138; obtain ⟨hcz22_1, hfz22_1⟩ := cY1 BK138; obtain ⟨hcz22_2, hfz22_2⟩ := cY2 BK138; obtain ⟨hcz22_3, hfz22_3⟩ := cY3 BK138; obtain ⟨hcz22_4, hfz22_4⟩ := cY4 BK138))
          go_roundg k2
          case measure => have := HJ1.out; have := HK2.out; omega
          case rel => exact ⟨(wrap64 (x30_2 + 1)), sI, H', ⟨oM HJ1 HK2⟩, ⟨mB BK138⟩, ⟨mH HB⟩⟩
         ·
          rw [if_neg c21] at H; obtain ⟨c21b0, c21b1⟩ := eN c21; obtain rfl := qI H; have p141 : 0 ≤ (x30_2 : Int) := dT; have q141 : x30_2 < (l0_3.length : Int) := dT; obtain ⟨ad141, e141, hx141_0⟩ := Kd.at_int HR0_3.out x30_2 p141 q141
          cases e141
          replace hx141_0 := xC HB hx141_0; replace p141 := eq_true p141; replace q141 := eq_true q141
          go_wp2_with (first | ((with_reducible refine gate_callee (f := 81) rfl ?_); refine goesK (some 36) Try.func81 #[.int .i64 (rd l0_3 x30_2), .int .i64 1099511627776] ?_; (with_reducible refine (node_within.calls (rd l0_3 x30_2) 1099511627776 true _ A18.out).mono ?_); rintro e w' ⟨rfl, ⟨nd, rfl⟩⟩; refine ⟨_, rfl, ?_⟩; obtain ⟨hcz23_0, hfz23_0⟩ := cY0 BK138; obtain ⟨hcz23_1, hfz23_1⟩ := cY1 BK138; obtain ⟨hcz23_2, hfz23_2⟩ := cY2 BK138; obtain ⟨hcz23_3, hfz23_3⟩ := cY3 BK138; obtain ⟨hcz23_4, hfz23_4⟩ := cY4 BK138))
          go_ret
          exact ⟨rT, mH HB⟩
        ·
         rw [if_neg c20] at H; have c20b0 : decide (a0_2 ≤ (wrap64 (x30_2 * 16))) = false := qF c20; clear c20; have H' := kA H; clear H; have p141 : 0 ≤ (x30_2 : Int) := dT; have q141 : x30_2 < (l0_3.length : Int) := dT; obtain ⟨ad141, e141, hx141_0⟩ := Kd.at_int HR0_3.out x30_2 p141 q141
         cases e141
         replace hx141_0 := xC HB hx141_0; replace p141 := eq_true p141; replace q141 := eq_true q141
         go_wp2_with (first | ((with_reducible refine gate_callee (f := 81) rfl ?_); refine goesK (some 36) Try.func81 #[.int .i64 (rd l0_3 x30_2), .int .i64 1099511627776] ?_; (with_reducible refine (node_within.calls (rd l0_3 x30_2) 1099511627776 true _ A18.out).mono ?_); rintro e w' ⟨rfl, ⟨nd, rfl⟩⟩; refine ⟨_, rfl, ?_⟩; obtain ⟨hcz24_0, hfz24_0⟩ := cY0 BK138; obtain ⟨hcz24_1, hfz24_1⟩ := cY1 BK138; obtain ⟨hcz24_2, hfz24_2⟩ := cY2 BK138; obtain ⟨hcz24_3, hfz24_3⟩ := cY3 BK138; obtain ⟨hcz24_4, hfz24_4⟩ := cY4 BK138))
         go_roundg k2
         case measure => have := HJ1.out; have := HK2.out; omega
         case rel => exact ⟨(wrap64 (x30_2 + 1)), sI, H', ⟨oM HJ1 HK2⟩, ⟨mB BK138⟩, ⟨mH HB⟩⟩
       ·
        replace c19 := Bool.eq_false_iff.mpr c19; subst c19
        have H1 : (some false) = some r := by rw [if_neg (show ¬ (false = true) by decide)] at H; exact H
        clear H; have H := H1; clear H1; obtain rfl := qI H; have p141 : 0 ≤ (x30_2 : Int) := dT; have q141 : x30_2 < (l0_3.length : Int) := dT; obtain ⟨ad141, e141, hx141_0⟩ := Kd.at_int HR0_3.out x30_2 p141 q141
        cases e141
        replace hx141_0 := xC HB hx141_0; replace p141 := eq_true p141; replace q141 := eq_true q141
        go_wp2_with (first | ((with_reducible refine gate_callee (f := 81) rfl ?_); refine goesK (some 36) Try.func81 #[.int .i64 (rd l0_3 x30_2), .int .i64 1099511627776] ?_; (with_reducible refine (node_within.calls (rd l0_3 x30_2) 1099511627776 false _ A18.out).mono ?_); rintro e w' ⟨rfl, ⟨nd, rfl⟩⟩; refine ⟨_, rfl, ?_⟩))
        go_ret
        exact ⟨rT, mH HB⟩
      ·
       rw [if_neg c15] at H; have c15b0 := qF c15; clear c15; obtain rfl := qI H
       go_wp2
       go_ret
       exact ⟨rT, mH HB⟩
def path_May.l0 : Nat → ByteArray → Int → Int → Option (Bool)
 | 0, _, _, _ => none
 | k + 1, x0, x6, x7 => if x7 < x6 then (if 0 ≤ x7 then (if x7 < (x0.size : Int) then (if (bt x0 x7) ≥ 97 then (if (bt x0 x7) ≤ 122 then (path_May.l0 k x0 x6 (wrap64 (x7 + 1))) else (if (bt x0 x7) ≥ 48 then (if (bt x0 x7) ≤ 57 then (path_May.l0 k x0 x6 (wrap64 (x7 + 1))) else (if (bt x0 x7) = 46 then (path_May.l0 k x0 x6 (wrap64 (x7 + 1))) else (if (bt x0 x7) = 95 then (path_May.l0 k x0 x6 (wrap64 (x7 + 1))) else (if ((bt x0 x7) = 45) then (path_May.l0 k x0 x6 (wrap64 (x7 + 1))) else (some false))))) else (if (bt x0 x7) = 46 then (path_May.l0 k x0 x6 (wrap64 (x7 + 1))) else (if (bt x0 x7) = 95 then (path_May.l0 k x0 x6 (wrap64 (x7 + 1))) else (if ((bt x0 x7) = 45) then (path_May.l0 k x0 x6 (wrap64 (x7 + 1))) else (some false)))))) else (if (bt x0 x7) ≥ 48 then (if (bt x0 x7) ≤ 57 then (path_May.l0 k x0 x6 (wrap64 (x7 + 1))) else (if (bt x0 x7) = 46 then (path_May.l0 k x0 x6 (wrap64 (x7 + 1))) else (if (bt x0 x7) = 95 then (path_May.l0 k x0 x6 (wrap64 (x7 + 1))) else (if ((bt x0 x7) = 45) then (path_May.l0 k x0 x6 (wrap64 (x7 + 1))) else (some false))))) else (if (bt x0 x7) = 46 then (path_May.l0 k x0 x6 (wrap64 (x7 + 1))) else (if (bt x0 x7) = 95 then (path_May.l0 k x0 x6 (wrap64 (x7 + 1))) else (if ((bt x0 x7) = 45) then (path_May.l0 k x0 x6 (wrap64 (x7 + 1))) else (some false)))))) else (none)) else (none)) else (if (x0.size : Int) ≥ 1 then (if (x0.size : Int) ≤ 8 then (if x0.toList = ([46] : List UInt8) then (some false) else (some (x0.toList != ([46, 46] : List UInt8)))) else (some false)) else (some false))
def path_May.f (k : Nat) (a0 : ByteArray) : Option (Bool) := path_May.l0 k a0 (a0.size : Int) 0
theorem path_May.mono_l : ∀ k, (∀ y0 y1 y2, LeO (path_May.l0 k y0 y1 y2) (path_May.l0 (k + 1) y0 y1 y2))
 | 0 => fun _ _ _ r h => by simp [path_May.l0] at h
 | k + 1 => by
  have ih0 := path_May.mono_l k
  ·
   intro y0 y1 y2
   unfold path_May.l0
   repeat' with_reducible first | apply ih0 | exact LeO.refl _ | exact LeO.none _ | refine LeO.ite ?_ ?_ | refine LeO.bind ?_ (fun _ => ?_)
theorem path_May.mono : ∀ a0 k, LeO (path_May.f k a0) (path_May.f (k + 1) a0) := by
 intro a0 k; have ih0 := path_May.mono_l k
 unfold path_May.f
 repeat' with_reducible first | apply ih0 | exact LeO.refl _ | exact LeO.none _ | refine LeO.ite ?_ ?_ | refine LeO.bind ?_ (fun _ => ?_)
set_option maxHeartbeats 8000000 in
set_option maxRecDepth 100000 in
theorem path_May.calls (k : Nat) (a0 : ByteArray) (r : Bool) (w : World) (h : path_May.f k a0 = some r) :
 Calls Try.prog 89 #[.string a0] w fun e w' => e = .returned (.bool r) ∧ Drawn0 w w' := by
 have H : (path_May.l0 k a0 (a0.size : Int) 0) = some r := h; clear h; have H' := kA H; clear H
 go_enter Try.func89, Try.ntmps89
 go_wp2
 go_loopg [7] k (fun kq v7 w' => ∃ (x7_1 : Int), v7 = .int .i64 x7_1 ∧ Aside0 (path_May.l0 kq a0 (a0.size : Int) x7_1 = some r) ∧ Aside0 (kq ≤ k) ∧ Drawn0 w w')
 case atStart => exact ⟨(0), sI, H', ⟨Nat.le_refl _⟩, by repeat (first | exact Drawn0.refl _ | apply Drawn0.step)⟩
 case round =>
  clear H'; obtain ⟨x7_1, rfl, HA, HK1, ⟨m1, rfl⟩⟩ := hrel
  cases gk with
  | zero => exact absurd HA.out (by simp [path_May.l0])
  | succ k1 =>
   have H := HA.out; clear HA; simp only [path_May.l0] at H
   by_cases c2 : x7_1 < (a0.size : Int)
   ·
    rw [if_pos c2] at H; have c2b0 := qT c2; clear c2
    replace H := nP H; obtain ⟨c3, H⟩ := H; have c3b0 := qT c3; clear c3
    replace H := nP H; obtain ⟨c4, H⟩ := H; have c4b0 := qT c4; clear c4
    by_cases c6 : (bt a0 x7_1) ≥ 97
    ·
     rw [if_pos c6] at H; have c6b0 : decide (97 ≤ (bt a0 x7_1)) = true := qT c6; clear c6
     by_cases c7 : (bt a0 x7_1) ≤ 122
     ·
      rw [if_pos c7] at H; have c7b0 := qT c7; clear c7; have H' := kA H; clear H; have p5 : 0 ≤ (x7_1 : Int) := dT; have q5 : x7_1 < (a0.size : Int) := dT; have hx5 := bt_at a0 x7_1; replace p5 := eq_true p5; replace q5 := eq_true q5
      go_wp2
      go_roundg k1
      case measure => have := HK1.out; omega
      case rel => exact ⟨(wrap64 (x7_1 + 1)), sI, H', ⟨oK HK1⟩, by repeat (first | exact Drawn0.refl _ | apply Drawn0.step)⟩
     ·
      rw [if_neg c7] at H; have c7b0 := qF c7; clear c7
      by_cases c8 : (bt a0 x7_1) ≥ 48
      ·
       rw [if_pos c8] at H; have c8b0 : decide (48 ≤ (bt a0 x7_1)) = true := qT c8; clear c8
       by_cases c9 : (bt a0 x7_1) ≤ 57
       ·
        rw [if_pos c9] at H; have c9b0 := qT c9; clear c9; have H' := kA H; clear H; have p5 : 0 ≤ (x7_1 : Int) := dT; have q5 : x7_1 < (a0.size : Int) := dT; have hx5 := bt_at a0 x7_1; replace p5 := eq_true p5; replace q5 := eq_true q5
        go_wp2
        go_roundg k1
        case measure => have := HK1.out; omega
        case rel => exact ⟨(wrap64 (x7_1 + 1)), sI, H', ⟨oK HK1⟩, by repeat (first | exact Drawn0.refl _ | apply Drawn0.step)⟩
       ·
        rw [if_neg c9] at H; have c9b0 := qF c9; clear c9
        by_cases c10 : (bt a0 x7_1) = 46
        ·
         rw [if_pos c10] at H; obtain ⟨c10b0, c10b1⟩ := eP c10; clear c10; have H' := kA H; clear H; have p5 : 0 ≤ (x7_1 : Int) := dT; have q5 : x7_1 < (a0.size : Int) := dT; have hx5 := bt_at a0 x7_1; replace p5 := eq_true p5; replace q5 := eq_true q5
         go_wp2
         go_roundg k1
         case measure => have := HK1.out; omega
         case rel => exact ⟨(wrap64 (x7_1 + 1)), sI, H', ⟨oK HK1⟩, by repeat (first | exact Drawn0.refl _ | apply Drawn0.step)⟩
        ·
         rw [if_neg c10] at H; obtain ⟨c10b0, c10b1⟩ := eN c10
         by_cases c11 : (bt a0 x7_1) = 95
         ·
          rw [if_pos c11] at H; obtain ⟨c11b0, c11b1⟩ := eP c11; clear c11; have H' := kA H; clear H; have p5 : 0 ≤ (x7_1 : Int) := dT; have q5 : x7_1 < (a0.size : Int) := dT; have hx5 := bt_at a0 x7_1; replace p5 := eq_true p5; replace q5 := eq_true q5
          go_wp2
          go_roundg k1
          case measure => have := HK1.out; omega
          case rel => exact ⟨(wrap64 (x7_1 + 1)), sI, H', ⟨oK HK1⟩, by repeat (first | exact Drawn0.refl _ | apply Drawn0.step)⟩
         ·
          rw [if_neg c11] at H; obtain ⟨c11b0, c11b1⟩ := eN c11
          by_cases c12 : ((bt a0 x7_1) = 45)
          ·
           rw [if_pos c12] at H; obtain ⟨c12b0, c12b1⟩ := eP c12; clear c12; have H' := kA H; clear H; have p5 : 0 ≤ (x7_1 : Int) := dT; have q5 : x7_1 < (a0.size : Int) := dT; have hx5 := bt_at a0 x7_1; replace p5 := eq_true p5; replace q5 := eq_true q5
           go_wp2
           go_roundg k1
           case measure => have := HK1.out; omega
           case rel => exact ⟨(wrap64 (x7_1 + 1)), sI, H', ⟨oK HK1⟩, by repeat (first | exact Drawn0.refl _ | apply Drawn0.step)⟩
          ·
           rw [if_neg c12] at H; obtain ⟨c12b0, c12b1⟩ := eN c12; obtain rfl := qI H; have p5 : 0 ≤ (x7_1 : Int) := dT; have q5 : x7_1 < (a0.size : Int) := dT; have hx5 := bt_at a0 x7_1; replace p5 := eq_true p5; replace q5 := eq_true q5
           go_wp2
           go_ret
           exact ⟨sI, by repeat (first | exact Drawn0.refl _ | apply Drawn0.step)⟩
      ·
       rw [if_neg c8] at H; have c8b0 : decide (48 ≤ (bt a0 x7_1)) = false := qF c8; clear c8
       by_cases c13 : (bt a0 x7_1) = 46
       ·
        rw [if_pos c13] at H; obtain ⟨c13b0, c13b1⟩ := eP c13; clear c13; have H' := kA H; clear H; have p5 : 0 ≤ (x7_1 : Int) := dT; have q5 : x7_1 < (a0.size : Int) := dT; have hx5 := bt_at a0 x7_1; replace p5 := eq_true p5; replace q5 := eq_true q5
        go_wp2
        go_roundg k1
        case measure => have := HK1.out; omega
        case rel => exact ⟨(wrap64 (x7_1 + 1)), sI, H', ⟨oK HK1⟩, by repeat (first | exact Drawn0.refl _ | apply Drawn0.step)⟩
       ·
        rw [if_neg c13] at H; obtain ⟨c13b0, c13b1⟩ := eN c13
        by_cases c14 : (bt a0 x7_1) = 95
        ·
         rw [if_pos c14] at H; obtain ⟨c14b0, c14b1⟩ := eP c14; clear c14; have H' := kA H; clear H; have p5 : 0 ≤ (x7_1 : Int) := dT; have q5 : x7_1 < (a0.size : Int) := dT; have hx5 := bt_at a0 x7_1; replace p5 := eq_true p5; replace q5 := eq_true q5
         go_wp2
         go_roundg k1
         case measure => have := HK1.out; omega
         case rel => exact ⟨(wrap64 (x7_1 + 1)), sI, H', ⟨oK HK1⟩, by repeat (first | exact Drawn0.refl _ | apply Drawn0.step)⟩
        ·
         rw [if_neg c14] at H; obtain ⟨c14b0, c14b1⟩ := eN c14
         by_cases c15 : ((bt a0 x7_1) = 45)
         ·
          rw [if_pos c15] at H; obtain ⟨c15b0, c15b1⟩ := eP c15; clear c15; have H' := kA H; clear H; have p5 : 0 ≤ (x7_1 : Int) := dT; have q5 : x7_1 < (a0.size : Int) := dT; have hx5 := bt_at a0 x7_1; replace p5 := eq_true p5; replace q5 := eq_true q5
          go_wp2
          go_roundg k1
          case measure => have := HK1.out; omega
          case rel => exact ⟨(wrap64 (x7_1 + 1)), sI, H', ⟨oK HK1⟩, by repeat (first | exact Drawn0.refl _ | apply Drawn0.step)⟩
         ·
          rw [if_neg c15] at H; obtain ⟨c15b0, c15b1⟩ := eN c15; obtain rfl := qI H; have p5 : 0 ≤ (x7_1 : Int) := dT; have q5 : x7_1 < (a0.size : Int) := dT; have hx5 := bt_at a0 x7_1; replace p5 := eq_true p5; replace q5 := eq_true q5
          go_wp2
          go_ret
          exact ⟨sI, by repeat (first | exact Drawn0.refl _ | apply Drawn0.step)⟩
    ·
     rw [if_neg c6] at H; have c6b0 : decide (97 ≤ (bt a0 x7_1)) = false := qF c6; clear c6
     by_cases c16 : (bt a0 x7_1) ≥ 48
     ·
      rw [if_pos c16] at H; have c16b0 : decide (48 ≤ (bt a0 x7_1)) = true := qT c16; clear c16
      by_cases c17 : (bt a0 x7_1) ≤ 57
      ·
       rw [if_pos c17] at H; have c17b0 := qT c17; clear c17; have H' := kA H; clear H; have p5 : 0 ≤ (x7_1 : Int) := dT; have q5 : x7_1 < (a0.size : Int) := dT; have hx5 := bt_at a0 x7_1; replace p5 := eq_true p5; replace q5 := eq_true q5
       go_wp2
       go_roundg k1
       case measure => have := HK1.out; omega
       case rel => exact ⟨(wrap64 (x7_1 + 1)), sI, H', ⟨oK HK1⟩, by repeat (first | exact Drawn0.refl _ | apply Drawn0.step)⟩
      ·
       rw [if_neg c17] at H; have c17b0 := qF c17; clear c17
       by_cases c18 : (bt a0 x7_1) = 46
       ·
        rw [if_pos c18] at H; obtain ⟨c18b0, c18b1⟩ := eP c18; clear c18; have H' := kA H; clear H; have p5 : 0 ≤ (x7_1 : Int) := dT; have q5 : x7_1 < (a0.size : Int) := dT; have hx5 := bt_at a0 x7_1; replace p5 := eq_true p5; replace q5 := eq_true q5
        go_wp2
        go_roundg k1
        case measure => have := HK1.out; omega
        case rel => exact ⟨(wrap64 (x7_1 + 1)), sI, H', ⟨oK HK1⟩, by repeat (first | exact Drawn0.refl _ | apply Drawn0.step)⟩
       ·
        rw [if_neg c18] at H; obtain ⟨c18b0, c18b1⟩ := eN c18
        by_cases c19 : (bt a0 x7_1) = 95
        ·
         rw [if_pos c19] at H; obtain ⟨c19b0, c19b1⟩ := eP c19; clear c19; have H' := kA H; clear H; have p5 : 0 ≤ (x7_1 : Int) := dT; have q5 : x7_1 < (a0.size : Int) := dT; have hx5 := bt_at a0 x7_1; replace p5 := eq_true p5; replace q5 := eq_true q5
         go_wp2
         go_roundg k1
         case measure => have := HK1.out; omega
         case rel => exact ⟨(wrap64 (x7_1 + 1)), sI, H', ⟨oK HK1⟩, by repeat (first | exact Drawn0.refl _ | apply Drawn0.step)⟩
        ·
         rw [if_neg c19] at H; obtain ⟨c19b0, c19b1⟩ := eN c19
         by_cases c20 : ((bt a0 x7_1) = 45)
         ·
          rw [if_pos c20] at H; obtain ⟨c20b0, c20b1⟩ := eP c20; clear c20; have H' := kA H; clear H; have p5 : 0 ≤ (x7_1 : Int) := dT; have q5 : x7_1 < (a0.size : Int) := dT; have hx5 := bt_at a0 x7_1; replace p5 := eq_true p5; replace q5 := eq_true q5
          go_wp2
          go_roundg k1
          case measure => have := HK1.out; omega
          case rel => exact ⟨(wrap64 (x7_1 + 1)), sI, H', ⟨oK HK1⟩, by repeat (first | exact Drawn0.refl _ | apply Drawn0.step)⟩
         ·
          rw [if_neg c20] at H; obtain ⟨c20b0, c20b1⟩ := eN c20; obtain rfl := qI H; have p5 : 0 ≤ (x7_1 : Int) := dT; have q5 : x7_1 < (a0.size : Int) := dT; have hx5 := bt_at a0 x7_1; replace p5 := eq_true p5; replace q5 := eq_true q5
          go_wp2
          go_ret
          exact ⟨sI, by repeat (first | exact Drawn0.refl _ | apply Drawn0.step)⟩
     ·
      rw [if_neg c16] at H; have c16b0 : decide (48 ≤ (bt a0 x7_1)) = false := qF c16; clear c16
      by_cases c21 : (bt a0 x7_1) = 46
      ·
       rw [if_pos c21] at H; obtain ⟨c21b0, c21b1⟩ := eP c21; clear c21; have H' := kA H; clear H; have p5 : 0 ≤ (x7_1 : Int) := dT; have q5 : x7_1 < (a0.size : Int) := dT; have hx5 := bt_at a0 x7_1; replace p5 := eq_true p5; replace q5 := eq_true q5
       go_wp2
       go_roundg k1
       case measure => have := HK1.out; omega
       case rel => exact ⟨(wrap64 (x7_1 + 1)), sI, H', ⟨oK HK1⟩, by repeat (first | exact Drawn0.refl _ | apply Drawn0.step)⟩
      ·
       rw [if_neg c21] at H; obtain ⟨c21b0, c21b1⟩ := eN c21
       by_cases c22 : (bt a0 x7_1) = 95
       ·
        rw [if_pos c22] at H; obtain ⟨c22b0, c22b1⟩ := eP c22; clear c22; have H' := kA H; clear H; have p5 : 0 ≤ (x7_1 : Int) := dT; have q5 : x7_1 < (a0.size : Int) := dT; have hx5 := bt_at a0 x7_1; replace p5 := eq_true p5; replace q5 := eq_true q5
        go_wp2
        go_roundg k1
        case measure => have := HK1.out; omega
        case rel => exact ⟨(wrap64 (x7_1 + 1)), sI, H', ⟨oK HK1⟩, by repeat (first | exact Drawn0.refl _ | apply Drawn0.step)⟩
       ·
        rw [if_neg c22] at H; obtain ⟨c22b0, c22b1⟩ := eN c22
        by_cases c23 : ((bt a0 x7_1) = 45)
        ·
         rw [if_pos c23] at H; obtain ⟨c23b0, c23b1⟩ := eP c23; clear c23; have H' := kA H; clear H; have p5 : 0 ≤ (x7_1 : Int) := dT; have q5 : x7_1 < (a0.size : Int) := dT; have hx5 := bt_at a0 x7_1; replace p5 := eq_true p5; replace q5 := eq_true q5
         go_wp2
         go_roundg k1
         case measure => have := HK1.out; omega
         case rel => exact ⟨(wrap64 (x7_1 + 1)), sI, H', ⟨oK HK1⟩, by repeat (first | exact Drawn0.refl _ | apply Drawn0.step)⟩
        ·
         rw [if_neg c23] at H; obtain ⟨c23b0, c23b1⟩ := eN c23; obtain rfl := qI H; have p5 : 0 ≤ (x7_1 : Int) := dT; have q5 : x7_1 < (a0.size : Int) := dT; have hx5 := bt_at a0 x7_1; replace p5 := eq_true p5; replace q5 := eq_true q5
         go_wp2
         go_ret
         exact ⟨sI, by repeat (first | exact Drawn0.refl _ | apply Drawn0.step)⟩
   ·
    rw [if_neg c2] at H; have c2b0 := qF c2; clear c2
    by_cases c24 : (a0.size : Int) ≥ 1
    ·
     rw [if_pos c24] at H; have c24b0 : decide (1 ≤ (a0.size : Int)) = true := qT c24; have c24b1 : decide (1 ≤ a0.size) = true := qT (by omega); clear c24
     by_cases c25 : (a0.size : Int) ≤ 8
     ·
      rw [if_pos c25] at H; have c25b0 := qT c25; have c25b1 : decide (a0.size ≤ 8) = true := qT (by omega); clear c25
      by_cases c26 : a0.toList = ([46] : List UInt8)
      ·
       rw [if_pos c26] at H; obtain ⟨c26b0, c26b1⟩ := eP c26; clear c26; obtain rfl := qI H
       go_wp2
       go_ret
       exact ⟨sI, by repeat (first | exact Drawn0.refl _ | apply Drawn0.step)⟩
      ·
       rw [if_neg c26] at H; obtain ⟨c26b0, c26b1⟩ := eN c26; obtain rfl := qI H
       go_wp2
       go_ret
       exact ⟨sI, by repeat (first | exact Drawn0.refl _ | apply Drawn0.step)⟩
     ·
      rw [if_neg c25] at H; have c25b0 := qF c25; have c25b1 : decide (a0.size ≤ 8) = false := qF (by omega); clear c25; obtain rfl := qI H
      go_wp2
      go_ret
      exact ⟨sI, by repeat (first | exact Drawn0.refl _ | apply Drawn0.step)⟩
    ·
     rw [if_neg c24] at H; have c24b0 : decide (1 ≤ (a0.size : Int)) = false := qF c24; have c24b1 : decide (1 ≤ a0.size) = false := qF (by omega); clear c24; obtain rfl := qI H
     go_wp2
     go_ret
     exact ⟨sI, by repeat (first | exact Drawn0.refl _ | apply Drawn0.step)⟩
end Go.Proofs.Ytkigiehkckjlhaa.PReads
