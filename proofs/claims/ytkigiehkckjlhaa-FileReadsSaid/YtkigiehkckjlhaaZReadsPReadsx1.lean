/- The Go functions that these laws reach, each as a Lean function with the same answers (a law itself where it answers true), and the proof that the code comes to them; conditions: those of each theorem. Laid by a program of this session over the print. -/
import Derived.Test.YtkigiehkckjlhaaZReadsPReadsShort
import Derived.Test.YtkigiehkckjlhaaZReadsPReadsx0
namespace Go.Proofs.Ytkigiehkckjlhaa.PReads
open Go.RowKit Go.Proofs.YtkigiehkckjlhaaW.PrintWords Go.Proofs.YtkigiehkckjlhaaW.PrintLast Go.Proofs.YtkigiehkckjlhaaW.PrintMore
attribute [local go_sem] max2_int min2_int max_two min_two max_three min_three max_four min_four   -- for this text's walks alone
set_option linter.unusedVariables false
set_option linter.unusedSimpArgs false
open Go.Proofs.YtkigiehkckjlhaaW.PrintWords renaming blk_drewN → bN, blk_drew → bD, blk_alloc → bA, below_set → wS, below_alloc → wA, pw_below_drewN → wN, below_drew1 → wD, blk_below → bB, blk_far → bF, blk_cell → bC, blk_frozen → bZ
open List renaming setIfInBounds_toArray → lT, set_cons_zero → l0_, set_cons_succ → lS
mutual
def potsherdref12_Name.j0 : Nat → ByteArray → Bool → Option (Bool)
 | 0, _, _ => none
 | k + 1, x0, x20 => if x20 = true then (some false) else (potsherdref12_Name.l0 k x0 (x0.size : Int) 0)
def potsherdref12_Name.l0 : Nat → ByteArray → Int → Int → Option (Bool)
 | 0, _, _, _ => none
 | k + 1, x0, x22, x23 => if x23 < x22 then (if 0 ≤ x23 then (if x23 < (x0.size : Int) then (if (bt x0 x23) < 97 then (if (bt x0 x23) < 48 then (if (bt x0 x23) = 46 then (potsherdref12_Name.l0 k x0 x22 (wrap64 (x23 + 1))) else (if (bt x0 x23) = 95 then (potsherdref12_Name.l0 k x0 x22 (wrap64 (x23 + 1))) else (if (bt x0 x23) = 45 then (potsherdref12_Name.l0 k x0 x22 (wrap64 (x23 + 1))) else (some false)))) else (if (bt x0 x23) > 57 then (if (bt x0 x23) = 46 then (potsherdref12_Name.l0 k x0 x22 (wrap64 (x23 + 1))) else (if (bt x0 x23) = 95 then (potsherdref12_Name.l0 k x0 x22 (wrap64 (x23 + 1))) else (if (bt x0 x23) = 45 then (potsherdref12_Name.l0 k x0 x22 (wrap64 (x23 + 1))) else (some false)))) else (potsherdref12_Name.l0 k x0 x22 (wrap64 (x23 + 1))))) else (if (bt x0 x23) > 122 then (if (bt x0 x23) < 48 then (if (bt x0 x23) = 46 then (potsherdref12_Name.l0 k x0 x22 (wrap64 (x23 + 1))) else (if (bt x0 x23) = 95 then (potsherdref12_Name.l0 k x0 x22 (wrap64 (x23 + 1))) else (if (bt x0 x23) = 45 then (potsherdref12_Name.l0 k x0 x22 (wrap64 (x23 + 1))) else (some false)))) else (if (bt x0 x23) > 57 then (if (bt x0 x23) = 46 then (potsherdref12_Name.l0 k x0 x22 (wrap64 (x23 + 1))) else (if (bt x0 x23) = 95 then (potsherdref12_Name.l0 k x0 x22 (wrap64 (x23 + 1))) else (if (bt x0 x23) = 45 then (potsherdref12_Name.l0 k x0 x22 (wrap64 (x23 + 1))) else (some false)))) else (potsherdref12_Name.l0 k x0 x22 (wrap64 (x23 + 1))))) else (potsherdref12_Name.l0 k x0 x22 (wrap64 (x23 + 1))))) else (none)) else (none)) else (some true)
end
def potsherdref12_Name.f (k : Nat) (a0 : ByteArray) : Option (Bool) := if (a0.size : Int) < 1 then (potsherdref12_Name.j0 k a0 true) else (if (a0.size : Int) > 8 then (potsherdref12_Name.j0 k a0 true) else (if a0.toList = ([46] : List UInt8) then (potsherdref12_Name.j0 k a0 true) else (potsherdref12_Name.j0 k a0 (a0.toList == ([46, 46] : List UInt8)))))
theorem potsherdref12_Name.mono_l : ∀ k, (∀ y0 y1, LeO (potsherdref12_Name.j0 k y0 y1) (potsherdref12_Name.j0 (k + 1) y0 y1)) ∧ (∀ y0 y1 y2, LeO (potsherdref12_Name.l0 k y0 y1 y2) (potsherdref12_Name.l0 (k + 1) y0 y1 y2))
 | 0 => ⟨fun _ _ r h => by simp [potsherdref12_Name.j0] at h, fun _ _ _ r h => by simp [potsherdref12_Name.l0] at h⟩
 | k + 1 => by
  obtain ⟨ih0, ih1⟩ := potsherdref12_Name.mono_l k; refine ⟨?_, ?_⟩
  ·
   intro y0 y1
   unfold potsherdref12_Name.j0
   repeat' with_reducible first | apply ih0 | apply ih1 | exact LeO.refl _ | exact LeO.none _ | refine LeO.ite ?_ ?_ | refine LeO.bind ?_ (fun _ => ?_)
  ·
   intro y0 y1 y2
   unfold potsherdref12_Name.l0
   repeat' with_reducible first | apply ih0 | apply ih1 | exact LeO.refl _ | exact LeO.none _ | refine LeO.ite ?_ ?_ | refine LeO.bind ?_ (fun _ => ?_)
theorem potsherdref12_Name.mono : ∀ a0 k, LeO (potsherdref12_Name.f k a0) (potsherdref12_Name.f (k + 1) a0) := by
 intro a0 k; obtain ⟨ih0, ih1⟩ := potsherdref12_Name.mono_l k
 unfold potsherdref12_Name.f
 repeat' with_reducible first | apply ih0 | apply ih1 | exact LeO.refl _ | exact LeO.none _ | refine LeO.ite ?_ ?_ | refine LeO.bind ?_ (fun _ => ?_)
set_option maxHeartbeats 8000000 in
set_option maxRecDepth 100000 in
theorem potsherdref12_Name.calls (k : Nat) (a0 : ByteArray) (r : Bool) (w : World) (h : potsherdref12_Name.f k a0 = some r) :
 Calls Try.prog 69 #[.string a0] w fun e w' => e = .returned (.bool r) ∧ Drawn0 w w' := by
 have H : (if (a0.size : Int) < 1 then (potsherdref12_Name.j0 k a0 true) else (if (a0.size : Int) > 8 then (potsherdref12_Name.j0 k a0 true) else (if a0.toList = ([46] : List UInt8) then (potsherdref12_Name.j0 k a0 true) else (potsherdref12_Name.j0 k a0 (a0.toList == ([46, 46] : List UInt8)))))) = some r := h; clear h; have HC2 := kA H; clear H
 go_enter Try.func69, Try.ntmps69
 go_upto_region 1 with (fail)
 go_cut [20] (fun v20 wc => ∃ (kq : Nat) (x20_1 : Bool), v20 = .bool x20_1 ∧ Aside0 (potsherdref12_Name.j0 kq a0 x20_1 = some r) ∧ Aside0 (kq ≤ k) ∧ Drawn0 w wc)
 case first =>
  have H := HC2.out; clear HC2
  by_cases c3 : (a0.size : Int) < 1
  ·
   rw [if_pos c3] at H; have c3b0 := qT c3; have c3b1 : decide (a0.size < 1) = true := qT (by omega); clear c3
   (first | rw [c3b0] | (simp only [i64_w, i32_w]; rw [c3b0]) | skip)
   have H' := kA H; clear H
   go_wp2
   go_meet
   case rel => exact ⟨_, (true), sI, H', ⟨by first | omega | exact Nat.le_refl _⟩, by repeat (first | exact Drawn0.refl _ | apply Drawn0.step)⟩
  ·
   rw [if_neg c3] at H; have c3b0 := qF c3; have c3b1 : decide (a0.size < 1) = false := qF (by omega); clear c3
   (first | rw [c3b0] | (simp only [i64_w, i32_w]; rw [c3b0]) | skip)
   by_cases c4 : (a0.size : Int) > 8
   ·
    rw [if_pos c4] at H; have c4b0 : decide (8 < (a0.size : Int)) = true := qT c4; have c4b1 : decide (8 < a0.size) = true := qT (by omega); clear c4; have H' := kA H; clear H
    go_wp2
    go_meet
    case rel => exact ⟨_, (true), sI, H', ⟨by first | omega | exact Nat.le_refl _⟩, by repeat (first | exact Drawn0.refl _ | apply Drawn0.step)⟩
   ·
    rw [if_neg c4] at H; have c4b0 : decide (8 < (a0.size : Int)) = false := qF c4; have c4b1 : decide (8 < a0.size) = false := qF (by omega); clear c4
    by_cases c5 : a0.toList = ([46] : List UInt8)
    ·
     rw [if_pos c5] at H; obtain ⟨c5b0, c5b1⟩ := eP c5; clear c5; have H' := kA H; clear H
     go_wp2
     go_meet
     case rel => exact ⟨_, (true), sI, H', ⟨by first | omega | exact Nat.le_refl _⟩, by repeat (first | exact Drawn0.refl _ | apply Drawn0.step)⟩
    ·
     rw [if_neg c5] at H; obtain ⟨c5b0, c5b1⟩ := eN c5; have H' := kA H; clear H
     go_wp2
     go_meet
     case rel => exact ⟨_, ((a0.toList == ([46, 46] : List UInt8))), sI, H', ⟨by first | omega | exact Nat.le_refl _⟩, by repeat (first | exact Drawn0.refl _ | apply Drawn0.step)⟩
 case rest =>
  clear HC2
  obtain ⟨kq, x20_1, rfl, HA, HJ1, ⟨mc1, rfl⟩⟩ := hcut
  cases kq with
  | zero => exact absurd HA.out (by simp [potsherdref12_Name.j0])
  | succ kj1 =>
   have H := HA.out; clear HA; simp only [potsherdref12_Name.j0] at H
   by_cases c6 : x20_1 = true
   ·
    subst c6
    have H1 : (some false) = some r := by rw [if_pos rfl] at H; exact H
    clear H; have H := H1; clear H1; obtain rfl := qI H
    go_wp2
    go_ret
    exact ⟨sI, by repeat (first | exact Drawn0.refl _ | apply Drawn0.step)⟩
   ·
    replace c6 := Bool.eq_false_iff.mpr c6; subst c6
    have H1 : (potsherdref12_Name.l0 kj1 a0 (a0.size : Int) 0) = some r := by rw [if_neg (show ¬ (false = true) by decide)] at H; exact H
    clear H; have H := H1; clear H1; have H' := kA H; clear H
    go_wp2
    go_loopg [23] kj1 (fun kq v23 w' => ∃ (x23_2 : Int), v23 = .int .i64 x23_2 ∧ Aside0 (potsherdref12_Name.l0 kq a0 (a0.size : Int) x23_2 = some r) ∧ Aside0 (kq ≤ kj1) ∧ Drawn0 w w')
    case atStart => exact ⟨(0), sI, H', ⟨Nat.le_refl _⟩, by repeat (first | exact Drawn0.refl _ | apply Drawn0.step)⟩
    case round =>
     clear H'
     (try clear c6)
     obtain ⟨x23_2, rfl, HA, HK2, ⟨m2, rfl⟩⟩ := hrel
     cases gk with
     | zero => exact absurd HA.out (by simp [potsherdref12_Name.l0])
     | succ k2 =>
      have H := HA.out; clear HA; simp only [potsherdref12_Name.l0] at H
      by_cases c7 : x23_2 < (a0.size : Int)
      ·
       rw [if_pos c7] at H; have c7b0 := qT c7; clear c7
       replace H := nP H; obtain ⟨c8, H⟩ := H; have c8b0 := qT c8; clear c8
       replace H := nP H; obtain ⟨c9, H⟩ := H; have c9b0 := qT c9; clear c9
       by_cases c11 : (bt a0 x23_2) < 97
       ·
        rw [if_pos c11] at H; have c11b0 := qT c11; clear c11
        by_cases c12 : (bt a0 x23_2) < 48
        ·
         rw [if_pos c12] at H; have c12b0 := qT c12; clear c12
         by_cases c13 : (bt a0 x23_2) = 46
         ·
          rw [if_pos c13] at H; obtain ⟨c13b0, c13b1⟩ := eP c13; clear c13; have H' := kA H; clear H; have p10 : 0 ≤ (x23_2 : Int) := dT; have q10 : x23_2 < (a0.size : Int) := dT; have hx10 := bt_at a0 x23_2; replace p10 := eq_true p10; replace q10 := eq_true q10
          go_wp2
          go_roundg k2
          case measure => have := HJ1.out; have := HK2.out; omega
          case rel => exact ⟨(wrap64 (x23_2 + 1)), sI, H', ⟨oM HJ1 HK2⟩, by repeat (first | exact Drawn0.refl _ | apply Drawn0.step)⟩
         ·
          rw [if_neg c13] at H; obtain ⟨c13b0, c13b1⟩ := eN c13
          by_cases c14 : (bt a0 x23_2) = 95
          ·
           rw [if_pos c14] at H; obtain ⟨c14b0, c14b1⟩ := eP c14; clear c14; have H' := kA H; clear H; have p10 : 0 ≤ (x23_2 : Int) := dT; have q10 : x23_2 < (a0.size : Int) := dT; have hx10 := bt_at a0 x23_2; replace p10 := eq_true p10; replace q10 := eq_true q10
           go_wp2
           go_roundg k2
           case measure => have := HJ1.out; have := HK2.out; omega
           case rel => exact ⟨(wrap64 (x23_2 + 1)), sI, H', ⟨oM HJ1 HK2⟩, by repeat (first | exact Drawn0.refl _ | apply Drawn0.step)⟩
          ·
           rw [if_neg c14] at H; obtain ⟨c14b0, c14b1⟩ := eN c14
           by_cases c15 : (bt a0 x23_2) = 45
           ·
            rw [if_pos c15] at H; obtain ⟨c15b0, c15b1⟩ := eP c15; clear c15; have H' := kA H; clear H; have p10 : 0 ≤ (x23_2 : Int) := dT; have q10 : x23_2 < (a0.size : Int) := dT; have hx10 := bt_at a0 x23_2; replace p10 := eq_true p10; replace q10 := eq_true q10
            go_wp2
            go_roundg k2
            case measure => have := HJ1.out; have := HK2.out; omega
            case rel => exact ⟨(wrap64 (x23_2 + 1)), sI, H', ⟨oM HJ1 HK2⟩, by repeat (first | exact Drawn0.refl _ | apply Drawn0.step)⟩
           ·
            rw [if_neg c15] at H; obtain ⟨c15b0, c15b1⟩ := eN c15; obtain rfl := qI H; have p10 : 0 ≤ (x23_2 : Int) := dT; have q10 : x23_2 < (a0.size : Int) := dT; have hx10 := bt_at a0 x23_2; replace p10 := eq_true p10; replace q10 := eq_true q10
            go_wp2
            go_ret
            exact ⟨sI, by repeat (first | exact Drawn0.refl _ | apply Drawn0.step)⟩
        ·
         rw [if_neg c12] at H; have c12b0 := qF c12; clear c12
         by_cases c16 : (bt a0 x23_2) > 57
         ·
          rw [if_pos c16] at H; have c16b0 : decide (57 < (bt a0 x23_2)) = true := qT c16; clear c16
          by_cases c17 : (bt a0 x23_2) = 46
          ·
           rw [if_pos c17] at H; obtain ⟨c17b0, c17b1⟩ := eP c17; clear c17; have H' := kA H; clear H; have p10 : 0 ≤ (x23_2 : Int) := dT; have q10 : x23_2 < (a0.size : Int) := dT; have hx10 := bt_at a0 x23_2; replace p10 := eq_true p10; replace q10 := eq_true q10
           go_wp2
           go_roundg k2
           case measure => have := HJ1.out; have := HK2.out; omega
           case rel => exact ⟨(wrap64 (x23_2 + 1)), sI, H', ⟨oM HJ1 HK2⟩, by repeat (first | exact Drawn0.refl _ | apply Drawn0.step)⟩
          ·
           rw [if_neg c17] at H; obtain ⟨c17b0, c17b1⟩ := eN c17
           by_cases c18 : (bt a0 x23_2) = 95
           ·
            rw [if_pos c18] at H; obtain ⟨c18b0, c18b1⟩ := eP c18; clear c18; have H' := kA H; clear H; have p10 : 0 ≤ (x23_2 : Int) := dT; have q10 : x23_2 < (a0.size : Int) := dT; have hx10 := bt_at a0 x23_2; replace p10 := eq_true p10; replace q10 := eq_true q10
            go_wp2
            go_roundg k2
            case measure => have := HJ1.out; have := HK2.out; omega
            case rel => exact ⟨(wrap64 (x23_2 + 1)), sI, H', ⟨oM HJ1 HK2⟩, by repeat (first | exact Drawn0.refl _ | apply Drawn0.step)⟩
           ·
            rw [if_neg c18] at H; obtain ⟨c18b0, c18b1⟩ := eN c18
            by_cases c19 : (bt a0 x23_2) = 45
            ·
             rw [if_pos c19] at H; obtain ⟨c19b0, c19b1⟩ := eP c19; clear c19; have H' := kA H; clear H; have p10 : 0 ≤ (x23_2 : Int) := dT; have q10 : x23_2 < (a0.size : Int) := dT; have hx10 := bt_at a0 x23_2; replace p10 := eq_true p10; replace q10 := eq_true q10
             go_wp2
             go_roundg k2
             case measure => have := HJ1.out; have := HK2.out; omega
             case rel => exact ⟨(wrap64 (x23_2 + 1)), sI, H', ⟨oM HJ1 HK2⟩, by repeat (first | exact Drawn0.refl _ | apply Drawn0.step)⟩
            ·
             rw [if_neg c19] at H; obtain ⟨c19b0, c19b1⟩ := eN c19; obtain rfl := qI H; have p10 : 0 ≤ (x23_2 : Int) := dT; have q10 : x23_2 < (a0.size : Int) := dT; have hx10 := bt_at a0 x23_2; replace p10 := eq_true p10; replace q10 := eq_true q10
             go_wp2
             go_ret
             exact ⟨sI, by repeat (first | exact Drawn0.refl _ | apply Drawn0.step)⟩
         ·
          rw [if_neg c16] at H; have c16b0 : decide (57 < (bt a0 x23_2)) = false := qF c16; clear c16; have H' := kA H; clear H; have p10 : 0 ≤ (x23_2 : Int) := dT; have q10 : x23_2 < (a0.size : Int) := dT; have hx10 := bt_at a0 x23_2; replace p10 := eq_true p10; replace q10 := eq_true q10
          go_wp2
          go_roundg k2
          case measure => have := HJ1.out; have := HK2.out; omega
          case rel => exact ⟨(wrap64 (x23_2 + 1)), sI, H', ⟨oM HJ1 HK2⟩, by repeat (first | exact Drawn0.refl _ | apply Drawn0.step)⟩
       ·
        rw [if_neg c11] at H; have c11b0 := qF c11; clear c11
        by_cases c20 : (bt a0 x23_2) > 122
        ·
         rw [if_pos c20] at H; have c20b0 : decide (122 < (bt a0 x23_2)) = true := qT c20; clear c20
         by_cases c21 : (bt a0 x23_2) < 48
         ·
          rw [if_pos c21] at H; have c21b0 := qT c21; clear c21
          by_cases c22 : (bt a0 x23_2) = 46
          ·
           rw [if_pos c22] at H; obtain ⟨c22b0, c22b1⟩ := eP c22; clear c22; have H' := kA H; clear H; have p10 : 0 ≤ (x23_2 : Int) := dT; have q10 : x23_2 < (a0.size : Int) := dT; have hx10 := bt_at a0 x23_2; replace p10 := eq_true p10; replace q10 := eq_true q10
           go_wp2
           go_roundg k2
           case measure => have := HJ1.out; have := HK2.out; omega
           case rel => exact ⟨(wrap64 (x23_2 + 1)), sI, H', ⟨oM HJ1 HK2⟩, by repeat (first | exact Drawn0.refl _ | apply Drawn0.step)⟩
          ·
           rw [if_neg c22] at H; obtain ⟨c22b0, c22b1⟩ := eN c22
           by_cases c23 : (bt a0 x23_2) = 95
           ·
            rw [if_pos c23] at H; obtain ⟨c23b0, c23b1⟩ := eP c23; clear c23; have H' := kA H; clear H; have p10 : 0 ≤ (x23_2 : Int) := dT; have q10 : x23_2 < (a0.size : Int) := dT; have hx10 := bt_at a0 x23_2; replace p10 := eq_true p10; replace q10 := eq_true q10
            go_wp2
            go_roundg k2
            case measure => have := HJ1.out; have := HK2.out; omega
            case rel => exact ⟨(wrap64 (x23_2 + 1)), sI, H', ⟨oM HJ1 HK2⟩, by repeat (first | exact Drawn0.refl _ | apply Drawn0.step)⟩
           ·
            rw [if_neg c23] at H; obtain ⟨c23b0, c23b1⟩ := eN c23
            by_cases c24 : (bt a0 x23_2) = 45
            ·
             rw [if_pos c24] at H; obtain ⟨c24b0, c24b1⟩ := eP c24; clear c24; have H' := kA H; clear H; have p10 : 0 ≤ (x23_2 : Int) := dT; have q10 : x23_2 < (a0.size : Int) := dT; have hx10 := bt_at a0 x23_2; replace p10 := eq_true p10; replace q10 := eq_true q10
             go_wp2
             go_roundg k2
             case measure => have := HJ1.out; have := HK2.out; omega
             case rel => exact ⟨(wrap64 (x23_2 + 1)), sI, H', ⟨oM HJ1 HK2⟩, by repeat (first | exact Drawn0.refl _ | apply Drawn0.step)⟩
            ·
             rw [if_neg c24] at H; obtain ⟨c24b0, c24b1⟩ := eN c24; obtain rfl := qI H; have p10 : 0 ≤ (x23_2 : Int) := dT; have q10 : x23_2 < (a0.size : Int) := dT; have hx10 := bt_at a0 x23_2; replace p10 := eq_true p10; replace q10 := eq_true q10
             go_wp2
             go_ret
             exact ⟨sI, by repeat (first | exact Drawn0.refl _ | apply Drawn0.step)⟩
         ·
          rw [if_neg c21] at H; have c21b0 := qF c21; clear c21
          by_cases c25 : (bt a0 x23_2) > 57
          ·
           rw [if_pos c25] at H; have c25b0 : decide (57 < (bt a0 x23_2)) = true := qT c25; clear c25
           by_cases c26 : (bt a0 x23_2) = 46
           ·
            rw [if_pos c26] at H; obtain ⟨c26b0, c26b1⟩ := eP c26; clear c26; have H' := kA H; clear H; have p10 : 0 ≤ (x23_2 : Int) := dT; have q10 : x23_2 < (a0.size : Int) := dT; have hx10 := bt_at a0 x23_2; replace p10 := eq_true p10; replace q10 := eq_true q10
            go_wp2
            go_roundg k2
            case measure => have := HJ1.out; have := HK2.out; omega
            case rel => exact ⟨(wrap64 (x23_2 + 1)), sI, H', ⟨oM HJ1 HK2⟩, by repeat (first | exact Drawn0.refl _ | apply Drawn0.step)⟩
           ·
            rw [if_neg c26] at H; obtain ⟨c26b0, c26b1⟩ := eN c26
            by_cases c27 : (bt a0 x23_2) = 95
            ·
             rw [if_pos c27] at H; obtain ⟨c27b0, c27b1⟩ := eP c27; clear c27; have H' := kA H; clear H; have p10 : 0 ≤ (x23_2 : Int) := dT; have q10 : x23_2 < (a0.size : Int) := dT; have hx10 := bt_at a0 x23_2; replace p10 := eq_true p10; replace q10 := eq_true q10
             go_wp2
             go_roundg k2
             case measure => have := HJ1.out; have := HK2.out; omega
             case rel => exact ⟨(wrap64 (x23_2 + 1)), sI, H', ⟨oM HJ1 HK2⟩, by repeat (first | exact Drawn0.refl _ | apply Drawn0.step)⟩
            ·
             rw [if_neg c27] at H; obtain ⟨c27b0, c27b1⟩ := eN c27
             by_cases c28 : (bt a0 x23_2) = 45
             ·
              rw [if_pos c28] at H; obtain ⟨c28b0, c28b1⟩ := eP c28; clear c28; have H' := kA H; clear H; have p10 : 0 ≤ (x23_2 : Int) := dT; have q10 : x23_2 < (a0.size : Int) := dT; have hx10 := bt_at a0 x23_2; replace p10 := eq_true p10; replace q10 := eq_true q10
              go_wp2
              go_roundg k2
              case measure => have := HJ1.out; have := HK2.out; omega
              case rel => exact ⟨(wrap64 (x23_2 + 1)), sI, H', ⟨oM HJ1 HK2⟩, by repeat (first | exact Drawn0.refl _ | apply Drawn0.step)⟩
             ·
              rw [if_neg c28] at H; obtain ⟨c28b0, c28b1⟩ := eN c28; obtain rfl := qI H; have p10 : 0 ≤ (x23_2 : Int) := dT; have q10 : x23_2 < (a0.size : Int) := dT; have hx10 := bt_at a0 x23_2; replace p10 := eq_true p10; replace q10 := eq_true q10
              go_wp2
              go_ret
              exact ⟨sI, by repeat (first | exact Drawn0.refl _ | apply Drawn0.step)⟩
          ·
           rw [if_neg c25] at H; have c25b0 : decide (57 < (bt a0 x23_2)) = false := qF c25; clear c25; have H' := kA H; clear H; have p10 : 0 ≤ (x23_2 : Int) := dT; have q10 : x23_2 < (a0.size : Int) := dT; have hx10 := bt_at a0 x23_2; replace p10 := eq_true p10; replace q10 := eq_true q10
           go_wp2
           go_roundg k2
           case measure => have := HJ1.out; have := HK2.out; omega
           case rel => exact ⟨(wrap64 (x23_2 + 1)), sI, H', ⟨oM HJ1 HK2⟩, by repeat (first | exact Drawn0.refl _ | apply Drawn0.step)⟩
        ·
         rw [if_neg c20] at H; have c20b0 : decide (122 < (bt a0 x23_2)) = false := qF c20; clear c20; have H' := kA H; clear H; have p10 : 0 ≤ (x23_2 : Int) := dT; have q10 : x23_2 < (a0.size : Int) := dT; have hx10 := bt_at a0 x23_2; replace p10 := eq_true p10; replace q10 := eq_true q10
         go_wp2
         go_roundg k2
         case measure => have := HJ1.out; have := HK2.out; omega
         case rel => exact ⟨(wrap64 (x23_2 + 1)), sI, H', ⟨oM HJ1 HK2⟩, by repeat (first | exact Drawn0.refl _ | apply Drawn0.step)⟩
      ·
       rw [if_neg c7] at H; have c7b0 := qF c7; clear c7; obtain rfl := qI H
       go_wp2
       go_ret
       exact ⟨sI, by repeat (first | exact Drawn0.refl _ | apply Drawn0.step)⟩
def potsherdref12_MayEntries.l0 : Nat → List (S78) → List (S78) → Int → Int → Option (Bool)
 | 0, _, _, _, _ => none
 | k + 1, x0, x8, x9, x10 => if x10 < x9 then (if 0 ≤ x10 then (if x10 < (x8.length : Int) then ((potsherdref12_Name.f k ((rV x8 x10).f0)).bind fun t103 => (if t103 = true then (if x10 > 0 then (if 0 ≤ (wrap64 (x10 - 1)) then (if (wrap64 (x10 - 1)) < (x0.length : Int) then (if ((Op.bytesLess (((rV x0 (wrap64 (x10 - 1))).f0).toList) (((rV x8 x10).f0).toList)) = true) then (if ((rV x8 x10).f1) < 1 then (some false) else (if ((rV x8 x10).f1) ≥ 12 then (some false) else (potsherdref12_MayEntries.l0 k x0 x8 x9 (wrap64 (x10 + 1))))) else (some false)) else (none)) else (none)) else (if ((rV x8 x10).f1) < 1 then (some false) else (if ((rV x8 x10).f1) ≥ 12 then (some false) else (potsherdref12_MayEntries.l0 k x0 x8 x9 (wrap64 (x10 + 1)))))) else (some false))) else (none)) else (none)) else (some true)
def potsherdref12_MayEntries.f (k : Nat) (l0 : List (S78)) : Option (Bool) := if (l0.length : Int) > 10 then (some false) else (potsherdref12_MayEntries.l0 k l0 l0 (l0.length : Int) 0)
theorem potsherdref12_MayEntries.mono_l : ∀ k, (∀ y0 y1 y2 y3, LeO (potsherdref12_MayEntries.l0 k y0 y1 y2 y3) (potsherdref12_MayEntries.l0 (k + 1) y0 y1 y2 y3))
 | 0 => fun _ _ _ _ r h => by simp [potsherdref12_MayEntries.l0] at h
 | k + 1 => by
  have ih0 := potsherdref12_MayEntries.mono_l k
  ·
   intro y0 y1 y2 y3
   unfold potsherdref12_MayEntries.l0
   repeat' with_reducible first | apply ih0 | apply potsherdref12_Name.mono | exact LeO.refl _ | exact LeO.none _ | refine LeO.ite ?_ ?_ | refine LeO.bind ?_ (fun _ => ?_)
theorem potsherdref12_MayEntries.mono : ∀ a0 k, LeO (potsherdref12_MayEntries.f k a0) (potsherdref12_MayEntries.f (k + 1) a0) := by
 intro a0 k; have ih0 := potsherdref12_MayEntries.mono_l k
 unfold potsherdref12_MayEntries.f
 repeat' with_reducible first | apply ih0 | apply potsherdref12_Name.mono | exact LeO.refl _ | exact LeO.none _ | refine LeO.ite ?_ ?_ | refine LeO.bind ?_ (fun _ => ?_)
set_option maxHeartbeats 8000000 in
set_option maxRecDepth 100000 in
theorem potsherdref12_MayEntries.calls (k : Nat) (A0 : Option Addr) (c0 : Nat) (l0 : List (S78)) (r : Bool) (w : World) (hr0 : Kd.C k78 w A0 l0.length l0) (hc0 : l0.length ≤ c0) (h : potsherdref12_MayEntries.f k l0 = some r) :
 Calls Try.prog 50 #[.slice A0 l0.length c0] w fun e w' => e = .returned (.bool r) ∧ Below w.heap.size w w' := by
 have hu78 := Try.underlying78; have HR0 := kA hr0; have HC0 := kA hc0; clear hr0 hc0; have HB := kA (Below.refl w.heap.size w); have H : (if (l0.length : Int) > 10 then (some false) else (potsherdref12_MayEntries.l0 k l0 l0 (l0.length : Int) 0)) = some r := h; clear h
 by_cases c2 : (l0.length : Int) > 10
 ·
  rw [if_pos c2] at H; have c2b0 : decide (10 < (l0.length : Int)) = true := qT c2; have c2b1 : decide (10 < l0.length) = true := qT (by omega); clear c2; obtain rfl := qI H
  go_enter Try.func50, Try.ntmps50
  go_wp2
  repeat (go_quiet (fail); try go_wp2)
  go_ret
  exact ⟨rT, mH HB⟩
 ·
  rw [if_neg c2] at H; have c2b0 : decide (10 < (l0.length : Int)) = false := qF c2; have c2b1 : decide (10 < l0.length) = false := qF (by omega); clear c2; have H' := kA H; clear H
  go_enter Try.func50, Try.ntmps50
  go_wp2
  repeat (go_quiet (fail); try go_wp2)
  go_loopg [10] k (fun kq v10 w' => ∃ (x10_1 : Int), v10 = .int .i64 x10_1 ∧ Aside0 (potsherdref12_MayEntries.l0 kq l0 l0 (l0.length : Int) x10_1 = some r) ∧ Aside0 (kq ≤ k) ∧ Aside0 (Below w.heap.size w w'))
  case atStart => exact ⟨(0), sI, H', ⟨Nat.le_refl _⟩, ⟨mH HB⟩⟩
  case round =>
   clear H'
   (try clear c2); (try clear c2b0); (try clear c2b1)
   obtain ⟨x10_1, rfl, HA, HK1, HB⟩ := hrel
   cases gk with
   | zero => exact absurd HA.out (by simp [potsherdref12_MayEntries.l0])
   | succ k1 =>
    have H := HA.out; clear HA; simp only [potsherdref12_MayEntries.l0] at H
    by_cases c3 : x10_1 < (l0.length : Int)
    ·
     rw [if_pos c3] at H; have c3b0 := qT c3; clear c3
     replace H := nP H; obtain ⟨c4, H⟩ := H; have c4b0 := qT c4; clear c4
     replace H := nP H; obtain ⟨c5, H⟩ := H; have c5b0 := qT c5; clear c5; replace H := qB H; obtain ⟨t103, A60, H⟩ := H; have A6 := kA A60; clear A60
     by_cases c7 : t103 = true
     ·
      subst c7
      have H1 : (if x10_1 > 0 then (if 0 ≤ (wrap64 (x10_1 - 1)) then (if (wrap64 (x10_1 - 1)) < (l0.length : Int) then (if ((Op.bytesLess (((rV l0 (wrap64 (x10_1 - 1))).f0).toList) (((rV l0 x10_1).f0).toList)) = true) then (if ((rV l0 x10_1).f1) < 1 then (some false) else (if ((rV l0 x10_1).f1) ≥ 12 then (some false) else (potsherdref12_MayEntries.l0 k1 l0 l0 (l0.length : Int) (wrap64 (x10_1 + 1))))) else (some false)) else (none)) else (none)) else (if ((rV l0 x10_1).f1) < 1 then (some false) else (if ((rV l0 x10_1).f1) ≥ 12 then (some false) else (potsherdref12_MayEntries.l0 k1 l0 l0 (l0.length : Int) (wrap64 (x10_1 + 1)))))) = some r := by rw [if_pos rfl] at H; exact H
      clear H; have H := H1; clear H1
      by_cases c8 : x10_1 > 0
      ·
       rw [if_pos c8] at H; have c8b0 : decide (0 < x10_1) = true := qT c8; clear c8; obtain ⟨ji9, hji9⟩ : ∃ j_ : Int, (wrap64 (x10_1 - 1)) = j_ := ⟨_, rfl⟩
       replace H : (if 0 ≤ (ji9) then (if (ji9) < (l0.length : Int) then (if ((Op.bytesLess (((rV l0 (ji9)).f0).toList) (((rV l0 x10_1).f0).toList)) = true) then (if ((rV l0 x10_1).f1) < 1 then (some false) else (if ((rV l0 x10_1).f1) ≥ 12 then (some false) else (potsherdref12_MayEntries.l0 k1 l0 l0 (l0.length : Int) (wrap64 (x10_1 + 1))))) else (some false)) else (none)) else (none)) = some r := by first | (rw [hji9] at H; exact H) | (simp only [hji9] at H ⊢; exact H)
       (try rw [hji9] at A6)
       have hji9w : (IntKind.i64.wrap (x10_1 - 1)) = ji9 := (i64_w _).trans hji9
       replace H := nP H; obtain ⟨c10, H⟩ := H; have c10b0 := qT c10; clear c10
       replace H := nP H; obtain ⟨c11, H⟩ := H; have c11b0 := qT c11; clear c11
       by_cases c12 : ((Op.bytesLess (((rV l0 (ji9)).f0).toList) (((rV l0 x10_1).f0).toList)) = true)
       ·
        rw [if_pos c12] at H; have c12b0 : (Op.bytesLess (((rV l0 (ji9)).f0).toList) (((rV l0 x10_1).f0).toList)) = true := c12; clear c12
        by_cases c13 : ((rV l0 x10_1).f1) < 1
        ·
         rw [if_pos c13] at H; have c13b0 := qT c13; clear c13; obtain rfl := qI H; have p101 : 0 ≤ (x10_1 : Int) := dT; have q101 : x10_1 < (l0.length : Int) := dT; obtain ⟨ad101, e101, hx101_0, hx101_1⟩ := at_T78 HR0.out x10_1 p101 q101
         cases e101
         replace hx101_0 := xC HB hx101_0; replace hx101_1 := xC HB hx101_1; replace p101 := eq_true p101; replace q101 := eq_true q101
         go_wp2_with (first | ((with_reducible refine gate_dst (N := 4) rfl ?_); refine bxE 78 (cs := #[.string (⟨#[]⟩ : ByteArray), .int .i64 0]) ?_; intro gb102 hg w14 hbox hb; have BK102 := kA hbox; have GW102 := kG HB hg; have GE102 := kG HB hg; replace HB := kH HB hb; clear hb hbox hg; obtain ⟨hcz15_0, hfz15_0⟩ := cY0 BK102; obtain ⟨hcz15_1, hfz15_1⟩ := cY1 BK102) | (go_at_call 69; (with_reducible refine (potsherdref12_Name.calls k1 ((rV l0 x10_1).f0) true _ A6.out).mono ?_); rintro e w' ⟨rfl, ⟨nd, rfl⟩⟩; (try first | exact ⟨rfl, _, World.drewN_drewN _ _ _⟩ | exact ⟨rfl, _, Eq.trans (World.drewN_drewN _ _ _) (congrArg (World.drewN _) (Nat.add_assoc _ _ _))⟩); have p104 : 0 ≤ ((ji9) : Int) := dT; have q104 : (ji9) < (l0.length : Int) := dT; obtain ⟨ad104, e104, hx104_0, hx104_1⟩ := at_T78 HR0.out (ji9) p104 q104; obtain rfl : ad101 = ad104 := (by injection e104); have hn104_0 : ad101.block ≠ gb102 := Nat.ne_of_lt (Nat.lt_of_lt_of_le (by have := World.block_lt_of_cell? _ _ hx104_0; first | rwa [add_block] at this | exact this) GW102.out); have hn104_1 : ad101.block ≠ gb102 := Nat.ne_of_lt (Nat.lt_of_lt_of_le (by have := World.block_lt_of_cell? _ _ hx104_0; first | rwa [add_block] at this | exact this) GW102.out); replace hx104_0 := xC HB hx104_0; replace hx104_1 := xC HB hx104_1; replace hx104_0 := cF hn104_0 0 (.string ((rV l0 x10_1).f0)) hx104_0; replace hx104_1 := cF hn104_0 0 (.string ((rV l0 x10_1).f0)) hx104_1; replace hx104_0 := cF hn104_1 1 (.int .i64 ((rV l0 x10_1).f1)) hx104_0; replace hx104_1 := cF hn104_1 1 (.int .i64 ((rV l0 x10_1).f1)) hx104_1; (try have hy104_0 := fun (n_ : Nat) => (show ((((w14.drewN n_).setCell ⟨gb102, 0, none⟩ (.string ((rV l0 x10_1).f0))).setCell ⟨gb102, 1, none⟩ (.int .i64 ((rV l0 x10_1).f1)))).cell? _ = some _ from hx104_0)); (try have hy104_1 := fun (n_ : Nat) => (show ((((w14.drewN n_).setCell ⟨gb102, 0, none⟩ (.string ((rV l0 x10_1).f0))).setCell ⟨gb102, 1, none⟩ (.int .i64 ((rV l0 x10_1).f1)))).cell? _ = some _ from hx104_1)); clear hn104_0; clear hn104_1; replace p104 := eq_true p104; replace q104 := eq_true q104))
         repeat (go_quiet (first | ((with_reducible refine gate_dst (N := 4) rfl ?_); refine bxE 78 (cs := #[.string (⟨#[]⟩ : ByteArray), .int .i64 0]) ?_; intro gb102 hg w14 hbox hb; have BK102 := kA hbox; have GW102 := kG HB hg; have GE102 := kG HB hg; replace HB := kH HB hb; clear hb hbox hg; obtain ⟨hcz15_0, hfz15_0⟩ := cY0 BK102; obtain ⟨hcz15_1, hfz15_1⟩ := cY1 BK102) | (go_at_call 69; (with_reducible refine (potsherdref12_Name.calls k1 ((rV l0 x10_1).f0) true _ A6.out).mono ?_); rintro e w' ⟨rfl, ⟨nd, rfl⟩⟩; (try first | exact ⟨rfl, _, World.drewN_drewN _ _ _⟩ | exact ⟨rfl, _, Eq.trans (World.drewN_drewN _ _ _) (congrArg (World.drewN _) (Nat.add_assoc _ _ _))⟩); have p104 : 0 ≤ ((ji9) : Int) := dT; have q104 : (ji9) < (l0.length : Int) := dT; obtain ⟨ad104, e104, hx104_0, hx104_1⟩ := at_T78 HR0.out (ji9) p104 q104; obtain rfl : ad101 = ad104 := (by injection e104); have hn104_0 : ad101.block ≠ gb102 := Nat.ne_of_lt (Nat.lt_of_lt_of_le (by have := World.block_lt_of_cell? _ _ hx104_0; first | rwa [add_block] at this | exact this) GW102.out); have hn104_1 : ad101.block ≠ gb102 := Nat.ne_of_lt (Nat.lt_of_lt_of_le (by have := World.block_lt_of_cell? _ _ hx104_0; first | rwa [add_block] at this | exact this) GW102.out); replace hx104_0 := xC HB hx104_0; replace hx104_1 := xC HB hx104_1; replace hx104_0 := cF hn104_0 0 (.string ((rV l0 x10_1).f0)) hx104_0; replace hx104_1 := cF hn104_0 0 (.string ((rV l0 x10_1).f0)) hx104_1; replace hx104_0 := cF hn104_1 1 (.int .i64 ((rV l0 x10_1).f1)) hx104_0; replace hx104_1 := cF hn104_1 1 (.int .i64 ((rV l0 x10_1).f1)) hx104_1; (try have hy104_0 := fun (n_ : Nat) => (show ((((w14.drewN n_).setCell ⟨gb102, 0, none⟩ (.string ((rV l0 x10_1).f0))).setCell ⟨gb102, 1, none⟩ (.int .i64 ((rV l0 x10_1).f1)))).cell? _ = some _ from hx104_0)); (try have hy104_1 := fun (n_ : Nat) => (show ((((w14.drewN n_).setCell ⟨gb102, 0, none⟩ (.string ((rV l0 x10_1).f0))).setCell ⟨gb102, 1, none⟩ (.int .i64 ((rV l0 x10_1).f1)))).cell? _ = some _ from hx104_1)); clear hn104_0; clear hn104_1; replace p104 := eq_true p104; replace q104 := eq_true q104)); try go_wp2_with (first | ((with_reducible refine gate_dst (N := 4) rfl ?_); refine bxE 78 (cs := #[.string (⟨#[]⟩ : ByteArray), .int .i64 0]) ?_; intro gb102 hg w14 hbox hb; have BK102 := kA hbox; have GW102 := kG HB hg; have GE102 := kG HB hg; replace HB := kH HB hb; clear hb hbox hg; obtain ⟨hcz15_0, hfz15_0⟩ := cY0 BK102; obtain ⟨hcz15_1, hfz15_1⟩ := cY1 BK102) | (go_at_call 69; (with_reducible refine (potsherdref12_Name.calls k1 ((rV l0 x10_1).f0) true _ A6.out).mono ?_); rintro e w' ⟨rfl, ⟨nd, rfl⟩⟩; (try first | exact ⟨rfl, _, World.drewN_drewN _ _ _⟩ | exact ⟨rfl, _, Eq.trans (World.drewN_drewN _ _ _) (congrArg (World.drewN _) (Nat.add_assoc _ _ _))⟩); have p104 : 0 ≤ ((ji9) : Int) := dT; have q104 : (ji9) < (l0.length : Int) := dT; obtain ⟨ad104, e104, hx104_0, hx104_1⟩ := at_T78 HR0.out (ji9) p104 q104; obtain rfl : ad101 = ad104 := (by injection e104); have hn104_0 : ad101.block ≠ gb102 := Nat.ne_of_lt (Nat.lt_of_lt_of_le (by have := World.block_lt_of_cell? _ _ hx104_0; first | rwa [add_block] at this | exact this) GW102.out); have hn104_1 : ad101.block ≠ gb102 := Nat.ne_of_lt (Nat.lt_of_lt_of_le (by have := World.block_lt_of_cell? _ _ hx104_0; first | rwa [add_block] at this | exact this) GW102.out); replace hx104_0 := xC HB hx104_0; replace hx104_1 := xC HB hx104_1; replace hx104_0 := cF hn104_0 0 (.string ((rV l0 x10_1).f0)) hx104_0; replace hx104_1 := cF hn104_0 0 (.string ((rV l0 x10_1).f0)) hx104_1; replace hx104_0 := cF hn104_1 1 (.int .i64 ((rV l0 x10_1).f1)) hx104_0; replace hx104_1 := cF hn104_1 1 (.int .i64 ((rV l0 x10_1).f1)) hx104_1; (try have hy104_0 := fun (n_ : Nat) => (show ((((w14.drewN n_).setCell ⟨gb102, 0, none⟩ (.string ((rV l0 x10_1).f0))).setCell ⟨gb102, 1, none⟩ (.int .i64 ((rV l0 x10_1).f1)))).cell? _ = some _ from hx104_0)); (try have hy104_1 := fun (n_ : Nat) => (show ((((w14.drewN n_).setCell ⟨gb102, 0, none⟩ (.string ((rV l0 x10_1).f0))).setCell ⟨gb102, 1, none⟩ (.int .i64 ((rV l0 x10_1).f1)))).cell? _ = some _ from hx104_1)); clear hn104_0; clear hn104_1; replace p104 := eq_true p104; replace q104 := eq_true q104)))
         go_ret
         exact ⟨by first | rfl | exact congrArg (fun b_ => Ending.returned (Value.bool b_)) HRET.out | (rw [HRET.out]) | (simp [errW_none, errW_some] <;> rfl) | (simp only [← hji9]; first | rfl | (simp [errW_none, errW_some] <;> rfl)) | (simp [*, errW_none, errW_some] <;> rfl), mH HB⟩
        ·
         rw [if_neg c13] at H; have c13b0 := qF c13; clear c13
         by_cases c16 : ((rV l0 x10_1).f1) ≥ 12
         ·
          rw [if_pos c16] at H; have c16b0 : decide (12 ≤ ((rV l0 x10_1).f1)) = true := qT c16; clear c16; obtain rfl := qI H; have p101 : 0 ≤ (x10_1 : Int) := dT; have q101 : x10_1 < (l0.length : Int) := dT; obtain ⟨ad101, e101, hx101_0, hx101_1⟩ := at_T78 HR0.out x10_1 p101 q101
          cases e101
          replace hx101_0 := xC HB hx101_0; replace hx101_1 := xC HB hx101_1; replace p101 := eq_true p101; replace q101 := eq_true q101
          go_wp2_with (first | ((with_reducible refine gate_dst (N := 4) rfl ?_); refine bxE 78 (cs := #[.string (⟨#[]⟩ : ByteArray), .int .i64 0]) ?_; intro gb102 hg w17 hbox hb; have BK102 := kA hbox; have GW102 := kG HB hg; have GE102 := kG HB hg; replace HB := kH HB hb; clear hb hbox hg; obtain ⟨hcz18_0, hfz18_0⟩ := cY0 BK102; obtain ⟨hcz18_1, hfz18_1⟩ := cY1 BK102) | (go_at_call 69; (with_reducible refine (potsherdref12_Name.calls k1 ((rV l0 x10_1).f0) true _ A6.out).mono ?_); rintro e w' ⟨rfl, ⟨nd, rfl⟩⟩; (try first | exact ⟨rfl, _, World.drewN_drewN _ _ _⟩ | exact ⟨rfl, _, Eq.trans (World.drewN_drewN _ _ _) (congrArg (World.drewN _) (Nat.add_assoc _ _ _))⟩); have p104 : 0 ≤ ((ji9) : Int) := dT; have q104 : (ji9) < (l0.length : Int) := dT; obtain ⟨ad104, e104, hx104_0, hx104_1⟩ := at_T78 HR0.out (ji9) p104 q104; obtain rfl : ad101 = ad104 := (by injection e104); have hn104_0 : ad101.block ≠ gb102 := Nat.ne_of_lt (Nat.lt_of_lt_of_le (by have := World.block_lt_of_cell? _ _ hx104_0; first | rwa [add_block] at this | exact this) GW102.out); have hn104_1 : ad101.block ≠ gb102 := Nat.ne_of_lt (Nat.lt_of_lt_of_le (by have := World.block_lt_of_cell? _ _ hx104_0; first | rwa [add_block] at this | exact this) GW102.out); replace hx104_0 := xC HB hx104_0; replace hx104_1 := xC HB hx104_1; replace hx104_0 := cF hn104_0 0 (.string ((rV l0 x10_1).f0)) hx104_0; replace hx104_1 := cF hn104_0 0 (.string ((rV l0 x10_1).f0)) hx104_1; replace hx104_0 := cF hn104_1 1 (.int .i64 ((rV l0 x10_1).f1)) hx104_0; replace hx104_1 := cF hn104_1 1 (.int .i64 ((rV l0 x10_1).f1)) hx104_1; (try have hy104_0 := fun (n_ : Nat) => (show ((((w17.drewN n_).setCell ⟨gb102, 0, none⟩ (.string ((rV l0 x10_1).f0))).setCell ⟨gb102, 1, none⟩ (.int .i64 ((rV l0 x10_1).f1)))).cell? _ = some _ from hx104_0)); (try have hy104_1 := fun (n_ : Nat) => (show ((((w17.drewN n_).setCell ⟨gb102, 0, none⟩ (.string ((rV l0 x10_1).f0))).setCell ⟨gb102, 1, none⟩ (.int .i64 ((rV l0 x10_1).f1)))).cell? _ = some _ from hx104_1)); clear hn104_0; clear hn104_1; replace p104 := eq_true p104; replace q104 := eq_true q104))
          repeat (go_quiet (first | ((with_reducible refine gate_dst (N := 4) rfl ?_); refine bxE 78 (cs := #[.string (⟨#[]⟩ : ByteArray), .int .i64 0]) ?_; intro gb102 hg w17 hbox hb; have BK102 := kA hbox; have GW102 := kG HB hg; have GE102 := kG HB hg; replace HB := kH HB hb; clear hb hbox hg; obtain ⟨hcz18_0, hfz18_0⟩ := cY0 BK102; obtain ⟨hcz18_1, hfz18_1⟩ := cY1 BK102) | (go_at_call 69; (with_reducible refine (potsherdref12_Name.calls k1 ((rV l0 x10_1).f0) true _ A6.out).mono ?_); rintro e w' ⟨rfl, ⟨nd, rfl⟩⟩; (try first | exact ⟨rfl, _, World.drewN_drewN _ _ _⟩ | exact ⟨rfl, _, Eq.trans (World.drewN_drewN _ _ _) (congrArg (World.drewN _) (Nat.add_assoc _ _ _))⟩); have p104 : 0 ≤ ((ji9) : Int) := dT; have q104 : (ji9) < (l0.length : Int) := dT; obtain ⟨ad104, e104, hx104_0, hx104_1⟩ := at_T78 HR0.out (ji9) p104 q104; obtain rfl : ad101 = ad104 := (by injection e104); have hn104_0 : ad101.block ≠ gb102 := Nat.ne_of_lt (Nat.lt_of_lt_of_le (by have := World.block_lt_of_cell? _ _ hx104_0; first | rwa [add_block] at this | exact this) GW102.out); have hn104_1 : ad101.block ≠ gb102 := Nat.ne_of_lt (Nat.lt_of_lt_of_le (by have := World.block_lt_of_cell? _ _ hx104_0; first | rwa [add_block] at this | exact this) GW102.out); replace hx104_0 := xC HB hx104_0; replace hx104_1 := xC HB hx104_1; replace hx104_0 := cF hn104_0 0 (.string ((rV l0 x10_1).f0)) hx104_0; replace hx104_1 := cF hn104_0 0 (.string ((rV l0 x10_1).f0)) hx104_1; replace hx104_0 := cF hn104_1 1 (.int .i64 ((rV l0 x10_1).f1)) hx104_0; replace hx104_1 := cF hn104_1 1 (.int .i64 ((rV l0 x10_1).f1)) hx104_1; (try have hy104_0 := fun (n_ : Nat) => (show ((((w17.drewN n_).setCell ⟨gb102, 0, none⟩ (.string ((rV l0 x10_1).f0))).setCell ⟨gb102, 1, none⟩ (.int .i64 ((rV l0 x10_1).f1)))).cell? _ = some _ from hx104_0)); (try have hy104_1 := fun (n_ : Nat) => (show ((((w17.drewN n_).setCell ⟨gb102, 0, none⟩ (.string ((rV l0 x10_1).f0))).setCell ⟨gb102, 1, none⟩ (.int .i64 ((rV l0 x10_1).f1)))).cell? _ = some _ from hx104_1)); clear hn104_0; clear hn104_1; replace p104 := eq_true p104; replace q104 := eq_true q104)); try go_wp2_with (first | ((with_reducible refine gate_dst (N := 4) rfl ?_); refine bxE 78 (cs := #[.string (⟨#[]⟩ : ByteArray), .int .i64 0]) ?_; intro gb102 hg w17 hbox hb; have BK102 := kA hbox; have GW102 := kG HB hg; have GE102 := kG HB hg; replace HB := kH HB hb; clear hb hbox hg; obtain ⟨hcz18_0, hfz18_0⟩ := cY0 BK102; obtain ⟨hcz18_1, hfz18_1⟩ := cY1 BK102) | (go_at_call 69; (with_reducible refine (potsherdref12_Name.calls k1 ((rV l0 x10_1).f0) true _ A6.out).mono ?_); rintro e w' ⟨rfl, ⟨nd, rfl⟩⟩; (try first | exact ⟨rfl, _, World.drewN_drewN _ _ _⟩ | exact ⟨rfl, _, Eq.trans (World.drewN_drewN _ _ _) (congrArg (World.drewN _) (Nat.add_assoc _ _ _))⟩); have p104 : 0 ≤ ((ji9) : Int) := dT; have q104 : (ji9) < (l0.length : Int) := dT; obtain ⟨ad104, e104, hx104_0, hx104_1⟩ := at_T78 HR0.out (ji9) p104 q104; obtain rfl : ad101 = ad104 := (by injection e104); have hn104_0 : ad101.block ≠ gb102 := Nat.ne_of_lt (Nat.lt_of_lt_of_le (by have := World.block_lt_of_cell? _ _ hx104_0; first | rwa [add_block] at this | exact this) GW102.out); have hn104_1 : ad101.block ≠ gb102 := Nat.ne_of_lt (Nat.lt_of_lt_of_le (by have := World.block_lt_of_cell? _ _ hx104_0; first | rwa [add_block] at this | exact this) GW102.out); replace hx104_0 := xC HB hx104_0; replace hx104_1 := xC HB hx104_1; replace hx104_0 := cF hn104_0 0 (.string ((rV l0 x10_1).f0)) hx104_0; replace hx104_1 := cF hn104_0 0 (.string ((rV l0 x10_1).f0)) hx104_1; replace hx104_0 := cF hn104_1 1 (.int .i64 ((rV l0 x10_1).f1)) hx104_0; replace hx104_1 := cF hn104_1 1 (.int .i64 ((rV l0 x10_1).f1)) hx104_1; (try have hy104_0 := fun (n_ : Nat) => (show ((((w17.drewN n_).setCell ⟨gb102, 0, none⟩ (.string ((rV l0 x10_1).f0))).setCell ⟨gb102, 1, none⟩ (.int .i64 ((rV l0 x10_1).f1)))).cell? _ = some _ from hx104_0)); (try have hy104_1 := fun (n_ : Nat) => (show ((((w17.drewN n_).setCell ⟨gb102, 0, none⟩ (.string ((rV l0 x10_1).f0))).setCell ⟨gb102, 1, none⟩ (.int .i64 ((rV l0 x10_1).f1)))).cell? _ = some _ from hx104_1)); clear hn104_0; clear hn104_1; replace p104 := eq_true p104; replace q104 := eq_true q104)))
          go_ret
          exact ⟨by first | rfl | exact congrArg (fun b_ => Ending.returned (Value.bool b_)) HRET.out | (rw [HRET.out]) | (simp [errW_none, errW_some] <;> rfl) | (simp only [← hji9]; first | rfl | (simp [errW_none, errW_some] <;> rfl)) | (simp [*, errW_none, errW_some] <;> rfl), mH HB⟩
         ·
          rw [if_neg c16] at H; have c16b0 : decide (12 ≤ ((rV l0 x10_1).f1)) = false := qF c16; clear c16; have H' := kA H; clear H; have p101 : 0 ≤ (x10_1 : Int) := dT; have q101 : x10_1 < (l0.length : Int) := dT; obtain ⟨ad101, e101, hx101_0, hx101_1⟩ := at_T78 HR0.out x10_1 p101 q101
          cases e101
          replace hx101_0 := xC HB hx101_0; replace hx101_1 := xC HB hx101_1; replace p101 := eq_true p101; replace q101 := eq_true q101
          go_wp2_with (first | ((with_reducible refine gate_dst (N := 4) rfl ?_); refine bxE 78 (cs := #[.string (⟨#[]⟩ : ByteArray), .int .i64 0]) ?_; intro gb102 hg w19 hbox hb; have BK102 := kA hbox; have GW102 := kG HB hg; have GE102 := kG HB hg; replace HB := kH HB hb; clear hb hbox hg; obtain ⟨hcz20_0, hfz20_0⟩ := cY0 BK102; obtain ⟨hcz20_1, hfz20_1⟩ := cY1 BK102) | (go_at_call 69; (with_reducible refine (potsherdref12_Name.calls k1 ((rV l0 x10_1).f0) true _ A6.out).mono ?_); rintro e w' ⟨rfl, ⟨nd, rfl⟩⟩; (try first | exact ⟨rfl, _, World.drewN_drewN _ _ _⟩ | exact ⟨rfl, _, Eq.trans (World.drewN_drewN _ _ _) (congrArg (World.drewN _) (Nat.add_assoc _ _ _))⟩); have p104 : 0 ≤ ((ji9) : Int) := dT; have q104 : (ji9) < (l0.length : Int) := dT; obtain ⟨ad104, e104, hx104_0, hx104_1⟩ := at_T78 HR0.out (ji9) p104 q104; obtain rfl : ad101 = ad104 := (by injection e104); have hn104_0 : ad101.block ≠ gb102 := Nat.ne_of_lt (Nat.lt_of_lt_of_le (by have := World.block_lt_of_cell? _ _ hx104_0; first | rwa [add_block] at this | exact this) GW102.out); have hn104_1 : ad101.block ≠ gb102 := Nat.ne_of_lt (Nat.lt_of_lt_of_le (by have := World.block_lt_of_cell? _ _ hx104_0; first | rwa [add_block] at this | exact this) GW102.out); replace hx104_0 := xC HB hx104_0; replace hx104_1 := xC HB hx104_1; replace hx104_0 := cF hn104_0 0 (.string ((rV l0 x10_1).f0)) hx104_0; replace hx104_1 := cF hn104_0 0 (.string ((rV l0 x10_1).f0)) hx104_1; replace hx104_0 := cF hn104_1 1 (.int .i64 ((rV l0 x10_1).f1)) hx104_0; replace hx104_1 := cF hn104_1 1 (.int .i64 ((rV l0 x10_1).f1)) hx104_1; (try have hy104_0 := fun (n_ : Nat) => (show ((((w19.drewN n_).setCell ⟨gb102, 0, none⟩ (.string ((rV l0 x10_1).f0))).setCell ⟨gb102, 1, none⟩ (.int .i64 ((rV l0 x10_1).f1)))).cell? _ = some _ from hx104_0)); (try have hy104_1 := fun (n_ : Nat) => (show ((((w19.drewN n_).setCell ⟨gb102, 0, none⟩ (.string ((rV l0 x10_1).f0))).setCell ⟨gb102, 1, none⟩ (.int .i64 ((rV l0 x10_1).f1)))).cell? _ = some _ from hx104_1)); clear hn104_0; clear hn104_1; replace p104 := eq_true p104; replace q104 := eq_true q104))
          repeat (go_quiet (first | ((with_reducible refine gate_dst (N := 4) rfl ?_); refine bxE 78 (cs := #[.string (⟨#[]⟩ : ByteArray), .int .i64 0]) ?_; intro gb102 hg w19 hbox hb; have BK102 := kA hbox; have GW102 := kG HB hg; have GE102 := kG HB hg; replace HB := kH HB hb; clear hb hbox hg; obtain ⟨hcz20_0, hfz20_0⟩ := cY0 BK102; obtain ⟨hcz20_1, hfz20_1⟩ := cY1 BK102) | (go_at_call 69; (with_reducible refine (potsherdref12_Name.calls k1 ((rV l0 x10_1).f0) true _ A6.out).mono ?_); rintro e w' ⟨rfl, ⟨nd, rfl⟩⟩; (try first | exact ⟨rfl, _, World.drewN_drewN _ _ _⟩ | exact ⟨rfl, _, Eq.trans (World.drewN_drewN _ _ _) (congrArg (World.drewN _) (Nat.add_assoc _ _ _))⟩); have p104 : 0 ≤ ((ji9) : Int) := dT; have q104 : (ji9) < (l0.length : Int) := dT; obtain ⟨ad104, e104, hx104_0, hx104_1⟩ := at_T78 HR0.out (ji9) p104 q104; obtain rfl : ad101 = ad104 := (by injection e104); have hn104_0 : ad101.block ≠ gb102 := Nat.ne_of_lt (Nat.lt_of_lt_of_le (by have := World.block_lt_of_cell? _ _ hx104_0; first | rwa [add_block] at this | exact this) GW102.out); have hn104_1 : ad101.block ≠ gb102 := Nat.ne_of_lt (Nat.lt_of_lt_of_le (by have := World.block_lt_of_cell? _ _ hx104_0; first | rwa [add_block] at this | exact this) GW102.out); replace hx104_0 := xC HB hx104_0; replace hx104_1 := xC HB hx104_1; replace hx104_0 := cF hn104_0 0 (.string ((rV l0 x10_1).f0)) hx104_0; replace hx104_1 := cF hn104_0 0 (.string ((rV l0 x10_1).f0)) hx104_1; replace hx104_0 := cF hn104_1 1 (.int .i64 ((rV l0 x10_1).f1)) hx104_0; replace hx104_1 := cF hn104_1 1 (.int .i64 ((rV l0 x10_1).f1)) hx104_1; (try have hy104_0 := fun (n_ : Nat) => (show ((((w19.drewN n_).setCell ⟨gb102, 0, none⟩ (.string ((rV l0 x10_1).f0))).setCell ⟨gb102, 1, none⟩ (.int .i64 ((rV l0 x10_1).f1)))).cell? _ = some _ from hx104_0)); (try have hy104_1 := fun (n_ : Nat) => (show ((((w19.drewN n_).setCell ⟨gb102, 0, none⟩ (.string ((rV l0 x10_1).f0))).setCell ⟨gb102, 1, none⟩ (.int .i64 ((rV l0 x10_1).f1)))).cell? _ = some _ from hx104_1)); clear hn104_0; clear hn104_1; replace p104 := eq_true p104; replace q104 := eq_true q104)); try go_wp2_with (first | ((with_reducible refine gate_dst (N := 4) rfl ?_); refine bxE 78 (cs := #[.string (⟨#[]⟩ : ByteArray), .int .i64 0]) ?_; intro gb102 hg w19 hbox hb; have BK102 := kA hbox; have GW102 := kG HB hg; have GE102 := kG HB hg; replace HB := kH HB hb; clear hb hbox hg; obtain ⟨hcz20_0, hfz20_0⟩ := cY0 BK102; obtain ⟨hcz20_1, hfz20_1⟩ := cY1 BK102) | (go_at_call 69; (with_reducible refine (potsherdref12_Name.calls k1 ((rV l0 x10_1).f0) true _ A6.out).mono ?_); rintro e w' ⟨rfl, ⟨nd, rfl⟩⟩; (try first | exact ⟨rfl, _, World.drewN_drewN _ _ _⟩ | exact ⟨rfl, _, Eq.trans (World.drewN_drewN _ _ _) (congrArg (World.drewN _) (Nat.add_assoc _ _ _))⟩); have p104 : 0 ≤ ((ji9) : Int) := dT; have q104 : (ji9) < (l0.length : Int) := dT; obtain ⟨ad104, e104, hx104_0, hx104_1⟩ := at_T78 HR0.out (ji9) p104 q104; obtain rfl : ad101 = ad104 := (by injection e104); have hn104_0 : ad101.block ≠ gb102 := Nat.ne_of_lt (Nat.lt_of_lt_of_le (by have := World.block_lt_of_cell? _ _ hx104_0; first | rwa [add_block] at this | exact this) GW102.out); have hn104_1 : ad101.block ≠ gb102 := Nat.ne_of_lt (Nat.lt_of_lt_of_le (by have := World.block_lt_of_cell? _ _ hx104_0; first | rwa [add_block] at this | exact this) GW102.out); replace hx104_0 := xC HB hx104_0; replace hx104_1 := xC HB hx104_1; replace hx104_0 := cF hn104_0 0 (.string ((rV l0 x10_1).f0)) hx104_0; replace hx104_1 := cF hn104_0 0 (.string ((rV l0 x10_1).f0)) hx104_1; replace hx104_0 := cF hn104_1 1 (.int .i64 ((rV l0 x10_1).f1)) hx104_0; replace hx104_1 := cF hn104_1 1 (.int .i64 ((rV l0 x10_1).f1)) hx104_1; (try have hy104_0 := fun (n_ : Nat) => (show ((((w19.drewN n_).setCell ⟨gb102, 0, none⟩ (.string ((rV l0 x10_1).f0))).setCell ⟨gb102, 1, none⟩ (.int .i64 ((rV l0 x10_1).f1)))).cell? _ = some _ from hx104_0)); (try have hy104_1 := fun (n_ : Nat) => (show ((((w19.drewN n_).setCell ⟨gb102, 0, none⟩ (.string ((rV l0 x10_1).f0))).setCell ⟨gb102, 1, none⟩ (.int .i64 ((rV l0 x10_1).f1)))).cell? _ = some _ from hx104_1)); clear hn104_0; clear hn104_1; replace p104 := eq_true p104; replace q104 := eq_true q104)))
          go_roundg k1
          case measure => have := HK1.out; omega
          case rel => exact ⟨(wrap64 (x10_1 + 1)), sI, H', ⟨oK HK1⟩, ⟨mH HB⟩⟩
       ·
        rw [if_neg c12] at H
        have c12b0 : (Op.bytesLess (((rV l0 (ji9)).f0).toList) (((rV l0 x10_1).f0).toList)) = false := by simpa using c12
        clear c12; obtain rfl := qI H; have p101 : 0 ≤ (x10_1 : Int) := dT; have q101 : x10_1 < (l0.length : Int) := dT; obtain ⟨ad101, e101, hx101_0, hx101_1⟩ := at_T78 HR0.out x10_1 p101 q101
        cases e101
        replace hx101_0 := xC HB hx101_0; replace hx101_1 := xC HB hx101_1; replace p101 := eq_true p101; replace q101 := eq_true q101
        go_wp2_with (first | ((with_reducible refine gate_dst (N := 4) rfl ?_); refine bxE 78 (cs := #[.string (⟨#[]⟩ : ByteArray), .int .i64 0]) ?_; intro gb102 hg w21 hbox hb; have BK102 := kA hbox; have GW102 := kG HB hg; have GE102 := kG HB hg; replace HB := kH HB hb; clear hb hbox hg; obtain ⟨hcz22_0, hfz22_0⟩ := cY0 BK102; obtain ⟨hcz22_1, hfz22_1⟩ := cY1 BK102) | (go_at_call 69; (with_reducible refine (potsherdref12_Name.calls k1 ((rV l0 x10_1).f0) true _ A6.out).mono ?_); rintro e w' ⟨rfl, ⟨nd, rfl⟩⟩; (try first | exact ⟨rfl, _, World.drewN_drewN _ _ _⟩ | exact ⟨rfl, _, Eq.trans (World.drewN_drewN _ _ _) (congrArg (World.drewN _) (Nat.add_assoc _ _ _))⟩); have p104 : 0 ≤ ((ji9) : Int) := dT; have q104 : (ji9) < (l0.length : Int) := dT; obtain ⟨ad104, e104, hx104_0, hx104_1⟩ := at_T78 HR0.out (ji9) p104 q104; obtain rfl : ad101 = ad104 := (by injection e104); have hn104_0 : ad101.block ≠ gb102 := Nat.ne_of_lt (Nat.lt_of_lt_of_le (by have := World.block_lt_of_cell? _ _ hx104_0; first | rwa [add_block] at this | exact this) GW102.out); have hn104_1 : ad101.block ≠ gb102 := Nat.ne_of_lt (Nat.lt_of_lt_of_le (by have := World.block_lt_of_cell? _ _ hx104_0; first | rwa [add_block] at this | exact this) GW102.out); replace hx104_0 := xC HB hx104_0; replace hx104_1 := xC HB hx104_1; replace hx104_0 := cF hn104_0 0 (.string ((rV l0 x10_1).f0)) hx104_0; replace hx104_1 := cF hn104_0 0 (.string ((rV l0 x10_1).f0)) hx104_1; replace hx104_0 := cF hn104_1 1 (.int .i64 ((rV l0 x10_1).f1)) hx104_0; replace hx104_1 := cF hn104_1 1 (.int .i64 ((rV l0 x10_1).f1)) hx104_1; (try have hy104_0 := fun (n_ : Nat) => (show ((((w21.drewN n_).setCell ⟨gb102, 0, none⟩ (.string ((rV l0 x10_1).f0))).setCell ⟨gb102, 1, none⟩ (.int .i64 ((rV l0 x10_1).f1)))).cell? _ = some _ from hx104_0)); (try have hy104_1 := fun (n_ : Nat) => (show ((((w21.drewN n_).setCell ⟨gb102, 0, none⟩ (.string ((rV l0 x10_1).f0))).setCell ⟨gb102, 1, none⟩ (.int .i64 ((rV l0 x10_1).f1)))).cell? _ = some _ from hx104_1)); clear hn104_0; clear hn104_1; replace p104 := eq_true p104; replace q104 := eq_true q104))
        repeat (go_quiet (first | ((with_reducible refine gate_dst (N := 4) rfl ?_); refine bxE 78 (cs := #[.string (⟨#[]⟩ : ByteArray), .int .i64 0]) ?_; intro gb102 hg w21 hbox hb; have BK102 := kA hbox; have GW102 := kG HB hg; have GE102 := kG HB hg; replace HB := kH HB hb; clear hb hbox hg; obtain ⟨hcz22_0, hfz22_0⟩ := cY0 BK102; obtain ⟨hcz22_1, hfz22_1⟩ := cY1 BK102) | (go_at_call 69; (with_reducible refine (potsherdref12_Name.calls k1 ((rV l0 x10_1).f0) true _ A6.out).mono ?_); rintro e w' ⟨rfl, ⟨nd, rfl⟩⟩; (try first | exact ⟨rfl, _, World.drewN_drewN _ _ _⟩ | exact ⟨rfl, _, Eq.trans (World.drewN_drewN _ _ _) (congrArg (World.drewN _) (Nat.add_assoc _ _ _))⟩); have p104 : 0 ≤ ((ji9) : Int) := dT; have q104 : (ji9) < (l0.length : Int) := dT; obtain ⟨ad104, e104, hx104_0, hx104_1⟩ := at_T78 HR0.out (ji9) p104 q104; obtain rfl : ad101 = ad104 := (by injection e104); have hn104_0 : ad101.block ≠ gb102 := Nat.ne_of_lt (Nat.lt_of_lt_of_le (by have := World.block_lt_of_cell? _ _ hx104_0; first | rwa [add_block] at this | exact this) GW102.out); have hn104_1 : ad101.block ≠ gb102 := Nat.ne_of_lt (Nat.lt_of_lt_of_le (by have := World.block_lt_of_cell? _ _ hx104_0; first | rwa [add_block] at this | exact this) GW102.out); replace hx104_0 := xC HB hx104_0; replace hx104_1 := xC HB hx104_1; replace hx104_0 := cF hn104_0 0 (.string ((rV l0 x10_1).f0)) hx104_0; replace hx104_1 := cF hn104_0 0 (.string ((rV l0 x10_1).f0)) hx104_1; replace hx104_0 := cF hn104_1 1 (.int .i64 ((rV l0 x10_1).f1)) hx104_0; replace hx104_1 := cF hn104_1 1 (.int .i64 ((rV l0 x10_1).f1)) hx104_1; (try have hy104_0 := fun (n_ : Nat) => (show ((((w21.drewN n_).setCell ⟨gb102, 0, none⟩ (.string ((rV l0 x10_1).f0))).setCell ⟨gb102, 1, none⟩ (.int .i64 ((rV l0 x10_1).f1)))).cell? _ = some _ from hx104_0)); (try have hy104_1 := fun (n_ : Nat) => (show ((((w21.drewN n_).setCell ⟨gb102, 0, none⟩ (.string ((rV l0 x10_1).f0))).setCell ⟨gb102, 1, none⟩ (.int .i64 ((rV l0 x10_1).f1)))).cell? _ = some _ from hx104_1)); clear hn104_0; clear hn104_1; replace p104 := eq_true p104; replace q104 := eq_true q104)); try go_wp2_with (first | ((with_reducible refine gate_dst (N := 4) rfl ?_); refine bxE 78 (cs := #[.string (⟨#[]⟩ : ByteArray), .int .i64 0]) ?_; intro gb102 hg w21 hbox hb; have BK102 := kA hbox; have GW102 := kG HB hg; have GE102 := kG HB hg; replace HB := kH HB hb; clear hb hbox hg; obtain ⟨hcz22_0, hfz22_0⟩ := cY0 BK102; obtain ⟨hcz22_1, hfz22_1⟩ := cY1 BK102) | (go_at_call 69; (with_reducible refine (potsherdref12_Name.calls k1 ((rV l0 x10_1).f0) true _ A6.out).mono ?_); rintro e w' ⟨rfl, ⟨nd, rfl⟩⟩; (try first | exact ⟨rfl, _, World.drewN_drewN _ _ _⟩ | exact ⟨rfl, _, Eq.trans (World.drewN_drewN _ _ _) (congrArg (World.drewN _) (Nat.add_assoc _ _ _))⟩); have p104 : 0 ≤ ((ji9) : Int) := dT; have q104 : (ji9) < (l0.length : Int) := dT; obtain ⟨ad104, e104, hx104_0, hx104_1⟩ := at_T78 HR0.out (ji9) p104 q104; obtain rfl : ad101 = ad104 := (by injection e104); have hn104_0 : ad101.block ≠ gb102 := Nat.ne_of_lt (Nat.lt_of_lt_of_le (by have := World.block_lt_of_cell? _ _ hx104_0; first | rwa [add_block] at this | exact this) GW102.out); have hn104_1 : ad101.block ≠ gb102 := Nat.ne_of_lt (Nat.lt_of_lt_of_le (by have := World.block_lt_of_cell? _ _ hx104_0; first | rwa [add_block] at this | exact this) GW102.out); replace hx104_0 := xC HB hx104_0; replace hx104_1 := xC HB hx104_1; replace hx104_0 := cF hn104_0 0 (.string ((rV l0 x10_1).f0)) hx104_0; replace hx104_1 := cF hn104_0 0 (.string ((rV l0 x10_1).f0)) hx104_1; replace hx104_0 := cF hn104_1 1 (.int .i64 ((rV l0 x10_1).f1)) hx104_0; replace hx104_1 := cF hn104_1 1 (.int .i64 ((rV l0 x10_1).f1)) hx104_1; (try have hy104_0 := fun (n_ : Nat) => (show ((((w21.drewN n_).setCell ⟨gb102, 0, none⟩ (.string ((rV l0 x10_1).f0))).setCell ⟨gb102, 1, none⟩ (.int .i64 ((rV l0 x10_1).f1)))).cell? _ = some _ from hx104_0)); (try have hy104_1 := fun (n_ : Nat) => (show ((((w21.drewN n_).setCell ⟨gb102, 0, none⟩ (.string ((rV l0 x10_1).f0))).setCell ⟨gb102, 1, none⟩ (.int .i64 ((rV l0 x10_1).f1)))).cell? _ = some _ from hx104_1)); clear hn104_0; clear hn104_1; replace p104 := eq_true p104; replace q104 := eq_true q104)))
        go_ret
        exact ⟨by first | rfl | exact congrArg (fun b_ => Ending.returned (Value.bool b_)) HRET.out | (rw [HRET.out]) | (simp [errW_none, errW_some] <;> rfl) | (simp only [← hji9]; first | rfl | (simp [errW_none, errW_some] <;> rfl)) | (simp [*, errW_none, errW_some] <;> rfl), mH HB⟩
      ·
       rw [if_neg c8] at H; have c8b0 : decide (0 < x10_1) = false := qF c8; clear c8
       by_cases c23 : ((rV l0 x10_1).f1) < 1
       ·
        rw [if_pos c23] at H; have c23b0 := qT c23; clear c23; obtain rfl := qI H; have p101 : 0 ≤ (x10_1 : Int) := dT; have q101 : x10_1 < (l0.length : Int) := dT; obtain ⟨ad101, e101, hx101_0, hx101_1⟩ := at_T78 HR0.out x10_1 p101 q101
        cases e101
        replace hx101_0 := xC HB hx101_0; replace hx101_1 := xC HB hx101_1; replace p101 := eq_true p101; replace q101 := eq_true q101
        go_wp2_with (first | ((with_reducible refine gate_dst (N := 4) rfl ?_); refine bxE 78 (cs := #[.string (⟨#[]⟩ : ByteArray), .int .i64 0]) ?_; intro gb102 hg w24 hbox hb; have BK102 := kA hbox; have GW102 := kG HB hg; have GE102 := kG HB hg; replace HB := kH HB hb; clear hb hbox hg; obtain ⟨hcz25_0, hfz25_0⟩ := cY0 BK102; obtain ⟨hcz25_1, hfz25_1⟩ := cY1 BK102) | (go_at_call 69; (with_reducible refine (potsherdref12_Name.calls k1 ((rV l0 x10_1).f0) true _ A6.out).mono ?_); rintro e w' ⟨rfl, ⟨nd, rfl⟩⟩; (try first | exact ⟨rfl, _, World.drewN_drewN _ _ _⟩ | exact ⟨rfl, _, Eq.trans (World.drewN_drewN _ _ _) (congrArg (World.drewN _) (Nat.add_assoc _ _ _))⟩)))
        repeat (go_quiet (first | ((with_reducible refine gate_dst (N := 4) rfl ?_); refine bxE 78 (cs := #[.string (⟨#[]⟩ : ByteArray), .int .i64 0]) ?_; intro gb102 hg w24 hbox hb; have BK102 := kA hbox; have GW102 := kG HB hg; have GE102 := kG HB hg; replace HB := kH HB hb; clear hb hbox hg; obtain ⟨hcz25_0, hfz25_0⟩ := cY0 BK102; obtain ⟨hcz25_1, hfz25_1⟩ := cY1 BK102) | (go_at_call 69; (with_reducible refine (potsherdref12_Name.calls k1 ((rV l0 x10_1).f0) true _ A6.out).mono ?_); rintro e w' ⟨rfl, ⟨nd, rfl⟩⟩; (try first | exact ⟨rfl, _, World.drewN_drewN _ _ _⟩ | exact ⟨rfl, _, Eq.trans (World.drewN_drewN _ _ _) (congrArg (World.drewN _) (Nat.add_assoc _ _ _))⟩))); try go_wp2_with (first | ((with_reducible refine gate_dst (N := 4) rfl ?_); refine bxE 78 (cs := #[.string (⟨#[]⟩ : ByteArray), .int .i64 0]) ?_; intro gb102 hg w24 hbox hb; have BK102 := kA hbox; have GW102 := kG HB hg; have GE102 := kG HB hg; replace HB := kH HB hb; clear hb hbox hg; obtain ⟨hcz25_0, hfz25_0⟩ := cY0 BK102; obtain ⟨hcz25_1, hfz25_1⟩ := cY1 BK102) | (go_at_call 69; (with_reducible refine (potsherdref12_Name.calls k1 ((rV l0 x10_1).f0) true _ A6.out).mono ?_); rintro e w' ⟨rfl, ⟨nd, rfl⟩⟩; (try first | exact ⟨rfl, _, World.drewN_drewN _ _ _⟩ | exact ⟨rfl, _, Eq.trans (World.drewN_drewN _ _ _) (congrArg (World.drewN _) (Nat.add_assoc _ _ _))⟩))))
        go_ret
        exact ⟨rT, mH HB⟩
       ·
        rw [if_neg c23] at H; have c23b0 := qF c23; clear c23
        by_cases c26 : ((rV l0 x10_1).f1) ≥ 12
        ·
         rw [if_pos c26] at H; have c26b0 : decide (12 ≤ ((rV l0 x10_1).f1)) = true := qT c26; clear c26; obtain rfl := qI H; have p101 : 0 ≤ (x10_1 : Int) := dT; have q101 : x10_1 < (l0.length : Int) := dT; obtain ⟨ad101, e101, hx101_0, hx101_1⟩ := at_T78 HR0.out x10_1 p101 q101
         cases e101
         replace hx101_0 := xC HB hx101_0; replace hx101_1 := xC HB hx101_1; replace p101 := eq_true p101; replace q101 := eq_true q101
         go_wp2_with (first | ((with_reducible refine gate_dst (N := 4) rfl ?_); refine bxE 78 (cs := #[.string (⟨#[]⟩ : ByteArray), .int .i64 0]) ?_; intro gb102 hg w27 hbox hb; have BK102 := kA hbox; have GW102 := kG HB hg; have GE102 := kG HB hg; replace HB := kH HB hb; clear hb hbox hg; obtain ⟨hcz28_0, hfz28_0⟩ := cY0 BK102; obtain ⟨hcz28_1, hfz28_1⟩ := cY1 BK102) | (go_at_call 69; (with_reducible refine (potsherdref12_Name.calls k1 ((rV l0 x10_1).f0) true _ A6.out).mono ?_); rintro e w' ⟨rfl, ⟨nd, rfl⟩⟩; (try first | exact ⟨rfl, _, World.drewN_drewN _ _ _⟩ | exact ⟨rfl, _, Eq.trans (World.drewN_drewN _ _ _) (congrArg (World.drewN _) (Nat.add_assoc _ _ _))⟩)))
         repeat (go_quiet (first | ((with_reducible refine gate_dst (N := 4) rfl ?_); refine bxE 78 (cs := #[.string (⟨#[]⟩ : ByteArray), .int .i64 0]) ?_; intro gb102 hg w27 hbox hb; have BK102 := kA hbox; have GW102 := kG HB hg; have GE102 := kG HB hg; replace HB := kH HB hb; clear hb hbox hg; obtain ⟨hcz28_0, hfz28_0⟩ := cY0 BK102; obtain ⟨hcz28_1, hfz28_1⟩ := cY1 BK102) | (go_at_call 69; (with_reducible refine (potsherdref12_Name.calls k1 ((rV l0 x10_1).f0) true _ A6.out).mono ?_); rintro e w' ⟨rfl, ⟨nd, rfl⟩⟩; (try first | exact ⟨rfl, _, World.drewN_drewN _ _ _⟩ | exact ⟨rfl, _, Eq.trans (World.drewN_drewN _ _ _) (congrArg (World.drewN _) (Nat.add_assoc _ _ _))⟩))); try go_wp2_with (first | ((with_reducible refine gate_dst (N := 4) rfl ?_); refine bxE 78 (cs := #[.string (⟨#[]⟩ : ByteArray), .int .i64 0]) ?_; intro gb102 hg w27 hbox hb; have BK102 := kA hbox; have GW102 := kG HB hg; have GE102 := kG HB hg; replace HB := kH HB hb; clear hb hbox hg; obtain ⟨hcz28_0, hfz28_0⟩ := cY0 BK102; obtain ⟨hcz28_1, hfz28_1⟩ := cY1 BK102) | (go_at_call 69; (with_reducible refine (potsherdref12_Name.calls k1 ((rV l0 x10_1).f0) true _ A6.out).mono ?_); rintro e w' ⟨rfl, ⟨nd, rfl⟩⟩; (try first | exact ⟨rfl, _, World.drewN_drewN _ _ _⟩ | exact ⟨rfl, _, Eq.trans (World.drewN_drewN _ _ _) (congrArg (World.drewN _) (Nat.add_assoc _ _ _))⟩))))
         go_ret
         exact ⟨rT, mH HB⟩
        ·
         rw [if_neg c26] at H; have c26b0 : decide (12 ≤ ((rV l0 x10_1).f1)) = false := qF c26; clear c26; have H' := kA H; clear H; have p101 : 0 ≤ (x10_1 : Int) := dT; have q101 : x10_1 < (l0.length : Int) := dT; obtain ⟨ad101, e101, hx101_0, hx101_1⟩ := at_T78 HR0.out x10_1 p101 q101
         cases e101
         replace hx101_0 := xC HB hx101_0; replace hx101_1 := xC HB hx101_1; replace p101 := eq_true p101; replace q101 := eq_true q101
         go_wp2_with (first | ((with_reducible refine gate_dst (N := 4) rfl ?_); refine bxE 78 (cs := #[.string (⟨#[]⟩ : ByteArray), .int .i64 0]) ?_; intro gb102 hg w29 hbox hb; have BK102 := kA hbox; have GW102 := kG HB hg; have GE102 := kG HB hg; replace HB := kH HB hb; clear hb hbox hg; obtain ⟨hcz30_0, hfz30_0⟩ := cY0 BK102; obtain ⟨hcz30_1, hfz30_1⟩ := cY1 BK102) | (go_at_call 69; (with_reducible refine (potsherdref12_Name.calls k1 ((rV l0 x10_1).f0) true _ A6.out).mono ?_); rintro e w' ⟨rfl, ⟨nd, rfl⟩⟩; (try first | exact ⟨rfl, _, World.drewN_drewN _ _ _⟩ | exact ⟨rfl, _, Eq.trans (World.drewN_drewN _ _ _) (congrArg (World.drewN _) (Nat.add_assoc _ _ _))⟩)))
         repeat (go_quiet (first | ((with_reducible refine gate_dst (N := 4) rfl ?_); refine bxE 78 (cs := #[.string (⟨#[]⟩ : ByteArray), .int .i64 0]) ?_; intro gb102 hg w29 hbox hb; have BK102 := kA hbox; have GW102 := kG HB hg; have GE102 := kG HB hg; replace HB := kH HB hb; clear hb hbox hg; obtain ⟨hcz30_0, hfz30_0⟩ := cY0 BK102; obtain ⟨hcz30_1, hfz30_1⟩ := cY1 BK102) | (go_at_call 69; (with_reducible refine (potsherdref12_Name.calls k1 ((rV l0 x10_1).f0) true _ A6.out).mono ?_); rintro e w' ⟨rfl, ⟨nd, rfl⟩⟩; (try first | exact ⟨rfl, _, World.drewN_drewN _ _ _⟩ | exact ⟨rfl, _, Eq.trans (World.drewN_drewN _ _ _) (congrArg (World.drewN _) (Nat.add_assoc _ _ _))⟩))); try go_wp2_with (first | ((with_reducible refine gate_dst (N := 4) rfl ?_); refine bxE 78 (cs := #[.string (⟨#[]⟩ : ByteArray), .int .i64 0]) ?_; intro gb102 hg w29 hbox hb; have BK102 := kA hbox; have GW102 := kG HB hg; have GE102 := kG HB hg; replace HB := kH HB hb; clear hb hbox hg; obtain ⟨hcz30_0, hfz30_0⟩ := cY0 BK102; obtain ⟨hcz30_1, hfz30_1⟩ := cY1 BK102) | (go_at_call 69; (with_reducible refine (potsherdref12_Name.calls k1 ((rV l0 x10_1).f0) true _ A6.out).mono ?_); rintro e w' ⟨rfl, ⟨nd, rfl⟩⟩; (try first | exact ⟨rfl, _, World.drewN_drewN _ _ _⟩ | exact ⟨rfl, _, Eq.trans (World.drewN_drewN _ _ _) (congrArg (World.drewN _) (Nat.add_assoc _ _ _))⟩))))
         go_roundg k1
         case measure => have := HK1.out; omega
         case rel => exact ⟨(wrap64 (x10_1 + 1)), sI, H', ⟨oK HK1⟩, ⟨mH HB⟩⟩
     ·
      replace c7 := Bool.eq_false_iff.mpr c7; subst c7
      have H1 : (some false) = some r := by rw [if_neg (show ¬ (false = true) by decide)] at H; exact H
      clear H; have H := H1; clear H1; obtain rfl := qI H; have p101 : 0 ≤ (x10_1 : Int) := dT; have q101 : x10_1 < (l0.length : Int) := dT; obtain ⟨ad101, e101, hx101_0, hx101_1⟩ := at_T78 HR0.out x10_1 p101 q101
      cases e101
      replace hx101_0 := xC HB hx101_0; replace hx101_1 := xC HB hx101_1; replace p101 := eq_true p101; replace q101 := eq_true q101
      go_wp2_with (first | ((with_reducible refine gate_dst (N := 4) rfl ?_); refine bxE 78 (cs := #[.string (⟨#[]⟩ : ByteArray), .int .i64 0]) ?_; intro gb102 hg w31 hbox hb; have BK102 := kA hbox; have GW102 := kG HB hg; have GE102 := kG HB hg; replace HB := kH HB hb; clear hb hbox hg; obtain ⟨hcz32_0, hfz32_0⟩ := cY0 BK102; obtain ⟨hcz32_1, hfz32_1⟩ := cY1 BK102) | (go_at_call 69; (with_reducible refine (potsherdref12_Name.calls k1 ((rV l0 x10_1).f0) false _ A6.out).mono ?_); rintro e w' ⟨rfl, ⟨nd, rfl⟩⟩; (try first | exact ⟨rfl, _, World.drewN_drewN _ _ _⟩ | exact ⟨rfl, _, Eq.trans (World.drewN_drewN _ _ _) (congrArg (World.drewN _) (Nat.add_assoc _ _ _))⟩)))
      repeat (go_quiet (first | ((with_reducible refine gate_dst (N := 4) rfl ?_); refine bxE 78 (cs := #[.string (⟨#[]⟩ : ByteArray), .int .i64 0]) ?_; intro gb102 hg w31 hbox hb; have BK102 := kA hbox; have GW102 := kG HB hg; have GE102 := kG HB hg; replace HB := kH HB hb; clear hb hbox hg; obtain ⟨hcz32_0, hfz32_0⟩ := cY0 BK102; obtain ⟨hcz32_1, hfz32_1⟩ := cY1 BK102) | (go_at_call 69; (with_reducible refine (potsherdref12_Name.calls k1 ((rV l0 x10_1).f0) false _ A6.out).mono ?_); rintro e w' ⟨rfl, ⟨nd, rfl⟩⟩; (try first | exact ⟨rfl, _, World.drewN_drewN _ _ _⟩ | exact ⟨rfl, _, Eq.trans (World.drewN_drewN _ _ _) (congrArg (World.drewN _) (Nat.add_assoc _ _ _))⟩))); try go_wp2_with (first | ((with_reducible refine gate_dst (N := 4) rfl ?_); refine bxE 78 (cs := #[.string (⟨#[]⟩ : ByteArray), .int .i64 0]) ?_; intro gb102 hg w31 hbox hb; have BK102 := kA hbox; have GW102 := kG HB hg; have GE102 := kG HB hg; replace HB := kH HB hb; clear hb hbox hg; obtain ⟨hcz32_0, hfz32_0⟩ := cY0 BK102; obtain ⟨hcz32_1, hfz32_1⟩ := cY1 BK102) | (go_at_call 69; (with_reducible refine (potsherdref12_Name.calls k1 ((rV l0 x10_1).f0) false _ A6.out).mono ?_); rintro e w' ⟨rfl, ⟨nd, rfl⟩⟩; (try first | exact ⟨rfl, _, World.drewN_drewN _ _ _⟩ | exact ⟨rfl, _, Eq.trans (World.drewN_drewN _ _ _) (congrArg (World.drewN _) (Nat.add_assoc _ _ _))⟩))))
      go_ret
      exact ⟨rT, mH HB⟩
    ·
     rw [if_neg c3] at H; have c3b0 := qF c3; clear c3; obtain rfl := qI H
     go_wp2
     repeat (go_quiet (fail); try go_wp2)
     go_ret
     exact ⟨rT, mH HB⟩
mutual
def potsherdref12_MayNode.j0 : Nat → Bool → Int → Int → Int → List Int → List (S78) → Option (Bool)
 | 0, _, _, _, _, _, _ => none
 | k + 1, x81, x106000, x106001, x106002, x106003, x106004 => if x81 = true then (some false) else (potsherdref12_MayNode.l0 k x106003 (x106003.length : Int) 0 x106000 x106001 x106002 x106003 x106004)
def potsherdref12_MayNode.l0 : Nat → List Int → Int → Int → Int → Int → Int → List Int → List (S78) → Option (Bool)
 | 0, _, _, _, _, _, _, _, _ => none
 | k + 1, x83, x84, x85, x106000, x106001, x106002, x106003, x106004 => if x85 < x84 then (if 0 ≤ x85 then (if x85 < (x83.length : Int) then (if (rd x83 x85) < 0 then (some false) else (if (rd x83 x85) > 1099511627776 then (some false) else (if (rd x83 x85) = 0 then (potsherdref12_MayNode.l0 k x83 x84 (wrap64 (x85 + 1)) x106000 x106001 x106002 x106003 x106004) else (if (wrap64 (x85 * 16)) ≥ x106002 then (some false) else (potsherdref12_MayNode.l0 k x83 x84 (wrap64 (x85 + 1)) x106000 x106001 x106002 x106003 x106004))))) else (none)) else (none)) else (some true)
end
def potsherdref12_MayNode.f (k : Nat) (a0_0 : Int) (a0_1 : Int) (a0_2 : Int) (l0_3 : List Int) (l0_4 : List (S78)) : Option (Bool) := if a0_0 = 0 then (if a0_1 = 0 then (if a0_2 = 0 then (if (l0_3.length : Int) = 0 then (some ((l0_4.length : Int) == 0)) else (some false)) else (some false)) else (some false)) else (if a0_0 = 2 then (if a0_1 = 1 then (if a0_2 = 0 then (if (l0_3.length : Int) = 0 then ((potsherdref12_MayEntries.f k l0_4).bind fun t106 => (some t106)) else (some false)) else (some false)) else (some false)) else (if a0_0 = 1 then (if a0_1 < 0 then (potsherdref12_MayNode.j0 k true a0_0 a0_1 a0_2 l0_3 l0_4) else (if a0_1 > 120 then (potsherdref12_MayNode.j0 k true a0_0 a0_1 a0_2 l0_3 l0_4) else (if a0_2 < 0 then (potsherdref12_MayNode.j0 k true a0_0 a0_1 a0_2 l0_3 l0_4) else (if a0_2 > 80 then (potsherdref12_MayNode.j0 k true a0_0 a0_1 a0_2 l0_3 l0_4) else (if (l0_3.length : Int) = 5 then (potsherdref12_MayNode.j0 k ((l0_4.length : Int) != 0) a0_0 a0_1 a0_2 l0_3 l0_4) else (potsherdref12_MayNode.j0 k true a0_0 a0_1 a0_2 l0_3 l0_4)))))) else (some false)))
theorem potsherdref12_MayNode.mono_l : ∀ k, (∀ y0 y1 y2 y3 y4 y5, LeO (potsherdref12_MayNode.j0 k y0 y1 y2 y3 y4 y5) (potsherdref12_MayNode.j0 (k + 1) y0 y1 y2 y3 y4 y5)) ∧ (∀ y0 y1 y2 y3 y4 y5 y6 y7, LeO (potsherdref12_MayNode.l0 k y0 y1 y2 y3 y4 y5 y6 y7) (potsherdref12_MayNode.l0 (k + 1) y0 y1 y2 y3 y4 y5 y6 y7))
 | 0 => ⟨fun _ _ _ _ _ _ r h => by simp [potsherdref12_MayNode.j0] at h, fun _ _ _ _ _ _ _ _ r h => by simp [potsherdref12_MayNode.l0] at h⟩
 | k + 1 => by
  obtain ⟨ih0, ih1⟩ := potsherdref12_MayNode.mono_l k; refine ⟨?_, ?_⟩
  ·
   intro y0 y1 y2 y3 y4 y5
   unfold potsherdref12_MayNode.j0
   repeat' with_reducible first | apply ih0 | apply ih1 | apply potsherdref12_MayEntries.mono | exact LeO.refl _ | exact LeO.none _ | refine LeO.ite ?_ ?_ | refine LeO.bind ?_ (fun _ => ?_)
  ·
   intro y0 y1 y2 y3 y4 y5 y6 y7
   unfold potsherdref12_MayNode.l0
   repeat' with_reducible first | apply ih0 | apply ih1 | apply potsherdref12_MayEntries.mono | exact LeO.refl _ | exact LeO.none _ | refine LeO.ite ?_ ?_ | refine LeO.bind ?_ (fun _ => ?_)
theorem potsherdref12_MayNode.mono : ∀ a0 a1 a2 a3 a4 k, LeO (potsherdref12_MayNode.f k a0 a1 a2 a3 a4) (potsherdref12_MayNode.f (k + 1) a0 a1 a2 a3 a4) := by
 intro a0 a1 a2 a3 a4 k; obtain ⟨ih0, ih1⟩ := potsherdref12_MayNode.mono_l k
 unfold potsherdref12_MayNode.f
 repeat' with_reducible first | apply ih0 | apply ih1 | apply potsherdref12_MayEntries.mono | exact LeO.refl _ | exact LeO.none _ | refine LeO.ite ?_ ?_ | refine LeO.bind ?_ (fun _ => ?_)
set_option maxHeartbeats 8000000 in
set_option maxRecDepth 100000 in
theorem potsherdref12_MayNode.calls (k : Nat) (a0_0 : Int) (a0_1 : Int) (a0_2 : Int) (A0_3 : Option Addr) (c0_3 : Nat) (l0_3 : List Int) (A0_4 : Option Addr) (c0_4 : Nat) (l0_4 : List (S78)) (r : Bool) (w : World) (hr0_3 : Kd.C (Kd.int .i64) w A0_3 l0_3.length l0_3) (hc0_3 : l0_3.length ≤ c0_3) (hr0_4 : Kd.C k78 w A0_4 l0_4.length l0_4) (hc0_4 : l0_4.length ≤ c0_4) (h : potsherdref12_MayNode.f k a0_0 a0_1 a0_2 l0_3 l0_4 = some r) :
 Calls Try.prog 24 #[.agg #[.int .i64 a0_0, .int .i64 a0_1, .int .i64 a0_2, .slice A0_3 l0_3.length c0_3, .slice A0_4 l0_4.length c0_4]] w fun e w' => e = .returned (.bool r) ∧ Below w.heap.size w w' := by
 have hu28 := Try.underlying28; have HR0_3 := kA hr0_3; have HC0_3 := kA hc0_3; clear hr0_3 hc0_3; have HR0_4 := kA hr0_4; have HC0_4 := kA hc0_4; clear hr0_4 hc0_4; have HB := kA (Below.refl w.heap.size w); have H : (if a0_0 = 0 then (if a0_1 = 0 then (if a0_2 = 0 then (if (l0_3.length : Int) = 0 then (some ((l0_4.length : Int) == 0)) else (some false)) else (some false)) else (some false)) else (if a0_0 = 2 then (if a0_1 = 1 then (if a0_2 = 0 then (if (l0_3.length : Int) = 0 then ((potsherdref12_MayEntries.f k l0_4).bind fun t106 => (some t106)) else (some false)) else (some false)) else (some false)) else (if a0_0 = 1 then (if a0_1 < 0 then (potsherdref12_MayNode.j0 k true a0_0 a0_1 a0_2 l0_3 l0_4) else (if a0_1 > 120 then (potsherdref12_MayNode.j0 k true a0_0 a0_1 a0_2 l0_3 l0_4) else (if a0_2 < 0 then (potsherdref12_MayNode.j0 k true a0_0 a0_1 a0_2 l0_3 l0_4) else (if a0_2 > 80 then (potsherdref12_MayNode.j0 k true a0_0 a0_1 a0_2 l0_3 l0_4) else (if (l0_3.length : Int) = 5 then (potsherdref12_MayNode.j0 k ((l0_4.length : Int) != 0) a0_0 a0_1 a0_2 l0_3 l0_4) else (potsherdref12_MayNode.j0 k true a0_0 a0_1 a0_2 l0_3 l0_4)))))) else (some false)))) = some r := h; clear h
 by_cases c2 : a0_0 = 0
 ·
  rw [if_pos c2] at H; obtain ⟨c2b0, c2b1⟩ := eP c2; clear c2
  by_cases c3 : a0_1 = 0
  ·
   rw [if_pos c3] at H; obtain ⟨c3b0, c3b1⟩ := eP c3; clear c3
   by_cases c4 : a0_2 = 0
   ·
    rw [if_pos c4] at H; obtain ⟨c4b0, c4b1⟩ := eP c4; clear c4
    by_cases c5 : (l0_3.length : Int) = 0
    ·
     rw [if_pos c5] at H; obtain ⟨c5b0, c5b1⟩ := eP c5; clear c5; obtain rfl := qI H
     go_enter Try.func24, Try.ntmps24
     go_wp2_with (first | ((with_reducible refine gate_dst (N := 1) rfl ?_); (try (refine gate_guard (by rfl) ?_; dsimp only)); refine bxE 28 (cs := #[.int .i64 a0_0, .int .i64 a0_1, .int .i64 a0_2, .slice A0_3 l0_3.length c0_3, .slice A0_4 l0_4.length c0_4]) ?_; intro gb105 hg w6 hbox hb; have BK105 := kA hbox; have GW105 := kG HB hg; have GE105 := kG HB hg; replace HB := kH HB hb; clear hb hbox hg; obtain ⟨hcz7_0, hfz7_0⟩ := cY0 BK105; obtain ⟨hcz7_1, hfz7_1⟩ := cY1 BK105; obtain ⟨hcz7_2, hfz7_2⟩ := cY2 BK105; obtain ⟨hcz7_3, hfz7_3⟩ := cY3 BK105; obtain ⟨hcz7_4, hfz7_4⟩ := cY4 BK105))
     go_ret
     exact ⟨rT, mH HB⟩
    ·
     rw [if_neg c5] at H; obtain ⟨c5b0, c5b1⟩ := eN c5
     have c5b2 : ¬ (l0_3 = []) := fun h_ => c5 (by rw [h_]; rfl)
     obtain rfl := qI H
     go_enter Try.func24, Try.ntmps24
     go_wp2_with (first | ((with_reducible refine gate_dst (N := 1) rfl ?_); (try (refine gate_guard (by rfl) ?_; dsimp only)); refine bxE 28 (cs := #[.int .i64 a0_0, .int .i64 a0_1, .int .i64 a0_2, .slice A0_3 l0_3.length c0_3, .slice A0_4 l0_4.length c0_4]) ?_; intro gb105 hg w8 hbox hb; have BK105 := kA hbox; have GW105 := kG HB hg; have GE105 := kG HB hg; replace HB := kH HB hb; clear hb hbox hg; obtain ⟨hcz9_0, hfz9_0⟩ := cY0 BK105; obtain ⟨hcz9_1, hfz9_1⟩ := cY1 BK105; obtain ⟨hcz9_2, hfz9_2⟩ := cY2 BK105; obtain ⟨hcz9_3, hfz9_3⟩ := cY3 BK105; obtain ⟨hcz9_4, hfz9_4⟩ := cY4 BK105))
     go_ret
     exact ⟨rT, mH HB⟩
   ·
    rw [if_neg c4] at H; obtain ⟨c4b0, c4b1⟩ := eN c4; obtain rfl := qI H
    go_enter Try.func24, Try.ntmps24
    go_wp2_with (first | ((with_reducible refine gate_dst (N := 1) rfl ?_); (try (refine gate_guard (by rfl) ?_; dsimp only)); refine bxE 28 (cs := #[.int .i64 a0_0, .int .i64 a0_1, .int .i64 a0_2, .slice A0_3 l0_3.length c0_3, .slice A0_4 l0_4.length c0_4]) ?_; intro gb105 hg w10 hbox hb; have BK105 := kA hbox; have GW105 := kG HB hg; have GE105 := kG HB hg; replace HB := kH HB hb; clear hb hbox hg; obtain ⟨hcz11_0, hfz11_0⟩ := cY0 BK105; obtain ⟨hcz11_1, hfz11_1⟩ := cY1 BK105; obtain ⟨hcz11_2, hfz11_2⟩ := cY2 BK105; obtain ⟨hcz11_3, hfz11_3⟩ := cY3 BK105; obtain ⟨hcz11_4, hfz11_4⟩ := cY4 BK105))
    go_ret
    exact ⟨rT, mH HB⟩
  ·
   rw [if_neg c3] at H; obtain ⟨c3b0, c3b1⟩ := eN c3; obtain rfl := qI H
   go_enter Try.func24, Try.ntmps24
   go_wp2_with (first | ((with_reducible refine gate_dst (N := 1) rfl ?_); (try (refine gate_guard (by rfl) ?_; dsimp only)); refine bxE 28 (cs := #[.int .i64 a0_0, .int .i64 a0_1, .int .i64 a0_2, .slice A0_3 l0_3.length c0_3, .slice A0_4 l0_4.length c0_4]) ?_; intro gb105 hg w12 hbox hb; have BK105 := kA hbox; have GW105 := kG HB hg; have GE105 := kG HB hg; replace HB := kH HB hb; clear hb hbox hg; obtain ⟨hcz13_0, hfz13_0⟩ := cY0 BK105; obtain ⟨hcz13_1, hfz13_1⟩ := cY1 BK105; obtain ⟨hcz13_2, hfz13_2⟩ := cY2 BK105; obtain ⟨hcz13_3, hfz13_3⟩ := cY3 BK105; obtain ⟨hcz13_4, hfz13_4⟩ := cY4 BK105))
   go_ret
   exact ⟨rT, mH HB⟩
 ·
  rw [if_neg c2] at H; obtain ⟨c2b0, c2b1⟩ := eN c2
  by_cases c14 : a0_0 = 2
  ·
   rw [if_pos c14] at H; obtain ⟨c14b0, c14b1⟩ := eP c14; clear c14
   by_cases c15 : a0_1 = 1
   ·
    rw [if_pos c15] at H; obtain ⟨c15b0, c15b1⟩ := eP c15; clear c15
    by_cases c16 : a0_2 = 0
    ·
     rw [if_pos c16] at H; obtain ⟨c16b0, c16b1⟩ := eP c16; clear c16
     by_cases c17 : (l0_3.length : Int) = 0
     ·
      rw [if_pos c17] at H; obtain ⟨c17b0, c17b1⟩ := eP c17; clear c17; replace H := qB H; obtain ⟨t106, A180, H⟩ := H; have A18 := kA A180; clear A180; obtain rfl := qI H
      go_enter Try.func24, Try.ntmps24
      go_wp2_with (first | ((with_reducible refine gate_dst (N := 1) rfl ?_); (try (refine gate_guard (by rfl) ?_; dsimp only)); refine bxE 28 (cs := #[.int .i64 a0_0, .int .i64 a0_1, .int .i64 a0_2, .slice A0_3 l0_3.length c0_3, .slice A0_4 l0_4.length c0_4]) ?_; intro gb105 hg w19 hbox hb; have BK105 := kA hbox; have GW105 := kG HB hg; have GE105 := kG HB hg; replace HB := kH HB hb; clear hb hbox hg; obtain ⟨hcz20_0, hfz20_0⟩ := cY0 BK105; obtain ⟨hcz20_1, hfz20_1⟩ := cY1 BK105; obtain ⟨hcz20_2, hfz20_2⟩ := cY2 BK105; obtain ⟨hcz20_3, hfz20_3⟩ := cY3 BK105; obtain ⟨hcz20_4, hfz20_4⟩ := cY4 BK105) | (go_at_call 50; (with_reducible refine (potsherdref12_MayEntries.calls k _ _ l0_4 t106 _ ?side1 ?side2 A18.out).mono ?_); (case side1 => exact mC HR0_4 HB); (case side2 => exact HC0_4.out); rintro e w21 ⟨rfl, hb⟩; replace BK105 := kB BK105 hb; replace HB := kH HB hb; (try clear hb)))
      go_ret
      exact ⟨rT, mH HB⟩
     ·
      rw [if_neg c17] at H; obtain ⟨c17b0, c17b1⟩ := eN c17
      have c17b2 : ¬ (l0_3 = []) := fun h_ => c17 (by rw [h_]; rfl)
      obtain rfl := qI H
      go_enter Try.func24, Try.ntmps24
      go_wp2_with (first | ((with_reducible refine gate_dst (N := 1) rfl ?_); (try (refine gate_guard (by rfl) ?_; dsimp only)); refine bxE 28 (cs := #[.int .i64 a0_0, .int .i64 a0_1, .int .i64 a0_2, .slice A0_3 l0_3.length c0_3, .slice A0_4 l0_4.length c0_4]) ?_; intro gb105 hg w22 hbox hb; have BK105 := kA hbox; have GW105 := kG HB hg; have GE105 := kG HB hg; replace HB := kH HB hb; clear hb hbox hg; obtain ⟨hcz23_0, hfz23_0⟩ := cY0 BK105; obtain ⟨hcz23_1, hfz23_1⟩ := cY1 BK105; obtain ⟨hcz23_2, hfz23_2⟩ := cY2 BK105; obtain ⟨hcz23_3, hfz23_3⟩ := cY3 BK105; obtain ⟨hcz23_4, hfz23_4⟩ := cY4 BK105))
      go_ret
      exact ⟨rT, mH HB⟩
    ·
     rw [if_neg c16] at H; obtain ⟨c16b0, c16b1⟩ := eN c16; obtain rfl := qI H
     go_enter Try.func24, Try.ntmps24
     go_wp2_with (first | ((with_reducible refine gate_dst (N := 1) rfl ?_); (try (refine gate_guard (by rfl) ?_; dsimp only)); refine bxE 28 (cs := #[.int .i64 a0_0, .int .i64 a0_1, .int .i64 a0_2, .slice A0_3 l0_3.length c0_3, .slice A0_4 l0_4.length c0_4]) ?_; intro gb105 hg w24 hbox hb; have BK105 := kA hbox; have GW105 := kG HB hg; have GE105 := kG HB hg; replace HB := kH HB hb; clear hb hbox hg; obtain ⟨hcz25_0, hfz25_0⟩ := cY0 BK105; obtain ⟨hcz25_1, hfz25_1⟩ := cY1 BK105; obtain ⟨hcz25_2, hfz25_2⟩ := cY2 BK105; obtain ⟨hcz25_3, hfz25_3⟩ := cY3 BK105; obtain ⟨hcz25_4, hfz25_4⟩ := cY4 BK105))
     go_ret
     exact ⟨rT, mH HB⟩
   ·
    rw [if_neg c15] at H; obtain ⟨c15b0, c15b1⟩ := eN c15; obtain rfl := qI H
    go_enter Try.func24, Try.ntmps24
    go_wp2_with (first | ((with_reducible refine gate_dst (N := 1) rfl ?_); (try (refine gate_guard (by rfl) ?_; dsimp only)); refine bxE 28 (cs := #[.int .i64 a0_0, .int .i64 a0_1, .int .i64 a0_2, .slice A0_3 l0_3.length c0_3, .slice A0_4 l0_4.length c0_4]) ?_; intro gb105 hg w26 hbox hb; have BK105 := kA hbox; have GW105 := kG HB hg; have GE105 := kG HB hg; replace HB := kH HB hb; clear hb hbox hg; obtain ⟨hcz27_0, hfz27_0⟩ := cY0 BK105; obtain ⟨hcz27_1, hfz27_1⟩ := cY1 BK105; obtain ⟨hcz27_2, hfz27_2⟩ := cY2 BK105; obtain ⟨hcz27_3, hfz27_3⟩ := cY3 BK105; obtain ⟨hcz27_4, hfz27_4⟩ := cY4 BK105))
    go_ret
    exact ⟨rT, mH HB⟩
  ·
   rw [if_neg c14] at H; obtain ⟨c14b0, c14b1⟩ := eN c14
   by_cases c28 : a0_0 = 1
   ·
    rw [if_pos c28] at H; obtain ⟨c28b0, c28b1⟩ := eP c28; clear c28; have HC29 := kA H; clear H
    go_enter Try.func24, Try.ntmps24
    go_upto_region 8 with (first | ((with_reducible refine gate_dst (N := 1) rfl ?_); (try (refine gate_guard (by rfl) ?_; dsimp only)); refine bxE 28 (cs := #[.int .i64 a0_0, .int .i64 a0_1, .int .i64 a0_2, .slice A0_3 l0_3.length c0_3, .slice A0_4 l0_4.length c0_4]) ?_; intro gb105 hg w30 hbox hb; have BK105 := kA hbox; have GW105 := kG HB hg; have GE105 := kG HB hg; replace HB := kH HB hb; clear hb hbox hg; obtain ⟨hcz31_0, hfz31_0⟩ := cY0 BK105; obtain ⟨hcz31_1, hfz31_1⟩ := cY1 BK105; obtain ⟨hcz31_2, hfz31_2⟩ := cY2 BK105; obtain ⟨hcz31_3, hfz31_3⟩ := cY3 BK105; obtain ⟨hcz31_4, hfz31_4⟩ := cY4 BK105))
    (try simp only [Act.put, lT, l0_, lS])
    go_cut [81] (fun v81 wc => ∃ (kq : Nat) (x81_28 : Bool), v81 = .bool x81_28 ∧ Aside0 (potsherdref12_MayNode.j0 kq x81_28 a0_0 a0_1 a0_2 l0_3 l0_4 = some r) ∧ Aside0 (kq ≤ k) ∧ Aside0 (wc.heap[gb105]? = some (.cells #[.int .i64 a0_0, .int .i64 a0_1, .int .i64 a0_2, (.slice A0_3 l0_3.length c0_3), (.slice A0_4 l0_4.length c0_4)] 28 (0, 0))) ∧ Aside0 (Below w.heap.size w wc))
    case first =>
     have H := HC29.out; clear HC29
     by_cases c32 : a0_1 < 0
     ·
      rw [if_pos c32] at H; have c32b0 := qT c32; clear c32
      (first | rw [c32b0] | (simp only [i64_w, i32_w]; rw [c32b0]) | skip)
      have H' := kA H; clear H; obtain ⟨hcz33_0, hfz33_0⟩ := cY0 BK105; obtain ⟨hcz33_1, hfz33_1⟩ := cY1 BK105; obtain ⟨hcz33_2, hfz33_2⟩ := cY2 BK105; obtain ⟨hcz33_3, hfz33_3⟩ := cY3 BK105; obtain ⟨hcz33_4, hfz33_4⟩ := cY4 BK105
      go_wp2
      go_meet
      case rel => exact ⟨_, (true), sI, H', ⟨by first | omega | exact Nat.le_refl _⟩, ⟨mB BK105⟩, ⟨mH HB⟩⟩
     ·
      rw [if_neg c32] at H; have c32b0 := qF c32; clear c32
      (first | rw [c32b0] | (simp only [i64_w, i32_w]; rw [c32b0]) | skip)
      by_cases c34 : a0_1 > 120
      ·
       rw [if_pos c34] at H; have c34b0 : decide (120 < a0_1) = true := qT c34; clear c34; have H' := kA H; clear H; obtain ⟨hcz35_0, hfz35_0⟩ := cY0 BK105; obtain ⟨hcz35_1, hfz35_1⟩ := cY1 BK105; obtain ⟨hcz35_2, hfz35_2⟩ := cY2 BK105; obtain ⟨hcz35_3, hfz35_3⟩ := cY3 BK105; obtain ⟨hcz35_4, hfz35_4⟩ := cY4 BK105
       go_wp2
       go_meet
       case rel => exact ⟨_, (true), sI, H', ⟨by first | omega | exact Nat.le_refl _⟩, ⟨mB BK105⟩, ⟨mH HB⟩⟩
      ·
       rw [if_neg c34] at H; have c34b0 : decide (120 < a0_1) = false := qF c34; clear c34
       by_cases c36 : a0_2 < 0
       ·
        rw [if_pos c36] at H; have c36b0 := qT c36; clear c36; have H' := kA H; clear H; obtain ⟨hcz37_0, hfz37_0⟩ := cY0 BK105; obtain ⟨hcz37_1, hfz37_1⟩ := cY1 BK105; obtain ⟨hcz37_2, hfz37_2⟩ := cY2 BK105; obtain ⟨hcz37_3, hfz37_3⟩ := cY3 BK105; obtain ⟨hcz37_4, hfz37_4⟩ := cY4 BK105
        go_wp2
        go_meet
        case rel => exact ⟨_, (true), sI, H', ⟨by first | omega | exact Nat.le_refl _⟩, ⟨mB BK105⟩, ⟨mH HB⟩⟩
       ·
        rw [if_neg c36] at H; have c36b0 := qF c36; clear c36
        by_cases c38 : a0_2 > 80
        ·
         rw [if_pos c38] at H; have c38b0 : decide (80 < a0_2) = true := qT c38; clear c38; have H' := kA H; clear H; obtain ⟨hcz39_0, hfz39_0⟩ := cY0 BK105; obtain ⟨hcz39_1, hfz39_1⟩ := cY1 BK105; obtain ⟨hcz39_2, hfz39_2⟩ := cY2 BK105; obtain ⟨hcz39_3, hfz39_3⟩ := cY3 BK105; obtain ⟨hcz39_4, hfz39_4⟩ := cY4 BK105
         go_wp2
         go_meet
         case rel => exact ⟨_, (true), sI, H', ⟨by first | omega | exact Nat.le_refl _⟩, ⟨mB BK105⟩, ⟨mH HB⟩⟩
        ·
         rw [if_neg c38] at H; have c38b0 : decide (80 < a0_2) = false := qF c38; clear c38
         by_cases c40 : (l0_3.length : Int) = 5
         ·
          rw [if_pos c40] at H; obtain ⟨c40b0, c40b1⟩ := eP c40; clear c40; have H' := kA H; clear H; obtain ⟨hcz41_0, hfz41_0⟩ := cY0 BK105; obtain ⟨hcz41_1, hfz41_1⟩ := cY1 BK105; obtain ⟨hcz41_2, hfz41_2⟩ := cY2 BK105; obtain ⟨hcz41_3, hfz41_3⟩ := cY3 BK105; obtain ⟨hcz41_4, hfz41_4⟩ := cY4 BK105
          go_wp2
          go_meet
          case rel => exact ⟨_, (((l0_4.length : Int) != 0)), sI, H', ⟨by first | omega | exact Nat.le_refl _⟩, ⟨mB BK105⟩, ⟨mH HB⟩⟩
         ·
          rw [if_neg c40] at H; obtain ⟨c40b0, c40b1⟩ := eN c40; have H' := kA H; clear H; obtain ⟨hcz42_0, hfz42_0⟩ := cY0 BK105; obtain ⟨hcz42_1, hfz42_1⟩ := cY1 BK105; obtain ⟨hcz42_2, hfz42_2⟩ := cY2 BK105; obtain ⟨hcz42_3, hfz42_3⟩ := cY3 BK105; obtain ⟨hcz42_4, hfz42_4⟩ := cY4 BK105
          go_wp2
          go_meet
          case rel => exact ⟨_, (true), sI, H', ⟨by first | omega | exact Nat.le_refl _⟩, ⟨mB BK105⟩, ⟨mH HB⟩⟩
    case rest =>
     clear HC29
     (try clear c2); (try clear c2b0); (try clear c2b1); (try clear c14); (try clear c14b0); (try clear c14b1); (try clear c28); (try clear c28b0); (try clear c28b1); (try clear hcz31_0); (try clear hcz31_1); (try clear hcz31_2); (try clear hcz31_3); (try clear hcz31_4); (try clear hfz31_0); (try clear hfz31_1); (try clear hfz31_2); (try clear hfz31_3); (try clear hfz31_4)
     obtain ⟨kq, x81_28, rfl, HA, HJ28, BK105, HB⟩ := hcut
     cases kq with
     | zero => exact absurd HA.out (by simp [potsherdref12_MayNode.j0])
     | succ kj28 =>
      have H := HA.out; clear HA; simp only [potsherdref12_MayNode.j0] at H
      by_cases c43 : x81_28 = true
      ·
       subst c43
       have H1 : (some false) = some r := by rw [if_pos rfl] at H; exact H
       clear H; have H := H1; clear H1; obtain rfl := qI H
       go_wp2
       go_ret
       exact ⟨rT, mH HB⟩
      ·
       replace c43 := Bool.eq_false_iff.mpr c43; subst c43
       have H1 : (potsherdref12_MayNode.l0 kj28 l0_3 (l0_3.length : Int) 0 a0_0 a0_1 a0_2 l0_3 l0_4) = some r := by rw [if_neg (show ¬ (false = true) by decide)] at H; exact H
       clear H; have H := H1; clear H1; have H' := kA H; clear H; obtain ⟨hcz44_0, hfz44_0⟩ := cY0 BK105; obtain ⟨hcz44_1, hfz44_1⟩ := cY1 BK105; obtain ⟨hcz44_2, hfz44_2⟩ := cY2 BK105; obtain ⟨hcz44_3, hfz44_3⟩ := cY3 BK105; obtain ⟨hcz44_4, hfz44_4⟩ := cY4 BK105
       go_wp2
       go_loopg [85] kj28 (fun kq v85 w' => ∃ (x85_2 : Int), v85 = .int .i64 x85_2 ∧ Aside0 (potsherdref12_MayNode.l0 kq l0_3 (l0_3.length : Int) x85_2 a0_0 a0_1 a0_2 l0_3 l0_4 = some r) ∧ Aside0 (kq ≤ kj28) ∧ Aside0 (w'.heap[gb105]? = some (.cells #[.int .i64 a0_0, .int .i64 a0_1, .int .i64 a0_2, (.slice A0_3 l0_3.length c0_3), (.slice A0_4 l0_4.length c0_4)] 28 (0, 0))) ∧ Aside0 (Below w.heap.size w w'))
       case atStart => exact ⟨(0), sI, H', ⟨Nat.le_refl _⟩, ⟨mB BK105⟩, ⟨mH HB⟩⟩
       case round =>
        clear H'
        (try clear c2); (try clear c2b0); (try clear c2b1); (try clear c14); (try clear c14b0); (try clear c14b1); (try clear c28); (try clear c28b0); (try clear c28b1); (try clear c43); (try clear hcz31_0); (try clear hcz31_1); (try clear hcz31_2); (try clear hcz31_3); (try clear hcz31_4); (try clear hcz44_0); (try clear hcz44_1); (try clear hcz44_2); (try clear hcz44_3); (try clear hcz44_4); (try clear hfz31_0); (try clear hfz31_1); (try clear hfz31_2); (try clear hfz31_3); (try clear hfz31_4); (try clear hfz44_0); (try clear hfz44_1); (try clear hfz44_2); (try clear hfz44_3); (try clear hfz44_4)
        obtain ⟨x85_2, rfl, HA, HK2, BK105, HB⟩ := hrel
        cases gk with
        | zero => exact absurd HA.out (by simp [potsherdref12_MayNode.l0])
        | succ k2 =>
         have H := HA.out; clear HA; simp only [potsherdref12_MayNode.l0] at H
         by_cases c45 : x85_2 < (l0_3.length : Int)
         ·
          rw [if_pos c45] at H; have c45b0 := qT c45; clear c45
          replace H := nP H; obtain ⟨c46, H⟩ := H; have c46b0 := qT c46; clear c46
          replace H := nP H; obtain ⟨c47, H⟩ := H; have c47b0 := qT c47; clear c47
          by_cases c48 : (rd l0_3 x85_2) < 0
          ·
           rw [if_pos c48] at H; have c48b0 := qT c48; clear c48; obtain rfl := qI H; have p107 : 0 ≤ (x85_2 : Int) := dT; have q107 : x85_2 < (l0_3.length : Int) := dT; obtain ⟨ad107, e107, hx107_0⟩ := Kd.at_int HR0_3.out x85_2 p107 q107
           cases e107
           replace hx107_0 := xC HB hx107_0; replace p107 := eq_true p107; replace q107 := eq_true q107
           go_wp2
           go_ret
           exact ⟨rT, mH HB⟩
          ·
           rw [if_neg c48] at H; have c48b0 := qF c48; clear c48
           by_cases c49 : (rd l0_3 x85_2) > 1099511627776
           ·
            rw [if_pos c49] at H; have c49b0 : decide (1099511627776 < (rd l0_3 x85_2)) = true := qT c49; clear c49; obtain rfl := qI H; have p107 : 0 ≤ (x85_2 : Int) := dT; have q107 : x85_2 < (l0_3.length : Int) := dT; obtain ⟨ad107, e107, hx107_0⟩ := Kd.at_int HR0_3.out x85_2 p107 q107
            cases e107
            replace hx107_0 := xC HB hx107_0; replace p107 := eq_true p107; replace q107 := eq_true q107
            go_wp2
            go_ret
            exact ⟨rT, mH HB⟩
           ·
            rw [if_neg c49] at H; have c49b0 : decide (1099511627776 < (rd l0_3 x85_2)) = false := qF c49; clear c49
            by_cases c50 : (rd l0_3 x85_2) = 0
            ·
             rw [if_pos c50] at H; obtain ⟨c50b0, c50b1⟩ := eP c50; clear c50; have H' := kA H; clear H; have p107 : 0 ≤ (x85_2 : Int) := dT; have q107 : x85_2 < (l0_3.length : Int) := dT; obtain ⟨ad107, e107, hx107_0⟩ := Kd.at_int HR0_3.out x85_2 p107 q107
             cases e107
             replace hx107_0 := xC HB hx107_0; replace p107 := eq_true p107; replace q107 := eq_true q107
             go_wp2
             go_roundg k2
             case measure => have := HJ28.out; have := HK2.out; omega
             case rel => exact ⟨(wrap64 (x85_2 + 1)), sI, H', ⟨oM HJ28 HK2⟩, ⟨mB BK105⟩, ⟨mH HB⟩⟩
            ·
             rw [if_neg c50] at H; obtain ⟨c50b0, c50b1⟩ := eN c50
             by_cases c51 : (wrap64 (x85_2 * 16)) ≥ a0_2
             ·
              rw [if_pos c51] at H; have c51b0 : decide (a0_2 ≤ (wrap64 (x85_2 * 16))) = true := qT c51; clear c51; obtain rfl := qI H; have p107 : 0 ≤ (x85_2 : Int) := dT; have q107 : x85_2 < (l0_3.length : Int) := dT; obtain ⟨ad107, e107, hx107_0⟩ := Kd.at_int HR0_3.out x85_2 p107 q107
              cases e107
              replace hx107_0 := xC HB hx107_0; replace p107 := eq_true p107; replace q107 := eq_true q107; obtain ⟨hcz52_0, hfz52_0⟩ := cY0 BK105; obtain ⟨hcz52_1, hfz52_1⟩ := cY1 BK105; obtain ⟨hcz52_2, hfz52_2⟩ := cY2 BK105; obtain ⟨hcz52_3, hfz52_3⟩ := cY3 BK105; obtain ⟨hcz52_4, hfz52_4⟩ := cY4 BK105
              go_wp2
              go_ret
              exact ⟨rT, mH HB⟩
             ·
              rw [if_neg c51] at H; have c51b0 : decide (a0_2 ≤ (wrap64 (x85_2 * 16))) = false := qF c51; clear c51; have H' := kA H; clear H; have p107 : 0 ≤ (x85_2 : Int) := dT; have q107 : x85_2 < (l0_3.length : Int) := dT; obtain ⟨ad107, e107, hx107_0⟩ := Kd.at_int HR0_3.out x85_2 p107 q107
              cases e107
              replace hx107_0 := xC HB hx107_0; replace p107 := eq_true p107; replace q107 := eq_true q107; obtain ⟨hcz53_0, hfz53_0⟩ := cY0 BK105; obtain ⟨hcz53_1, hfz53_1⟩ := cY1 BK105; obtain ⟨hcz53_2, hfz53_2⟩ := cY2 BK105; obtain ⟨hcz53_3, hfz53_3⟩ := cY3 BK105; obtain ⟨hcz53_4, hfz53_4⟩ := cY4 BK105
              go_wp2
              go_roundg k2
              case measure => have := HJ28.out; have := HK2.out; omega
              case rel => exact ⟨(wrap64 (x85_2 + 1)), sI, H', ⟨oM HJ28 HK2⟩, ⟨mB BK105⟩, ⟨mH HB⟩⟩
         ·
          rw [if_neg c45] at H; have c45b0 := qF c45; clear c45; obtain rfl := qI H
          go_wp2
          go_ret
          exact ⟨rT, mH HB⟩
   ·
    rw [if_neg c28] at H; obtain ⟨c28b0, c28b1⟩ := eN c28; obtain rfl := qI H
    go_enter Try.func24, Try.ntmps24
    go_wp2_with (first | ((with_reducible refine gate_dst (N := 1) rfl ?_); (try (refine gate_guard (by rfl) ?_; dsimp only)); refine bxE 28 (cs := #[.int .i64 a0_0, .int .i64 a0_1, .int .i64 a0_2, .slice A0_3 l0_3.length c0_3, .slice A0_4 l0_4.length c0_4]) ?_; intro gb105 hg w54 hbox hb; have BK105 := kA hbox; have GW105 := kG HB hg; have GE105 := kG HB hg; replace HB := kH HB hb; clear hb hbox hg; obtain ⟨hcz55_0, hfz55_0⟩ := cY0 BK105; obtain ⟨hcz55_1, hfz55_1⟩ := cY1 BK105; obtain ⟨hcz55_2, hfz55_2⟩ := cY2 BK105; obtain ⟨hcz55_3, hfz55_3⟩ := cY3 BK105; obtain ⟨hcz55_4, hfz55_4⟩ := cY4 BK105))
    go_ret
    exact ⟨rT, mH HB⟩
mutual
def potsherdref12_Pages.j0 : Nat → Int → Bool → Int → Int → Int → List Int → List (S78) → Option (Int)
 | 0, _, _, _, _, _, _, _ => none
 | k + 1, x3, x13, x109000, x109001, x109002, x109003, x109004 => if x13 = true then (some 0) else (potsherdref12_Pages.l0 k x3 x109003 (x109003.length : Int) 0)
def potsherdref12_Pages.l0 : Nat → Int → List Int → Int → Int → Option (Int)
 | 0, _, _, _, _ => none
 | k + 1, x3, x15, x16, x17 => if x17 < x16 then (if 0 ≤ x17 then (if x17 < (x15.length : Int) then (if (rd x15 x17) = 0 then (potsherdref12_Pages.l0 k x3 x15 x16 (wrap64 (x17 + 1))) else (potsherdref12_Pages.l0 k (wrap64 (x3 + 1)) x15 x16 (wrap64 (x17 + 1)))) else (none)) else (none)) else (some x3)
end
def potsherdref12_Pages.f (k : Nat) (a0_0 : Int) (a0_1 : Int) (a0_2 : Int) (l0_3 : List Int) (l0_4 : List (S78)) : Option (Int) := if a0_0 = 1 then ((potsherdref12_MayNode.f k a0_0 a0_1 a0_2 l0_3 l0_4).bind fun t109 => (potsherdref12_Pages.j0 k 0 (!t109) a0_0 a0_1 a0_2 l0_3 l0_4)) else (potsherdref12_Pages.j0 k 0 true a0_0 a0_1 a0_2 l0_3 l0_4)
theorem potsherdref12_Pages.mono_l : ∀ k, (∀ y0 y1 y2 y3 y4 y5 y6, LeO (potsherdref12_Pages.j0 k y0 y1 y2 y3 y4 y5 y6) (potsherdref12_Pages.j0 (k + 1) y0 y1 y2 y3 y4 y5 y6)) ∧ (∀ y0 y1 y2 y3, LeO (potsherdref12_Pages.l0 k y0 y1 y2 y3) (potsherdref12_Pages.l0 (k + 1) y0 y1 y2 y3))
 | 0 => ⟨fun _ _ _ _ _ _ _ r h => by simp [potsherdref12_Pages.j0] at h, fun _ _ _ _ r h => by simp [potsherdref12_Pages.l0] at h⟩
 | k + 1 => by
  obtain ⟨ih0, ih1⟩ := potsherdref12_Pages.mono_l k; refine ⟨?_, ?_⟩
  ·
   intro y0 y1 y2 y3 y4 y5 y6
   unfold potsherdref12_Pages.j0
   repeat' with_reducible first | apply ih0 | apply ih1 | apply potsherdref12_MayNode.mono | exact LeO.refl _ | exact LeO.none _ | refine LeO.ite ?_ ?_ | refine LeO.bind ?_ (fun _ => ?_)
  ·
   intro y0 y1 y2 y3
   unfold potsherdref12_Pages.l0
   repeat' with_reducible first | apply ih0 | apply ih1 | apply potsherdref12_MayNode.mono | exact LeO.refl _ | exact LeO.none _ | refine LeO.ite ?_ ?_ | refine LeO.bind ?_ (fun _ => ?_)
theorem potsherdref12_Pages.mono : ∀ a0 a1 a2 a3 a4 k, LeO (potsherdref12_Pages.f k a0 a1 a2 a3 a4) (potsherdref12_Pages.f (k + 1) a0 a1 a2 a3 a4) := by
 intro a0 a1 a2 a3 a4 k; obtain ⟨ih0, ih1⟩ := potsherdref12_Pages.mono_l k
 unfold potsherdref12_Pages.f
 repeat' with_reducible first | apply ih0 | apply ih1 | apply potsherdref12_MayNode.mono | exact LeO.refl _ | exact LeO.none _ | refine LeO.ite ?_ ?_ | refine LeO.bind ?_ (fun _ => ?_)
set_option maxHeartbeats 8000000 in
set_option maxRecDepth 100000 in
theorem potsherdref12_Pages.calls (k : Nat) (a0_0 : Int) (a0_1 : Int) (a0_2 : Int) (A0_3 : Option Addr) (c0_3 : Nat) (l0_3 : List Int) (A0_4 : Option Addr) (c0_4 : Nat) (l0_4 : List (S78)) (r : Int) (w : World) (hr0_3 : Kd.C (Kd.int .i64) w A0_3 l0_3.length l0_3) (hc0_3 : l0_3.length ≤ c0_3) (hr0_4 : Kd.C k78 w A0_4 l0_4.length l0_4) (hc0_4 : l0_4.length ≤ c0_4) (h : potsherdref12_Pages.f k a0_0 a0_1 a0_2 l0_3 l0_4 = some r) :
 Calls Try.prog 28 #[.agg #[.int .i64 a0_0, .int .i64 a0_1, .int .i64 a0_2, .slice A0_3 l0_3.length c0_3, .slice A0_4 l0_4.length c0_4]] w fun e w' => e = .returned (.int .i64 r) ∧ Below w.heap.size w w' := by
 have hu28 := Try.underlying28; have HR0_3 := kA hr0_3; have HC0_3 := kA hc0_3; clear hr0_3 hc0_3; have HR0_4 := kA hr0_4; have HC0_4 := kA hc0_4; clear hr0_4 hc0_4; have HB := kA (Below.refl w.heap.size w); have H : (if a0_0 = 1 then ((potsherdref12_MayNode.f k a0_0 a0_1 a0_2 l0_3 l0_4).bind fun t109 => (potsherdref12_Pages.j0 k 0 (!t109) a0_0 a0_1 a0_2 l0_3 l0_4)) else (potsherdref12_Pages.j0 k 0 true a0_0 a0_1 a0_2 l0_3 l0_4)) = some r := h; clear h; have HC2 := kA H; clear H
 go_enter Try.func28, Try.ntmps28
 go_upto_region 2 with (first | ((with_reducible refine gate_dst (N := 1) rfl ?_); refine bxE 28 (cs := #[.int .i64 a0_0, .int .i64 a0_1, .int .i64 a0_2, .slice A0_3 l0_3.length c0_3, .slice A0_4 l0_4.length c0_4]) ?_; intro gb108 hg w3 hbox hb; have BK108 := kA hbox; have GW108 := kG HB hg; have GE108 := kG HB hg; replace HB := kH HB hb; clear hb hbox hg))
 (try simp only [Act.put, lT, l0_, lS])
 go_cut [13] (fun v13 wc => ∃ (kq : Nat) (x13_1 : Bool), v13 = .bool x13_1 ∧ Aside0 (potsherdref12_Pages.j0 kq 0 x13_1 a0_0 a0_1 a0_2 l0_3 l0_4 = some r) ∧ Aside0 (kq ≤ k) ∧ Aside0 (wc.heap[gb108]? = some (.cells #[.int .i64 a0_0, .int .i64 a0_1, .int .i64 a0_2, (.slice A0_3 l0_3.length c0_3), (.slice A0_4 l0_4.length c0_4)] 28 (0, 0))) ∧ Aside0 (Below w.heap.size w wc))
 case first =>
  have H := HC2.out; clear HC2
  by_cases c4 : a0_0 = 1
  ·
   rw [if_pos c4] at H; obtain ⟨c4b0, c4b1⟩ := eP c4; clear c4
   (first | rw [c4b0] | (simp only [i64_w, i32_w]; rw [c4b0]) | skip)
   replace H := qB H; obtain ⟨t109, A50, H⟩ := H; have A5 := kA A50; clear A50; have H' := kA H; clear H; obtain ⟨hcz6_0, hfz6_0⟩ := cY0 BK108; obtain ⟨hcz6_1, hfz6_1⟩ := cY1 BK108; obtain ⟨hcz6_2, hfz6_2⟩ := cY2 BK108; obtain ⟨hcz6_3, hfz6_3⟩ := cY3 BK108; obtain ⟨hcz6_4, hfz6_4⟩ := cY4 BK108
   go_wp2_with (first | (go_at_call 24; (with_reducible refine (potsherdref12_MayNode.calls k a0_0 a0_1 a0_2 _ _ l0_3 _ _ l0_4 t109 _ ?side1 ?side2 ?side3 ?side4 A5.out).mono ?_); (case side1 => exact mC HR0_3 HB); (case side2 => exact HC0_3.out); (case side3 => exact mC HR0_4 HB); (case side4 => exact HC0_4.out); rintro e w7 ⟨rfl, hb⟩; replace BK108 := kB BK108 hb; replace HB := kH HB hb; (try clear hb)))
   go_meet
   case rel => exact ⟨_, (!t109), sI, H', ⟨by first | omega | exact Nat.le_refl _⟩, ⟨mB BK108⟩, ⟨mH HB⟩⟩
  ·
   rw [if_neg c4] at H; obtain ⟨c4b0, c4b1⟩ := eN c4
   (first | rw [c4b0] | (simp only [i64_w, i32_w]; rw [c4b0]) | skip)
   have H' := kA H; clear H; obtain ⟨hcz8_0, hfz8_0⟩ := cY0 BK108; obtain ⟨hcz8_1, hfz8_1⟩ := cY1 BK108; obtain ⟨hcz8_2, hfz8_2⟩ := cY2 BK108; obtain ⟨hcz8_3, hfz8_3⟩ := cY3 BK108; obtain ⟨hcz8_4, hfz8_4⟩ := cY4 BK108
   go_wp2
   go_meet
   case rel => exact ⟨_, (true), sI, H', ⟨by first | omega | exact Nat.le_refl _⟩, ⟨mB BK108⟩, ⟨mH HB⟩⟩
 case rest =>
  clear HC2
  obtain ⟨kq, x13_1, rfl, HA, HJ1, BK108, HB⟩ := hcut
  cases kq with
  | zero => exact absurd HA.out (by simp [potsherdref12_Pages.j0])
  | succ kj1 =>
   have H := HA.out; clear HA; simp only [potsherdref12_Pages.j0] at H
   by_cases c9 : x13_1 = true
   ·
    subst c9
    have H1 : (some 0) = some r := by rw [if_pos rfl] at H; exact H
    clear H; have H := H1; clear H1; obtain rfl := qI H
    go_wp2
    go_ret
    exact ⟨rT, mH HB⟩
   ·
    replace c9 := Bool.eq_false_iff.mpr c9; subst c9
    have H1 : (potsherdref12_Pages.l0 kj1 0 l0_3 (l0_3.length : Int) 0) = some r := by rw [if_neg (show ¬ (false = true) by decide)] at H; exact H
    clear H; have H := H1; clear H1; have H' := kA H; clear H; obtain ⟨hcz10_0, hfz10_0⟩ := cY0 BK108; obtain ⟨hcz10_1, hfz10_1⟩ := cY1 BK108; obtain ⟨hcz10_2, hfz10_2⟩ := cY2 BK108; obtain ⟨hcz10_3, hfz10_3⟩ := cY3 BK108; obtain ⟨hcz10_4, hfz10_4⟩ := cY4 BK108
    go_wp2
    go_loopg [3, 17] kj1 (fun kq v3 v17 w' => ∃ (x3_2 : Int) (x17_2 : Int), v3 = .int .i64 x3_2 ∧ v17 = .int .i64 x17_2 ∧ Aside0 (potsherdref12_Pages.l0 kq x3_2 l0_3 (l0_3.length : Int) x17_2 = some r) ∧ Aside0 (kq ≤ kj1) ∧ Aside0 (w'.heap[gb108]? = some (.cells #[.int .i64 a0_0, .int .i64 a0_1, .int .i64 a0_2, (.slice A0_3 l0_3.length c0_3), (.slice A0_4 l0_4.length c0_4)] 28 (0, 0))) ∧ Aside0 (Below w.heap.size w w'))
    case atStart => exact ⟨(0), (0), sI, sI, H', ⟨Nat.le_refl _⟩, ⟨mB BK108⟩, ⟨mH HB⟩⟩
    case round =>
     clear H'
     (try clear c9); (try clear hcz10_0); (try clear hcz10_1); (try clear hcz10_2); (try clear hcz10_3); (try clear hcz10_4); (try clear hfz10_0); (try clear hfz10_1); (try clear hfz10_2); (try clear hfz10_3); (try clear hfz10_4)
     obtain ⟨x3_2, x17_2, rfl, rfl, HA, HK2, BK108, HB⟩ := hrel
     cases gk with
     | zero => exact absurd HA.out (by simp [potsherdref12_Pages.l0])
     | succ k2 =>
      have H := HA.out; clear HA; simp only [potsherdref12_Pages.l0] at H
      by_cases c11 : x17_2 < (l0_3.length : Int)
      ·
       rw [if_pos c11] at H; have c11b0 := qT c11; clear c11
       replace H := nP H; obtain ⟨c12, H⟩ := H; have c12b0 := qT c12; clear c12
       replace H := nP H; obtain ⟨c13, H⟩ := H; have c13b0 := qT c13; clear c13
       by_cases c14 : (rd l0_3 x17_2) = 0
       ·
        rw [if_pos c14] at H; obtain ⟨c14b0, c14b1⟩ := eP c14; clear c14; have H' := kA H; clear H; have p110 : 0 ≤ (x17_2 : Int) := dT; have q110 : x17_2 < (l0_3.length : Int) := dT; obtain ⟨ad110, e110, hx110_0⟩ := Kd.at_int HR0_3.out x17_2 p110 q110
        cases e110
        replace hx110_0 := xC HB hx110_0; replace p110 := eq_true p110; replace q110 := eq_true q110
        go_wp2
        go_roundg k2
        case measure => have := HJ1.out; have := HK2.out; omega
        case rel => exact ⟨(x3_2), (wrap64 (x17_2 + 1)), sI, sI, H', ⟨oM HJ1 HK2⟩, ⟨mB BK108⟩, ⟨mH HB⟩⟩
       ·
        rw [if_neg c14] at H; obtain ⟨c14b0, c14b1⟩ := eN c14; have H' := kA H; clear H; have p110 : 0 ≤ (x17_2 : Int) := dT; have q110 : x17_2 < (l0_3.length : Int) := dT; obtain ⟨ad110, e110, hx110_0⟩ := Kd.at_int HR0_3.out x17_2 p110 q110
        cases e110
        replace hx110_0 := xC HB hx110_0; replace p110 := eq_true p110; replace q110 := eq_true q110
        go_wp2
        go_roundg k2
        case measure => have := HJ1.out; have := HK2.out; omega
        case rel => exact ⟨(wrap64 (x3_2 + 1)), (wrap64 (x17_2 + 1)), sI, sI, H', ⟨oM HJ1 HK2⟩, ⟨mB BK108⟩, ⟨mH HB⟩⟩
      ·
       rw [if_neg c11] at H; have c11b0 := qF c11; clear c11; obtain rfl := qI H
       go_wp2
       go_ret
       exact ⟨rT, mH HB⟩
def potsherdref12_sound.l0 : Nat → List (S28) → Int → Int → List (S28) → Option (Bool)
 | 0, _, _, _, _ => none
 | k + 1, x6, x7, x8, x112000 => if x8 < x7 then (if 0 ≤ x8 then (if x8 < (x6.length : Int) then ((potsherdref12_MayNode.f k ((rU x6 x8).f0) ((rU x6 x8).f1) ((rU x6 x8).f2) ((rU x6 x8).f3) ((rU x6 x8).f4)).bind fun t114 => (if t114 = true then (potsherdref12_sound.l0 k x6 x7 (wrap64 (x8 + 1)) x112000) else (some false))) else (none)) else (none)) else (some ((x112000.length : Int) == 12))
def potsherdref12_sound.f (k : Nat) (l0_0 : List (S28)) : Option (Bool) := potsherdref12_sound.l0 k l0_0 (l0_0.length : Int) 0 l0_0
theorem potsherdref12_sound.mono_l : ∀ k, (∀ y0 y1 y2 y3, LeO (potsherdref12_sound.l0 k y0 y1 y2 y3) (potsherdref12_sound.l0 (k + 1) y0 y1 y2 y3))
 | 0 => fun _ _ _ _ r h => by simp [potsherdref12_sound.l0] at h
 | k + 1 => by
  have ih0 := potsherdref12_sound.mono_l k
  ·
   intro y0 y1 y2 y3
   unfold potsherdref12_sound.l0
   repeat' with_reducible first | apply ih0 | apply potsherdref12_MayNode.mono | exact LeO.refl _ | exact LeO.none _ | refine LeO.ite ?_ ?_ | refine LeO.bind ?_ (fun _ => ?_)
theorem potsherdref12_sound.mono : ∀ a0 k, LeO (potsherdref12_sound.f k a0) (potsherdref12_sound.f (k + 1) a0) := by
 intro a0 k; have ih0 := potsherdref12_sound.mono_l k
 unfold potsherdref12_sound.f
 repeat' with_reducible first | apply ih0 | apply potsherdref12_MayNode.mono | exact LeO.refl _ | exact LeO.none _ | refine LeO.ite ?_ ?_ | refine LeO.bind ?_ (fun _ => ?_)
set_option maxHeartbeats 8000000 in
set_option maxRecDepth 100000 in
theorem potsherdref12_sound.calls (k : Nat) (A0_0 : Option Addr) (c0_0 : Nat) (l0_0 : List (S28)) (r : Bool) (w : World) (hr0_0 : Kd.C k28 w A0_0 l0_0.length l0_0) (hc0_0 : l0_0.length ≤ c0_0) (h : potsherdref12_sound.f k l0_0 = some r) :
 Calls Try.prog 47 #[.agg #[.slice A0_0 l0_0.length c0_0]] w fun e w' => e = .returned (.bool r) ∧ Below w.heap.size w w' := by
 have hu24 := Try.underlying24; have hu28 := Try.underlying28; have HR0_0 := kA hr0_0; have HC0_0 := kA hc0_0; clear hr0_0 hc0_0; have HB := kA (Below.refl w.heap.size w); have H : (potsherdref12_sound.l0 k l0_0 (l0_0.length : Int) 0 l0_0) = some r := h; clear h; have H' := kA H; clear H
 go_enter Try.func47, Try.ntmps47
 go_wp2_with (first | ((with_reducible refine gate_dst (N := 1) rfl ?_); refine bxE 24 (cs := #[.slice A0_0 l0_0.length c0_0]) ?_; intro gb111 hg w2 hbox hb; have BK111 := kA hbox; have GW111 := kG HB hg; have GE111 := kG HB hg; replace HB := kH HB hb; clear hb hbox hg; obtain ⟨hcz3_0, hfz3_0⟩ := cY0 BK111))
 go_loopg [8] k (fun kq v8 w' => ∃ (x8_1 : Int), v8 = .int .i64 x8_1 ∧ Aside0 (potsherdref12_sound.l0 kq l0_0 (l0_0.length : Int) x8_1 l0_0 = some r) ∧ Aside0 (kq ≤ k) ∧ Aside0 (w'.heap[gb111]? = some (.cells #[(.slice A0_0 l0_0.length c0_0)] 24 (0, 0))) ∧ Aside0 (Below w.heap.size w w'))
 case atStart => exact ⟨(0), sI, H', ⟨Nat.le_refl _⟩, ⟨mB BK111⟩, ⟨mH HB⟩⟩
 case round =>
  clear H'
  (try clear hcz3_0); (try clear hfz3_0)
  obtain ⟨x8_1, rfl, HA, HK1, BK111, HB⟩ := hrel
  cases gk with
  | zero => exact absurd HA.out (by simp [potsherdref12_sound.l0])
  | succ k1 =>
   have H := HA.out; clear HA; simp only [potsherdref12_sound.l0] at H
   by_cases c4 : x8_1 < (l0_0.length : Int)
   ·
    rw [if_pos c4] at H; have c4b0 := qT c4; clear c4
    replace H := nP H; obtain ⟨c5, H⟩ := H; have c5b0 := qT c5; clear c5
    replace H := nP H; obtain ⟨c6, H⟩ := H; have c6b0 := qT c6; clear c6; replace H := qB H; obtain ⟨t114, A70, H⟩ := H; have A7 := kA A70; clear A70
    by_cases c8 : t114 = true
    ·
     subst c8
     have H1 : (potsherdref12_sound.l0 k1 l0_0 (l0_0.length : Int) (wrap64 (x8_1 + 1)) l0_0) = some r := by rw [if_pos rfl] at H; exact H
     clear H; have H := H1; clear H1; have H' := kA H; clear H; have p112 : 0 ≤ (x8_1 : Int) := dT; have q112 : x8_1 < (l0_0.length : Int) := dT; obtain ⟨ad112, A112_3, c112_3, A112_4, c112_4, e112, hx112_0, hx112_1, hx112_2, hx112_3, hx112_4, hl112_3, hi112_3, hl112_4, hi112_4⟩ := at_T28 HR0_0.out x8_1 p112 q112
     cases e112
     replace hx112_0 := xC HB hx112_0; replace hx112_1 := xC HB hx112_1; replace hx112_2 := xC HB hx112_2; replace hx112_3 := xC HB hx112_3; replace hx112_4 := xC HB hx112_4; have HR112_3 := kA hi112_3; have HC112_3 := kA hl112_3; clear hi112_3 hl112_3; have HR112_4 := kA hi112_4; have HC112_4 := kA hl112_4; clear hi112_4 hl112_4; replace p112 := eq_true p112; replace q112 := eq_true q112
     go_wp2_with (first | ((with_reducible refine gate_dst (N := 4) rfl ?_); refine bxE 28 (cs := #[.int .i64 0, .int .i64 0, .int .i64 0, .slice none 0 0, .slice none 0 0]) ?_; intro gb113 hg w9 hbox hb; have BK113 := kA hbox; have GW113 := kG HB hg; have GE113 := kG HB hg; replace HB := kH HB hb; have NB111_113 := kL BK111 hg; have NB113_111 := kQ BK111 hg; replace BK111 := kB BK111 hb; clear hb hbox hg; have hnb10 := NB113_111.out; have hnc10 := NB111_113.out; obtain ⟨hcz11_0, hfz11_0⟩ := cY0 BK113; obtain ⟨hcz11_1, hfz11_1⟩ := cY1 BK113; obtain ⟨hcz11_2, hfz11_2⟩ := cY2 BK113; obtain ⟨hcz11_3, hfz11_3⟩ := cY3 BK113; obtain ⟨hcz11_4, hfz11_4⟩ := cY4 BK113) | ((with_reducible refine gate_callee (f := 24) rfl ?_); refine goesK (some 13) Try.func24 #[.agg #[.int .i64 ((rU l0_0 x8_1).f0), .int .i64 ((rU l0_0 x8_1).f1), .int .i64 ((rU l0_0 x8_1).f2), .slice A112_3 ((rU l0_0 x8_1).f3).length c112_3, .slice A112_4 ((rU l0_0 x8_1).f4).length c112_4]] ?_; (with_reducible refine (potsherdref12_MayNode.calls k1 ((rU l0_0 x8_1).f0) ((rU l0_0 x8_1).f1) ((rU l0_0 x8_1).f2) _ _ ((rU l0_0 x8_1).f3) _ _ ((rU l0_0 x8_1).f4) true _ ?side1 ?side2 ?side3 ?side4 A7.out).mono ?_); (case side1 => exact Kd.C_below HR112_3.out (mH HB)); (case side2 => exact HC112_3.out); (case side3 => exact Kd.C_below HR112_4.out (mH HB)); (case side4 => exact HC112_4.out); rintro e w12 ⟨rfl, hb⟩; refine ⟨_, rfl, ?_⟩; replace BK111 := kA (bB (mF BK111) hb); replace BK113 := kA (bB (g := gb113) (o := .cells #[.int .i64 ((rU l0_0 x8_1).f0), .int .i64 ((rU l0_0 x8_1).f1), .int .i64 ((rU l0_0 x8_1).f2), .slice A112_3 ((rU l0_0 x8_1).f3).length c112_3, .slice A112_4 ((rU l0_0 x8_1).f4).length c112_4] 28 (0, 0)) (pP BK113) hb); replace HB := kH HB hb; (try clear hb)))
     go_roundg k1
     case measure => have := HK1.out; omega
     case rel => exact ⟨(wrap64 (x8_1 + 1)), sI, H', ⟨oK HK1⟩, ⟨mB BK111⟩, ⟨mH HB⟩⟩
    ·
     replace c8 := Bool.eq_false_iff.mpr c8; subst c8
     have H1 : (some false) = some r := by rw [if_neg (show ¬ (false = true) by decide)] at H; exact H
     clear H; have H := H1; clear H1; obtain rfl := qI H; have p112 : 0 ≤ (x8_1 : Int) := dT; have q112 : x8_1 < (l0_0.length : Int) := dT; obtain ⟨ad112, A112_3, c112_3, A112_4, c112_4, e112, hx112_0, hx112_1, hx112_2, hx112_3, hx112_4, hl112_3, hi112_3, hl112_4, hi112_4⟩ := at_T28 HR0_0.out x8_1 p112 q112
     cases e112
     replace hx112_0 := xC HB hx112_0; replace hx112_1 := xC HB hx112_1; replace hx112_2 := xC HB hx112_2; replace hx112_3 := xC HB hx112_3; replace hx112_4 := xC HB hx112_4; have HR112_3 := kA hi112_3; have HC112_3 := kA hl112_3; clear hi112_3 hl112_3; have HR112_4 := kA hi112_4; have HC112_4 := kA hl112_4; clear hi112_4 hl112_4; replace p112 := eq_true p112; replace q112 := eq_true q112
     go_wp2_with (first | ((with_reducible refine gate_dst (N := 4) rfl ?_); refine bxE 28 (cs := #[.int .i64 0, .int .i64 0, .int .i64 0, .slice none 0 0, .slice none 0 0]) ?_; intro gb113 hg w13 hbox hb; have BK113 := kA hbox; have GW113 := kG HB hg; have GE113 := kG HB hg; replace HB := kH HB hb; have NB111_113 := kL BK111 hg; have NB113_111 := kQ BK111 hg; replace BK111 := kB BK111 hb; clear hb hbox hg; have hnb14 := NB113_111.out; have hnc14 := NB111_113.out; obtain ⟨hcz15_0, hfz15_0⟩ := cY0 BK113; obtain ⟨hcz15_1, hfz15_1⟩ := cY1 BK113; obtain ⟨hcz15_2, hfz15_2⟩ := cY2 BK113; obtain ⟨hcz15_3, hfz15_3⟩ := cY3 BK113; obtain ⟨hcz15_4, hfz15_4⟩ := cY4 BK113) | ((with_reducible refine gate_callee (f := 24) rfl ?_); refine goesK (some 13) Try.func24 #[.agg #[.int .i64 ((rU l0_0 x8_1).f0), .int .i64 ((rU l0_0 x8_1).f1), .int .i64 ((rU l0_0 x8_1).f2), .slice A112_3 ((rU l0_0 x8_1).f3).length c112_3, .slice A112_4 ((rU l0_0 x8_1).f4).length c112_4]] ?_; (with_reducible refine (potsherdref12_MayNode.calls k1 ((rU l0_0 x8_1).f0) ((rU l0_0 x8_1).f1) ((rU l0_0 x8_1).f2) _ _ ((rU l0_0 x8_1).f3) _ _ ((rU l0_0 x8_1).f4) false _ ?side1 ?side2 ?side3 ?side4 A7.out).mono ?_); (case side1 => exact Kd.C_below HR112_3.out (mH HB)); (case side2 => exact HC112_3.out); (case side3 => exact Kd.C_below HR112_4.out (mH HB)); (case side4 => exact HC112_4.out); rintro e w16 ⟨rfl, hb⟩; refine ⟨_, rfl, ?_⟩; replace BK111 := kA (bB (mF BK111) hb); replace BK113 := kA (bB (g := gb113) (o := .cells #[.int .i64 ((rU l0_0 x8_1).f0), .int .i64 ((rU l0_0 x8_1).f1), .int .i64 ((rU l0_0 x8_1).f2), .slice A112_3 ((rU l0_0 x8_1).f3).length c112_3, .slice A112_4 ((rU l0_0 x8_1).f4).length c112_4] 28 (0, 0)) (pP BK113) hb); replace HB := kH HB hb; (try clear hb)))
     go_ret
     exact ⟨rT, mH HB⟩
   ·
    rw [if_neg c4] at H; have c4b0 := qF c4; clear c4; obtain rfl := qI H; obtain ⟨hcz17_0, hfz17_0⟩ := cY0 BK111
    go_wp2
    go_ret
    exact ⟨rT, mH HB⟩
end Go.Proofs.Ytkigiehkckjlhaa.PReads
