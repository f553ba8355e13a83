/- The Go functions that these laws reach, each as a Lean function with the same answers (a law itself where it answers true), and the proof that the code comes to them; conditions: those of each theorem. Laid by a program of this session over the print. -/
import Derived.Test.YtkigiehkckjlhaaZReadsPReadsShort
import Derived.Test.YtkigiehkckjlhaaZReadsPReadsx0
import Derived.Test.YtkigiehkckjlhaaZReadsPReadsx1
import Derived.Test.YtkigiehkckjlhaaZReadsPReadsx5
import Derived.Test.YtkigiehkckjlhaaZReadsPReadsx24
namespace Go.Proofs.Ytkigiehkckjlhaa.PReads
open Go.RowKit Go.Proofs.YtkigiehkckjlhaaW.PrintWords Go.Proofs.YtkigiehkckjlhaaW.PrintLast Go.Proofs.YtkigiehkckjlhaaW.PrintMore
attribute [local go_sem] max2_int min2_int max_two min_two max_three min_three max_four min_four   -- for this text's walks alone
set_option linter.unusedVariables false
set_option linter.unusedSimpArgs false
open Go.Proofs.YtkigiehkckjlhaaW.PrintWords renaming blk_drewN → bN, blk_drew → bD, blk_alloc → bA, below_set → wS, below_alloc → wA, pw_below_drewN → wN, below_drew1 → wD, blk_below → bB, blk_far → bF, blk_cell → bC, blk_frozen → bZ
open List renaming setIfInBounds_toArray → lT, set_cons_zero → l0_, set_cons_succ → lS
mutual
def potsherdref12_Split.j0 : Nat → ByteArray → Bool → Option (List ByteArray × Int)
 | 0, _, _ => none
 | k + 1, x0, x19 => if x19 = true then (none) else (if x0.toList = ([47] : List UInt8) then (some (([] : List ByteArray), 0)) else (potsherdref12_Split.l0 k x0 ([] : List ByteArray) 1 1))
def potsherdref12_Split.l0 : Nat → ByteArray → List ByteArray → Int → Int → Option (List ByteArray × Int)
 | 0, _, _, _, _ => none
 | k + 1, x0, x4, x5, x6 => if x6 ≤ (x0.size : Int) then (if x6 < (x0.size : Int) then (if 0 ≤ x6 then (potsherdref12_Split.j2 k x0 x4 x5 x6 ((bt x0 x6) != 47)) else (none)) else (potsherdref12_Split.j2 k x0 x4 x5 x6 false)) else (some (x4, 0))
def potsherdref12_Split.j2 : Nat → ByteArray → List ByteArray → Int → Int → Bool → Option (List ByteArray × Int)
 | 0, _, _, _, _, _ => none
 | k + 1, x0, x4, x5, x6, x37 => if x37 = true then (potsherdref12_Split.l0 k x0 x4 x5 (wrap64 (x6 + 1))) else (if 0 ≤ x5 then (if x5 ≤ x6 then (if x6 ≤ (x0.size : Int) then ((potsherdref12_Name.f k (x0.extract (x5 : Int).toNat (x6 : Int).toNat)).bind fun t356 => (if t356 = true then (if x4.length < 8796093022208 then (potsherdref12_Split.l0 k x0 (x4 ++ [x0.extract (x5 : Int).toNat (x6 : Int).toNat]) (wrap64 (x6 + 1)) (wrap64 (x6 + 1))) else (none)) else (none))) else (none)) else (none)) else (none))
end
def potsherdref12_Split.f (k : Nat) (a0 : ByteArray) : Option (List ByteArray × Int) := if (a0.size : Int) > 60 then (none) else (if (a0.size : Int) < 1 then (none) else (if 0 < (a0.size : Int) then (potsherdref12_Split.j0 k a0 ((bt a0 0) != 47)) else (none)))
theorem potsherdref12_Split.mono_l : ∀ k, (∀ y0 y1, LeO (potsherdref12_Split.j0 k y0 y1) (potsherdref12_Split.j0 (k + 1) y0 y1)) ∧ (∀ y0 y1 y2 y3, LeO (potsherdref12_Split.l0 k y0 y1 y2 y3) (potsherdref12_Split.l0 (k + 1) y0 y1 y2 y3)) ∧ (∀ y0 y1 y2 y3 y4, LeO (potsherdref12_Split.j2 k y0 y1 y2 y3 y4) (potsherdref12_Split.j2 (k + 1) y0 y1 y2 y3 y4))
 | 0 => ⟨fun _ _ r h => by simp [potsherdref12_Split.j0] at h, fun _ _ _ _ r h => by simp [potsherdref12_Split.l0] at h, fun _ _ _ _ _ r h => by simp [potsherdref12_Split.j2] at h⟩
 | k + 1 => by
  obtain ⟨ih0, ih1, ih2⟩ := potsherdref12_Split.mono_l k; refine ⟨?_, ?_, ?_⟩
  ·
   intro y0 y1
   unfold potsherdref12_Split.j0
   repeat' with_reducible first | apply ih0 | apply ih1 | apply ih2 | apply potsherdref12_Name.mono | exact LeO.refl _ | exact LeO.none _ | refine LeO.ite ?_ ?_ | refine LeO.bind ?_ (fun _ => ?_)
  ·
   intro y0 y1 y2 y3
   unfold potsherdref12_Split.l0
   repeat' with_reducible first | apply ih0 | apply ih1 | apply ih2 | apply potsherdref12_Name.mono | exact LeO.refl _ | exact LeO.none _ | refine LeO.ite ?_ ?_ | refine LeO.bind ?_ (fun _ => ?_)
  ·
   intro y0 y1 y2 y3 y4
   unfold potsherdref12_Split.j2
   repeat' with_reducible first | apply ih0 | apply ih1 | apply ih2 | apply potsherdref12_Name.mono | exact LeO.refl _ | exact LeO.none _ | refine LeO.ite ?_ ?_ | refine LeO.bind ?_ (fun _ => ?_)
theorem potsherdref12_Split.mono : ∀ a0 k, LeO (potsherdref12_Split.f k a0) (potsherdref12_Split.f (k + 1) a0) := by
 intro a0 k; obtain ⟨ih0, ih1, ih2⟩ := potsherdref12_Split.mono_l k
 unfold potsherdref12_Split.f
 repeat' with_reducible first | apply ih0 | apply ih1 | apply ih2 | apply potsherdref12_Name.mono | exact LeO.refl _ | exact LeO.none _ | refine LeO.ite ?_ ?_ | refine LeO.bind ?_ (fun _ => ?_)
set_option maxHeartbeats 8000000 in
set_option maxRecDepth 100000 in
theorem potsherdref12_Split.calls (k : Nat) (a0 : ByteArray) (r1 : List ByteArray) (r2 : Int) (w : World) (h : potsherdref12_Split.f k a0 = some (r1, r2)) :
 Calls Try.prog 91 #[.string a0] w fun e w' => ∃ v0_ : Value, e = .returned (.tuple #[v0_, .int .i64 r2]) ∧ Kd.R Kd.string 9 w' w.heap.size (fun _ => True) v0_ r1 ∧ Below w.heap.size w w' := by
 have HB := kA (Below.refl w.heap.size w); have H : (if (a0.size : Int) > 60 then (none) else (if (a0.size : Int) < 1 then (none) else (if 0 < (a0.size : Int) then (potsherdref12_Split.j0 k a0 ((bt a0 0) != 47)) else (none)))) = some (r1, r2) := h; clear h; have HC2 := kA H; clear H
 go_enter Try.func91, Try.ntmps91
 go_upto_region 1 with (fail)
 go_cut [19] (fun v19 wc => ∃ (kq : Nat) (x19_1 : Bool), v19 = .bool x19_1 ∧ Aside0 (potsherdref12_Split.j0 kq a0 x19_1 = some (r1, r2)) ∧ Aside0 (kq ≤ k) ∧ Aside0 (Below w.heap.size w wc))
 case first =>
  have H := HC2.out; clear HC2
  replace H := nQ H; obtain ⟨c3, H⟩ := H; have c3b0 : decide (60 < (a0.size : Int)) = false := qF c3; have c3b1 : decide (60 < a0.size) = false := qF (by omega); clear c3
  (first | rw [c3b0] | (simp only [i64_w, i32_w]; rw [c3b0]) | skip)
  replace H := nQ H; obtain ⟨c4, H⟩ := H; have c4b0 := qF c4; have c4b1 : decide (a0.size < 1) = false := qF (by omega); clear c4
  replace H := nP H; obtain ⟨c5, H⟩ := H; have c5b0 := qT c5; have c5b1 : decide (0 < a0.size) = true := qT (by omega); clear c5; have H' := kA H; clear H; have p6 : 0 ≤ (0 : Int) := (by omega); have q6 : 0 < a0.size := (by have : (0 : Int) < (a0.size : Int) := dT; omega)
  have hx6 : ∀ h : 0 < a0.size, ((a0[0]'h).toNat : Int) = bt a0 0 := bt_at a0 0; clear p6; have qi6 : (0 < (a0.size : Int)) = True := eq_true (dT); replace q6 := eq_true q6
  go_wp2
  go_meet
  case rel => exact ⟨_, (((bt a0 0) != 47)), sI, H', ⟨by first | omega | exact Nat.le_refl _⟩, ⟨mH HB⟩⟩
 case rest =>
  clear HC2
  obtain ⟨kq, x19_1, rfl, HA, HJ1, HB⟩ := hcut
  cases kq with
  | zero => exact absurd HA.out (by simp [potsherdref12_Split.j0])
  | succ kj1 =>
   have H := HA.out; clear HA; simp only [potsherdref12_Split.j0] at H
   by_cases c7 : x19_1 = true
   ·
    subst c7
    have H1 : (none) = some (r1, r2) := by rw [if_pos rfl] at H; exact H
    clear H; have H := H1; clear H1; exact absurd H (by simp)
   ·
    replace c7 := Bool.eq_false_iff.mpr c7; subst c7
    have H1 : (if a0.toList = ([47] : List UInt8) then (some (([] : List ByteArray), 0)) else (potsherdref12_Split.l0 kj1 a0 ([] : List ByteArray) 1 1)) = some (r1, r2) := by rw [if_neg (show ¬ (false = true) by decide)] at H; exact H
    clear H; have H := H1; clear H1
    by_cases c8 : a0.toList = ([47] : List UInt8)
    ·
     rw [if_pos c8] at H; obtain ⟨c8b0, c8b1⟩ := eP c8; clear c8; simp only [Option.some.injEq, Prod.mk.injEq] at H; obtain ⟨rfl, rfl⟩ := H
     go_wp2
     go_ret2
     exact ⟨_, rT, by first | exact Kd.R_nil _ _ _ _ _ | exact Kd.N_nil _ _ _ _ _ | exact Kd.V_nil _ _ _ _ _ | exact Kd.Q_nil _ _ _ _ _ | exact Kd.S_nil _ _ _ _ _, mH HB⟩
    ·
     rw [if_neg c8] at H; obtain ⟨c8b0, c8b1⟩ := eN c8; have H' := kA H; clear H
     go_wp2
     go_loopg [4, 5, 6] kj1 (fun kq v4 v5 v6 w' => ∃ (x4_2 : List ByteArray) (x5_2 : Int) (x6_2 : Int), v5 = .int .i64 x5_2 ∧ v6 = .int .i64 x6_2 ∧ Aside0 (potsherdref12_Split.l0 kq a0 x4_2 x5_2 x6_2 = some (r1, r2)) ∧ Aside0 (kq ≤ kj1) ∧ Aside0 (Kd.R Kd.string 9 w' w.heap.size (fun _ => True) v4 x4_2) ∧ Aside0 (Below w.heap.size w w'))
     case atStart => exact ⟨(([] : List ByteArray)), (1), (1), sI, sI, H', ⟨Nat.le_refl _⟩, ⟨by first | exact Kd.R_nil _ _ _ _ _ | exact Kd.N_nil _ _ _ _ _ | exact Kd.V_nil _ _ _ _ _ | exact Kd.Q_nil _ _ _ _ _ | exact Kd.S_nil _ _ _ _ _⟩, ⟨mH HB⟩⟩
     case round =>
      clear H'
      (try clear c7); (try clear c8); (try clear c8b0); (try clear c8b1)
      obtain ⟨x4_2, x5_2, x6_2, rfl, rfl, HA, HK2, HO_4, HB⟩ := hrel
      cases gk with
      | zero => exact absurd HA.out (by simp [potsherdref12_Split.l0])
      | succ k2 =>
       have H := HA.out; clear HA; simp only [potsherdref12_Split.l0] at H
       by_cases c9 : x6_2 ≤ (a0.size : Int)
       ·
        rw [if_pos c9] at H; have c9b0 := qT c9; clear c9; have HC10 := kA H; clear H
        go_upto_region 10 with (fail)
        go_cut [37] (fun v37 wc => ∃ (kq : Nat) (x37_9 : Bool), v37 = .bool x37_9 ∧ Aside0 (potsherdref12_Split.j2 kq a0 x4_2 x5_2 x6_2 x37_9 = some (r1, r2)) ∧ Aside0 (kq ≤ k2) ∧ Aside0 (Kd.R Kd.string 9 wc w.heap.size (fun _ => True) u4 x4_2) ∧ Aside0 (Below w.heap.size w wc))
        case first =>
         have H := HC10.out; clear HC10
         by_cases c11 : x6_2 < (a0.size : Int)
         ·
          rw [if_pos c11] at H; have c11b0 := qT c11; clear c11
          (first | rw [c11b0] | (simp only [i64_w, i32_w]; rw [c11b0]) | skip)
          replace H := nP H; obtain ⟨c12, H⟩ := H; have c12b0 := qT c12; clear c12; have H' := kA H; clear H; have p13 : 0 ≤ (x6_2 : Int) := dT; have q13 : x6_2 < (a0.size : Int) := dT; have hx13 := bt_at a0 x6_2; replace p13 := eq_true p13; replace q13 := eq_true q13
          go_wp2
          go_meet
          case rel => exact ⟨_, (((bt a0 x6_2) != 47)), sI, H', ⟨by have := HJ1.out; have := HK2.out; first | omega | exact Nat.le_refl _⟩, ⟨mR HO_4⟩, ⟨mH HB⟩⟩
         ·
          rw [if_neg c11] at H; have c11b0 := qF c11; clear c11
          (first | rw [c11b0] | (simp only [i64_w, i32_w]; rw [c11b0]) | skip)
          have H' := kA H; clear H
          go_wp2
          go_meet
          case rel => exact ⟨_, (false), sI, H', ⟨by have := HJ1.out; have := HK2.out; first | omega | exact Nat.le_refl _⟩, ⟨mR HO_4⟩, ⟨mH HB⟩⟩
        case rest =>
         clear HC10
         (try clear c7); (try clear c8); (try clear c8b0); (try clear c8b1); (try clear c9); (try clear c9b0)
         obtain ⟨kq, x37_9, rfl, HA, HJ9, HO_4, HB⟩ := hcut
         cases kq with
         | zero => exact absurd HA.out (by simp [potsherdref12_Split.j2])
         | succ kj9 =>
          have H := HA.out; clear HA; simp only [potsherdref12_Split.j2] at H
          by_cases c14 : x37_9 = true
          ·
           subst c14
           have H1 : (potsherdref12_Split.l0 kj9 a0 x4_2 x5_2 (wrap64 (x6_2 + 1))) = some (r1, r2) := by rw [if_pos rfl] at H; exact H
           clear H; have H := H1; clear H1; have H' := kA H; clear H
           go_wp2
           go_roundg kj9
           case measure => have := HJ1.out; have := HK2.out; have := HJ9.out; omega
           case rel => exact ⟨(x4_2), (x5_2), (wrap64 (x6_2 + 1)), sI, sI, H', ⟨by have := HJ1.out; have := HK2.out; have := HJ9.out; omega⟩, ⟨mR HO_4⟩, ⟨mH HB⟩⟩
          ·
           replace c14 := Bool.eq_false_iff.mpr c14; subst c14
           have H1 : (if 0 ≤ x5_2 then (if x5_2 ≤ x6_2 then (if x6_2 ≤ (a0.size : Int) then ((potsherdref12_Name.f kj9 (a0.extract (x5_2 : Int).toNat (x6_2 : Int).toNat)).bind fun t356 => (if t356 = true then (if x4_2.length < 8796093022208 then (potsherdref12_Split.l0 kj9 a0 (x4_2 ++ [a0.extract (x5_2 : Int).toNat (x6_2 : Int).toNat]) (wrap64 (x6_2 + 1)) (wrap64 (x6_2 + 1))) else (none)) else (none))) else (none)) else (none)) else (none)) = some (r1, r2) := by rw [if_neg (show ¬ (false = true) by decide)] at H; exact H
           clear H; have H := H1; clear H1
           replace H := nP H; obtain ⟨c15, H⟩ := H; have c15b0 := eq_true c15; have c15b1 := qT c15; clear c15
           replace H := nP H; obtain ⟨c16, H⟩ := H; have c16b0 := eq_true c16; have c16b1 := qT c16; clear c16
           replace H := nP H; obtain ⟨c17, H⟩ := H; have c17b0 := eq_true c17; have c17b1 := qT c17; clear c17; replace H := qB H; obtain ⟨t356, A180, H⟩ := H; have A18 := kA A180; clear A180
           by_cases c19 : t356 = true
           ·
            subst c19
            have H1 : (if x4_2.length < 8796093022208 then (potsherdref12_Split.l0 kj9 a0 (x4_2 ++ [a0.extract (x5_2 : Int).toNat (x6_2 : Int).toNat]) (wrap64 (x6_2 + 1)) (wrap64 (x6_2 + 1))) else (none)) = some (r1, r2) := by rw [if_pos rfl] at H; exact H
            clear H; have H := H1; clear H1; have c20b0 := eq_true (dT : 0 ≤ x5_2); have c21b0 := eq_true (dT : x5_2 ≤ x6_2); have c22b0 := eq_true (dT : x6_2 ≤ (a0.size : Int))
            replace H := nP H; obtain ⟨c23, H⟩ := H; have LMc23 := kA c23; clear c23; obtain ⟨y357, hy357⟩ : ∃ y_ : List ByteArray, y_ = (x4_2 ++ [a0.extract (x5_2 : Int).toNat (x6_2 : Int).toNat]) := ⟨_, rfl⟩
            replace H : (potsherdref12_Split.l0 kj9 a0 y357 (wrap64 (x6_2 + 1)) (wrap64 (x6_2 + 1))) = some (r1, r2) := rH H hy357
            have Ny357 := kA hy357; clear hy357; have H' := kA H; clear H
            go_wp2_with (first | ((with_reducible refine gate_callee (f := 69) rfl ?_); refine goesK (some 42) Try.func69 #[.string (a0.extract (x5_2 : Int).toNat (x6_2 : Int).toNat)] ?_; (with_reducible refine (potsherdref12_Name.calls kj9 (a0.extract (x5_2 : Int).toNat (x6_2 : Int).toNat) true _ A18.out).mono ?_); rintro e w' ⟨rfl, ⟨nd, rfl⟩⟩; refine ⟨_, rfl, ?_⟩) | ((with_reducible refine gate_builtin (b := .append) (xs := #[.tmp 44, .tmp 49]) rfl ?_); (try (refine gate_guard (by rfl) ?_; dsimp only)); at_builtin; refine Kd.R_append Kd.string (w0 := w) w.heap.size rfl (.tmp 44) (.tmp 49) 113 9 (.string ⟨#[]⟩) 16 rfl Try.underlying113 info9 rfl (by decide) (by omega) u4 x4_2 (a0.extract (x5_2 : Int).toNat (x6_2 : Int).toNat) [.string (a0.extract (x5_2 : Int).toNat (x6_2 : Int).toNat)] (fun _ => True) (fun _ => False) rfl rfl ?aP (fun _ hk => hk.elim) ?aF ?aO ?aB ?aS ?aL ?_; (case aP => exact rfl); (case aB => exact (mH HB)); (case aF => exact (fun _ _ => trivial)); (case aO => exact (mR HO_4)); (case aS => exact (below_size (mH HB))); (case aL => have := LMc23.out; omega); intro v358 w24 ho hb hg hat; rw [← Ny357.out] at ho; replace HB := kA (hb); have HO359 := kA (ho); clear HO_4; clear ho hb hg hat))
            go_roundg kj9
            case measure => have := HJ1.out; have := HK2.out; have := HJ9.out; omega
            case rel => exact ⟨(y357), (wrap64 (x6_2 + 1)), (wrap64 (x6_2 + 1)), sI, sI, H', ⟨by have := HJ1.out; have := HK2.out; have := HJ9.out; omega⟩, ⟨mR HO359⟩, ⟨mH HB⟩⟩
           ·
            replace c19 := Bool.eq_false_iff.mpr c19; subst c19
            have H1 : (none) = some (r1, r2) := by rw [if_neg (show ¬ (false = true) by decide)] at H; exact H
            clear H; have H := H1; clear H1; exact absurd H (by simp)
       ·
        rw [if_neg c9] at H; have c9b0 := qF c9; clear c9; simp only [Option.some.injEq, Prod.mk.injEq] at H; obtain ⟨rfl, rfl⟩ := H
        go_wp2
        go_ret2
        exact ⟨_, rT, mR HO_4, mH HB⟩
def potsherdref12_Join.f (k : Nat) (l0 : List ByteArray) : Option (ByteArray) := if (l0.length : Int) = 0 then (some (⟨#[47]⟩ : ByteArray)) else (none)
theorem potsherdref12_Join.mono : ∀ a0 k, LeO (potsherdref12_Join.f k a0) (potsherdref12_Join.f (k + 1) a0) := by
 intro a0 k
 unfold potsherdref12_Join.f
 repeat' with_reducible first | apply potsherdref12_Name.mono | exact LeO.refl _ | exact LeO.none _ | refine LeO.ite ?_ ?_ | refine LeO.bind ?_ (fun _ => ?_)
set_option maxHeartbeats 8000000 in
set_option maxRecDepth 100000 in
theorem potsherdref12_Join.calls (k : Nat) (A0 : Option Addr) (c0 : Nat) (l0 : List ByteArray) (r : ByteArray) (w : World) (hr0 : Kd.C Kd.string w A0 l0.length l0) (hc0 : l0.length ≤ c0) (h : potsherdref12_Join.f k l0 = some r) :
 Calls Try.prog 93 #[.slice A0 l0.length c0] w fun e w' => e = .returned (.string r) ∧ Drawn0 w w' := by
 have HR0 := kA hr0; have HC0 := kA hc0; clear hr0 hc0; have H : (if (l0.length : Int) = 0 then (some (⟨#[47]⟩ : ByteArray)) else (none)) = some r := h; clear h
 replace H := nP H; obtain ⟨c2, H⟩ := H; obtain ⟨c2b0, c2b1⟩ := eP c2; clear c2; obtain rfl := qI H
 go_enter Try.func93, Try.ntmps93
 go_wp2
 go_ret
 exact ⟨sI, by repeat (first | exact Drawn0.refl _ | apply Drawn0.step)⟩
def potsherdref12_Last.f (k : Nat) (a0 : ByteArray) : Option (ByteArray × ByteArray × Int) := (potsherdref12_Split.f k a0).bind fun bt362 => (if bt362.2 = 0 then (if (bt362.1.length : Int) = 0 then (none) else (if 0 ≤ (wrap64 ((bt362.1.length : Int) - 1)) then (if (wrap64 ((bt362.1.length : Int) - 1)) ≤ (bt362.1.length : Int) then ((potsherdref12_Join.f k (bt362.1.take ((wrap64 ((bt362.1.length : Int) - 1)) : Int).toNat)).bind fun t370 => (if (wrap64 ((bt362.1.length : Int) - 1)) < (bt362.1.length : Int) then (some (t370, rdOf ByteArray.empty bt362.1 (wrap64 ((bt362.1.length : Int) - 1)), 0)) else (none))) else (none)) else (none))) else (none))
theorem potsherdref12_Last.mono : ∀ a0 k, LeO (potsherdref12_Last.f k a0) (potsherdref12_Last.f (k + 1) a0) := by
 intro a0 k
 unfold potsherdref12_Last.f
 repeat' with_reducible first | apply potsherdref12_Join.mono | apply potsherdref12_Split.mono | exact LeO.refl _ | exact LeO.none _ | refine LeO.ite ?_ ?_ | refine LeO.bind ?_ (fun _ => ?_)
set_option maxHeartbeats 8000000 in
set_option maxRecDepth 100000 in
theorem potsherdref12_Last.calls (k : Nat) (a0 : ByteArray) (r1 : ByteArray) (r2 : ByteArray) (r3 : Int) (w : World) (h : potsherdref12_Last.f k a0 = some (r1, r2, r3)) :
 Calls Try.prog 90 #[.string a0] w fun e w' => e = .returned (.tuple #[.string r1, .string r2, .int .i64 r3]) ∧ Below w.heap.size w w' := by
 have HB := kA (Below.refl w.heap.size w); have H : ((potsherdref12_Split.f k a0).bind fun bt362 => (if bt362.2 = 0 then (if (bt362.1.length : Int) = 0 then (none) else (if 0 ≤ (wrap64 ((bt362.1.length : Int) - 1)) then (if (wrap64 ((bt362.1.length : Int) - 1)) ≤ (bt362.1.length : Int) then ((potsherdref12_Join.f k (bt362.1.take ((wrap64 ((bt362.1.length : Int) - 1)) : Int).toNat)).bind fun t370 => (if (wrap64 ((bt362.1.length : Int) - 1)) < (bt362.1.length : Int) then (some (t370, rdOf ByteArray.empty bt362.1 (wrap64 ((bt362.1.length : Int) - 1)), 0)) else (none))) else (none)) else (none))) else (none))) = some (r1, r2, r3) := h; clear h; replace H := qB H; obtain ⟨⟨t362, t363⟩, A20, H⟩ := H; replace H : (if t363 = 0 then (if (t362.length : Int) = 0 then (none) else (if 0 ≤ (wrap64 ((t362.length : Int) - 1)) then (if (wrap64 ((t362.length : Int) - 1)) ≤ (t362.length : Int) then ((potsherdref12_Join.f k (t362.take ((wrap64 ((t362.length : Int) - 1)) : Int).toNat)).bind fun t370 => (if (wrap64 ((t362.length : Int) - 1)) < (t362.length : Int) then (some (t370, rdOf ByteArray.empty t362 (wrap64 ((t362.length : Int) - 1)), 0)) else (none))) else (none)) else (none))) else (none)) = some (r1, r2, r3) := H; have A2 := kA A20; clear A20
 replace H := nP H; obtain ⟨c3, H⟩ := H; obtain ⟨c3b0, c3b1⟩ := eP c3; clear c3
 replace H := nQ H; obtain ⟨c4, H⟩ := H; obtain ⟨c4b0, c4b1⟩ := eN c4
 have c4b2 : ¬ (t362 = []) := fun h_ => c4 (by rw [h_]; rfl)
 obtain ⟨ji5, hji5⟩ : ∃ j_ : Int, (wrap64 ((t362.length : Int) - 1)) = j_ := ⟨_, rfl⟩
 replace H : (if 0 ≤ (ji5) then (if (ji5) ≤ (t362.length : Int) then ((potsherdref12_Join.f k (t362.take ((ji5) : Int).toNat)).bind fun t370 => (if (ji5) < (t362.length : Int) then (some (t370, rdOf ByteArray.empty t362 (ji5), 0)) else (none))) else (none)) else (none)) = some (r1, r2, r3) := by first | (rw [hji5] at H; exact H) | (simp only [hji5] at H ⊢; exact H)
 (try rw [hji5] at A2)
 have hji5w : (IntKind.i64.wrap ((t362.length : Int) - 1)) = ji5 := (i64_w _).trans hji5
 replace H := nP H; obtain ⟨c6, H⟩ := H; have c6b0 := eq_true c6; have c6b1 := qT c6; clear c6
 replace H := nP H; obtain ⟨c7, H⟩ := H; have c7b0 := eq_true c7; have c7b1 := qT c7; clear c7; obtain ⟨y366, hy366⟩ : ∃ y_ : List ByteArray, y_ = (t362.take ((ji5) : Int).toNat) := ⟨_, rfl⟩
 replace H : ((potsherdref12_Join.f k y366).bind fun t370 => (if (ji5) < (t362.length : Int) then (some (t370, rdOf ByteArray.empty t362 (ji5), 0)) else (none))) = some (r1, r2, r3) := rH H hy366
 have Ny366 := kA hy366; clear hy366; replace H := qB H; obtain ⟨t370, A80, H⟩ := H; have A8 := kA A80; clear A80
 replace H := nP H; obtain ⟨c9, H⟩ := H; have c9b0 := qT c9; clear c9; simp only [Option.some.injEq, Prod.mk.injEq] at H; obtain ⟨rfl, rfl, rfl⟩ := H
 go_enter Try.func90, Try.ntmps90
 go_wp2_with (first | (go_at_call 91; (with_reducible refine (potsherdref12_Split.calls k a0 t362 t363 _ A2.out).mono ?_); rintro e w10 ⟨v364, rfl, ho0, hb⟩; have HO365 := kA (Kd.R_lower ho0 (below_size (mH HB))); replace HB := kH HB hb; (try clear hb); (try clear ho0); obtain ⟨Ao11, co11, eo11⟩ := Kd.R_slice HO365.out; subst eo11; have q12 : ((ji5) : Int) ≤ ((t362.length : Int) : Int) := dT; obtain ⟨i012, hi012, _, hsz12, _⟩ := info_parts info9; have hroom12 : t362.length ≤ co11 := (Kd.R_reads' HO365.out).2.1; have hC12 : Kd.C Kd.string _ Ao11 t362.length t362 := (Kd.R_reads' HO365.out).2.2; have hcut12 := cut_to (P := Try.prog) 113 9 .i64 Try.underlying113 hi012 Ao11 t362.length co11 (ji5) (dT) q12 hroom12; have hr12 := Kd.C_take (m := ((ji5) : Int).toNat) hC12 (by omega); have hy12 : y366.length = ((ji5) : Int).toNat := (by rw [Ny366.out, List.length_take]; omega); rw [← Ny366.out] at hr12; rw [← hy12] at hcut12; have HR369 := kA hr12; have HC369 := kA (show y366.length ≤ co11 from by omega); clear hr12 hC12 hroom12 hi012 hsz12; have KY12 := kA hy12; clear hy12; have KL12 := kA (show ((ji5) : Int).toNat ≤ t362.length from by omega); replace q12 := eq_true q12) | (go_at_call 93; (with_reducible refine (potsherdref12_Join.calls k _ _ y366 t370 _ ?side1 ?side2 A8.out).mono ?_); (case side1 => repeat (first | exact (by repeat (first | (with_reducible exact HR369.out) | (with_reducible refine Kd.C_alloc ?_ _) | (with_reducible refine Kd.C_drewN ?_ _) | (with_reducible refine Kd.C_drew ?_) | exact HR369.out)) | (with_reducible refine Kd.C_alloc ?_ _) | (with_reducible refine Kd.C_drewN ?_ _) | (with_reducible refine Kd.C_drew ?_))); (case side2 => exact HC369.out); rintro e w' ⟨rfl, ⟨nd, rfl⟩⟩; (try first | exact ⟨rfl, _, World.drewN_drewN _ _ _⟩ | exact ⟨rfl, _, Eq.trans (World.drewN_drewN _ _ _) (congrArg (World.drewN _) (Nat.add_assoc _ _ _))⟩); have p371 : 0 ≤ ((ji5) : Int) := dT; have q371 : (ji5) < (t362.length : Int) := dT; obtain ⟨ad371, e371, hx371_0⟩ := Kd.at_string (Kd.R_reads' HO365.out).2.2 (ji5) p371 q371; cases e371; replace p371 := eq_true p371; replace q371 := eq_true q371))
 repeat (go_quiet (first | (go_at_call 91; (with_reducible refine (potsherdref12_Split.calls k a0 t362 t363 _ A2.out).mono ?_); rintro e w10 ⟨v364, rfl, ho0, hb⟩; have HO365 := kA (Kd.R_lower ho0 (below_size (mH HB))); replace HB := kH HB hb; (try clear hb); (try clear ho0); obtain ⟨Ao11, co11, eo11⟩ := Kd.R_slice HO365.out; subst eo11; have q12 : ((ji5) : Int) ≤ ((t362.length : Int) : Int) := dT; obtain ⟨i012, hi012, _, hsz12, _⟩ := info_parts info9; have hroom12 : t362.length ≤ co11 := (Kd.R_reads' HO365.out).2.1; have hC12 : Kd.C Kd.string _ Ao11 t362.length t362 := (Kd.R_reads' HO365.out).2.2; have hcut12 := cut_to (P := Try.prog) 113 9 .i64 Try.underlying113 hi012 Ao11 t362.length co11 (ji5) (dT) q12 hroom12; have hr12 := Kd.C_take (m := ((ji5) : Int).toNat) hC12 (by omega); have hy12 : y366.length = ((ji5) : Int).toNat := (by rw [Ny366.out, List.length_take]; omega); rw [← Ny366.out] at hr12; rw [← hy12] at hcut12; have HR369 := kA hr12; have HC369 := kA (show y366.length ≤ co11 from by omega); clear hr12 hC12 hroom12 hi012 hsz12; have KY12 := kA hy12; clear hy12; have KL12 := kA (show ((ji5) : Int).toNat ≤ t362.length from by omega); replace q12 := eq_true q12) | (go_at_call 93; (with_reducible refine (potsherdref12_Join.calls k _ _ y366 t370 _ ?side1 ?side2 A8.out).mono ?_); (case side1 => repeat (first | exact (by repeat (first | (with_reducible exact HR369.out) | (with_reducible refine Kd.C_alloc ?_ _) | (with_reducible refine Kd.C_drewN ?_ _) | (with_reducible refine Kd.C_drew ?_) | exact HR369.out)) | (with_reducible refine Kd.C_alloc ?_ _) | (with_reducible refine Kd.C_drewN ?_ _) | (with_reducible refine Kd.C_drew ?_))); (case side2 => exact HC369.out); rintro e w' ⟨rfl, ⟨nd, rfl⟩⟩; (try first | exact ⟨rfl, _, World.drewN_drewN _ _ _⟩ | exact ⟨rfl, _, Eq.trans (World.drewN_drewN _ _ _) (congrArg (World.drewN _) (Nat.add_assoc _ _ _))⟩); have p371 : 0 ≤ ((ji5) : Int) := dT; have q371 : (ji5) < (t362.length : Int) := dT; obtain ⟨ad371, e371, hx371_0⟩ := Kd.at_string (Kd.R_reads' HO365.out).2.2 (ji5) p371 q371; cases e371; replace p371 := eq_true p371; replace q371 := eq_true q371)); try go_wp2_with (first | (go_at_call 91; (with_reducible refine (potsherdref12_Split.calls k a0 t362 t363 _ A2.out).mono ?_); rintro e w10 ⟨v364, rfl, ho0, hb⟩; have HO365 := kA (Kd.R_lower ho0 (below_size (mH HB))); replace HB := kH HB hb; (try clear hb); (try clear ho0); obtain ⟨Ao11, co11, eo11⟩ := Kd.R_slice HO365.out; subst eo11; have q12 : ((ji5) : Int) ≤ ((t362.length : Int) : Int) := dT; obtain ⟨i012, hi012, _, hsz12, _⟩ := info_parts info9; have hroom12 : t362.length ≤ co11 := (Kd.R_reads' HO365.out).2.1; have hC12 : Kd.C Kd.string _ Ao11 t362.length t362 := (Kd.R_reads' HO365.out).2.2; have hcut12 := cut_to (P := Try.prog) 113 9 .i64 Try.underlying113 hi012 Ao11 t362.length co11 (ji5) (dT) q12 hroom12; have hr12 := Kd.C_take (m := ((ji5) : Int).toNat) hC12 (by omega); have hy12 : y366.length = ((ji5) : Int).toNat := (by rw [Ny366.out, List.length_take]; omega); rw [← Ny366.out] at hr12; rw [← hy12] at hcut12; have HR369 := kA hr12; have HC369 := kA (show y366.length ≤ co11 from by omega); clear hr12 hC12 hroom12 hi012 hsz12; have KY12 := kA hy12; clear hy12; have KL12 := kA (show ((ji5) : Int).toNat ≤ t362.length from by omega); replace q12 := eq_true q12) | (go_at_call 93; (with_reducible refine (potsherdref12_Join.calls k _ _ y366 t370 _ ?side1 ?side2 A8.out).mono ?_); (case side1 => repeat (first | exact (by repeat (first | (with_reducible exact HR369.out) | (with_reducible refine Kd.C_alloc ?_ _) | (with_reducible refine Kd.C_drewN ?_ _) | (with_reducible refine Kd.C_drew ?_) | exact HR369.out)) | (with_reducible refine Kd.C_alloc ?_ _) | (with_reducible refine Kd.C_drewN ?_ _) | (with_reducible refine Kd.C_drew ?_))); (case side2 => exact HC369.out); rintro e w' ⟨rfl, ⟨nd, rfl⟩⟩; (try first | exact ⟨rfl, _, World.drewN_drewN _ _ _⟩ | exact ⟨rfl, _, Eq.trans (World.drewN_drewN _ _ _) (congrArg (World.drewN _) (Nat.add_assoc _ _ _))⟩); have p371 : 0 ≤ ((ji5) : Int) := dT; have q371 : (ji5) < (t362.length : Int) := dT; obtain ⟨ad371, e371, hx371_0⟩ := Kd.at_string (Kd.R_reads' HO365.out).2.2 (ji5) p371 q371; cases e371; replace p371 := eq_true p371; replace q371 := eq_true q371)))
 go_ret3
 exact ⟨by first | rfl | exact congrArg (fun b_ => Ending.returned (Value.bool b_)) HRET.out | (rw [HRET.out]) | (simp [errW_none, errW_some] <;> rfl) | (simp only [← hji5]; first | rfl | (simp [errW_none, errW_some] <;> rfl)) | (simp [*, errW_none, errW_some] <;> rfl), mH HB⟩
def potsherdref12_At.l0 : Nat → Int → Int → Option (Int)
 | 0, _, _ => none
 | k + 1, x8, x9 => if x9 < x8 then (none) else (some (-1))
def potsherdref12_At.f (k : Nat) (l0 : List (S78)) (a1 : ByteArray) : Option (Int) := potsherdref12_At.l0 k (l0.length : Int) 0
theorem potsherdref12_At.mono_l : ∀ k, (∀ y0 y1, LeO (potsherdref12_At.l0 k y0 y1) (potsherdref12_At.l0 (k + 1) y0 y1))
 | 0 => fun _ _ r h => by simp [potsherdref12_At.l0] at h
 | k + 1 => by
  have ih0 := potsherdref12_At.mono_l k
  ·
   intro y0 y1
   unfold potsherdref12_At.l0
   repeat' with_reducible first | apply ih0 | exact LeO.refl _ | exact LeO.none _ | refine LeO.ite ?_ ?_ | refine LeO.bind ?_ (fun _ => ?_)
theorem potsherdref12_At.mono : ∀ a0 a1 k, LeO (potsherdref12_At.f k a0 a1) (potsherdref12_At.f (k + 1) a0 a1) := by
 intro a0 a1 k; have ih0 := potsherdref12_At.mono_l k
 unfold potsherdref12_At.f
 repeat' with_reducible first | apply ih0 | exact LeO.refl _ | exact LeO.none _ | refine LeO.ite ?_ ?_ | refine LeO.bind ?_ (fun _ => ?_)
set_option maxHeartbeats 8000000 in
set_option maxRecDepth 100000 in
theorem potsherdref12_At.calls (k : Nat) (A0 : Option Addr) (c0 : Nat) (l0 : List (S78)) (a1 : ByteArray) (r : Int) (w : World) (hr0 : Kd.C k78 w A0 l0.length l0) (hc0 : l0.length ≤ c0) (h : potsherdref12_At.f k l0 a1 = some r) :
 Calls Try.prog 86 #[.slice A0 l0.length c0, .string a1] w fun e w' => e = .returned (.int .i64 r) ∧ Below w.heap.size w w' := by
 have hu78 := Try.underlying78; have HR0 := kA hr0; have HC0 := kA hc0; clear hr0 hc0; have HB := kA (Below.refl w.heap.size w); have H : (potsherdref12_At.l0 k (l0.length : Int) 0) = some r := h; clear h; have H' := kA H; clear H
 go_enter Try.func86, Try.ntmps86
 go_wp2
 go_loopg [9] k (fun kq v9 w' => ∃ (x9_1 : Int), v9 = .int .i64 x9_1 ∧ Aside0 (potsherdref12_At.l0 kq (l0.length : Int) x9_1 = some r) ∧ Aside0 (kq ≤ k) ∧ Aside0 (Below w.heap.size w w'))
 case atStart => exact ⟨(0), sI, H', ⟨Nat.le_refl _⟩, ⟨mH HB⟩⟩
 case round =>
  clear H'
  obtain ⟨x9_1, rfl, HA, HK1, HB⟩ := hrel
  cases gk with
  | zero => exact absurd HA.out (by simp [potsherdref12_At.l0])
  | succ k1 =>
   have H := HA.out; clear HA; simp only [potsherdref12_At.l0] at H
   replace H := nQ H; obtain ⟨c3, H⟩ := H; have c3b0 := qF c3; clear c3; obtain rfl := qI H
   go_wp2
   go_ret
   exact ⟨rT, mH HB⟩
def potsherdref12_find.l0 : Nat → Int → Int → Int → Option (Int × Int)
 | 0, _, _, _ => none
 | k + 1, x6, x10, x11 => if x11 < x10 then (none) else (some (x6, 0))
def potsherdref12_find.f (k : Nat) (l0_0 : List (S28)) (l1 : List ByteArray) : Option (Int × Int) := potsherdref12_find.l0 k 0 (l1.length : Int) 0
theorem potsherdref12_find.mono_l : ∀ k, (∀ y0 y1 y2, LeO (potsherdref12_find.l0 k y0 y1 y2) (potsherdref12_find.l0 (k + 1) y0 y1 y2))
 | 0 => fun _ _ _ r h => by simp [potsherdref12_find.l0] at h
 | k + 1 => by
  have ih0 := potsherdref12_find.mono_l k
  ·
   intro y0 y1 y2
   unfold potsherdref12_find.l0
   repeat' with_reducible first | apply ih0 | apply potsherdref12_At.mono | exact LeO.refl _ | exact LeO.none _ | refine LeO.ite ?_ ?_ | refine LeO.bind ?_ (fun _ => ?_)
theorem potsherdref12_find.mono : ∀ a0 a1 k, LeO (potsherdref12_find.f k a0 a1) (potsherdref12_find.f (k + 1) a0 a1) := by
 intro a0 a1 k; have ih0 := potsherdref12_find.mono_l k
 unfold potsherdref12_find.f
 repeat' with_reducible first | apply ih0 | apply potsherdref12_At.mono | exact LeO.refl _ | exact LeO.none _ | refine LeO.ite ?_ ?_ | refine LeO.bind ?_ (fun _ => ?_)
set_option maxHeartbeats 8000000 in
set_option maxRecDepth 100000 in
theorem potsherdref12_find.calls (k : Nat) (A0_0 : Option Addr) (c0_0 : Nat) (l0_0 : List (S28)) (A1 : Option Addr) (c1 : Nat) (l1 : List ByteArray) (r1 : Int) (r2 : Int) (w : World) (hr0_0 : Kd.C k28 w A0_0 l0_0.length l0_0) (hc0_0 : l0_0.length ≤ c0_0) (hr1 : Kd.C Kd.string w A1 l1.length l1) (hc1 : l1.length ≤ c1) (h : potsherdref12_find.f k l0_0 l1 = some (r1, r2)) :
 Calls Try.prog 92 #[.agg #[.slice A0_0 l0_0.length c0_0], .slice A1 l1.length c1] w fun e w' => e = .returned (.tuple #[.int .i64 r1, .int .i64 r2]) ∧ Below w.heap.size w w' := by
 have hu24 := Try.underlying24; have HR0_0 := kA hr0_0; have HC0_0 := kA hc0_0; clear hr0_0 hc0_0; have HR1 := kA hr1; have HC1 := kA hc1; clear hr1 hc1; have HB := kA (Below.refl w.heap.size w); have H : (potsherdref12_find.l0 k 0 (l1.length : Int) 0) = some (r1, r2) := h; clear h; have H' := kA H; clear H
 go_enter Try.func92, Try.ntmps92
 go_wp2_with (first | ((with_reducible refine gate_dst (N := 2) rfl ?_); refine bxE 24 (cs := #[.slice A0_0 l0_0.length c0_0]) ?_; intro gb374 hg w3 hbox hb; have BK374 := kA hbox; have GW374 := kG HB hg; have GE374 := kG HB hg; replace HB := kH HB hb; clear hb hbox hg))
 go_loopg [6, 11] k (fun kq v6 v11 w' => ∃ (x6_1 : Int) (x11_1 : Int), v6 = .int .i64 x6_1 ∧ v11 = .int .i64 x11_1 ∧ Aside0 (potsherdref12_find.l0 kq x6_1 (l1.length : Int) x11_1 = some (r1, r2)) ∧ Aside0 (kq ≤ k) ∧ Aside0 (w'.heap[gb374]? = some (.cells #[(.slice A0_0 l0_0.length c0_0)] 24 (0, 0))) ∧ Aside0 (Below w.heap.size w w'))
 case atStart => exact ⟨(0), (0), sI, sI, H', ⟨Nat.le_refl _⟩, ⟨mB BK374⟩, ⟨mH HB⟩⟩
 case round =>
  clear H'
  (try clear c1)
  obtain ⟨x6_1, x11_1, rfl, rfl, HA, HK1, BK374, HB⟩ := hrel
  cases gk with
  | zero => exact absurd HA.out (by simp [potsherdref12_find.l0])
  | succ k1 =>
   have H := HA.out; clear HA; simp only [potsherdref12_find.l0] at H
   replace H := nQ H; obtain ⟨c4, H⟩ := H; have c4b0 := qF c4; clear c4; simp only [Option.some.injEq, Prod.mk.injEq] at H; obtain ⟨rfl, rfl⟩ := H
   go_wp2
   go_ret2
   exact ⟨rT, mH HB⟩
def potsherdref12_Parent.f (k : Nat) (l0_0 : List (S28)) (a1 : ByteArray) : Option (Int × ByteArray × Int) := (potsherdref12_MayTree.f k l0_0).bind fun t380 => (if t380 = true then ((potsherdref12_Last.f k a1).bind fun bt381 => (if bt381.2.2 = 0 then ((potsherdref12_Split.f k bt381.1).bind fun bt384 => ((potsherdref12_find.f k l0_0 bt384.1).bind fun bt388 => (if bt388.2 = 0 then (if 0 ≤ bt388.1 then (if bt388.1 < (l0_0.length : Int) then (if ((rU l0_0 bt388.1).f0) = 2 then (some (bt388.1, bt381.2.1, 0)) else (none)) else (none)) else (none)) else (none)))) else (none))) else (none))
theorem potsherdref12_Parent.mono : ∀ a0 a1 k, LeO (potsherdref12_Parent.f k a0 a1) (potsherdref12_Parent.f (k + 1) a0 a1) := by
 intro a0 a1 k
 unfold potsherdref12_Parent.f
 repeat' with_reducible first | apply potsherdref12_Last.mono | apply potsherdref12_MayTree.mono | apply potsherdref12_Split.mono | apply potsherdref12_find.mono | exact LeO.refl _ | exact LeO.none _ | refine LeO.ite ?_ ?_ | refine LeO.bind ?_ (fun _ => ?_)
set_option maxHeartbeats 8000000 in
set_option maxRecDepth 100000 in
theorem potsherdref12_Parent.calls (k : Nat) (A0_0 : Option Addr) (c0_0 : Nat) (l0_0 : List (S28)) (a1 : ByteArray) (r1 : Int) (r2 : ByteArray) (r3 : Int) (w : World) (hr0_0 : Kd.C k28 w A0_0 l0_0.length l0_0) (hc0_0 : l0_0.length ≤ c0_0) (h : potsherdref12_Parent.f k l0_0 a1 = some (r1, r2, r3)) :
 Calls Try.prog 85 #[.agg #[.slice A0_0 l0_0.length c0_0], .string a1] w fun e w' => e = .returned (.tuple #[.int .i64 r1, .string r2, .int .i64 r3]) ∧ Below w.heap.size w w' := by
 have hu24 := Try.underlying24; have HR0_0 := kA hr0_0; have HC0_0 := kA hc0_0; clear hr0_0 hc0_0; have HB := kA (Below.refl w.heap.size w); have H : ((potsherdref12_MayTree.f k l0_0).bind fun t380 => (if t380 = true then ((potsherdref12_Last.f k a1).bind fun bt381 => (if bt381.2.2 = 0 then ((potsherdref12_Split.f k bt381.1).bind fun bt384 => ((potsherdref12_find.f k l0_0 bt384.1).bind fun bt388 => (if bt388.2 = 0 then (if 0 ≤ bt388.1 then (if bt388.1 < (l0_0.length : Int) then (if ((rU l0_0 bt388.1).f0) = 2 then (some (bt388.1, bt381.2.1, 0)) else (none)) else (none)) else (none)) else (none)))) else (none))) else (none))) = some (r1, r2, r3) := h; clear h; replace H := qB H; obtain ⟨t380, A30, H⟩ := H; have A3 := kA A30; clear A30
 by_cases c4 : t380 = true
 ·
  subst c4
  have H1 : ((potsherdref12_Last.f k a1).bind fun bt381 => (if bt381.2.2 = 0 then ((potsherdref12_Split.f k bt381.1).bind fun bt384 => ((potsherdref12_find.f k l0_0 bt384.1).bind fun bt388 => (if bt388.2 = 0 then (if 0 ≤ bt388.1 then (if bt388.1 < (l0_0.length : Int) then (if ((rU l0_0 bt388.1).f0) = 2 then (some (bt388.1, bt381.2.1, 0)) else (none)) else (none)) else (none)) else (none)))) else (none))) = some (r1, r2, r3) := by rw [if_pos rfl] at H; exact H
  clear H; have H := H1; clear H1; replace H := qB H; obtain ⟨⟨t381, t382, t383⟩, A50, H⟩ := H; replace H : (if t383 = 0 then ((potsherdref12_Split.f k t381).bind fun bt384 => ((potsherdref12_find.f k l0_0 bt384.1).bind fun bt388 => (if bt388.2 = 0 then (if 0 ≤ bt388.1 then (if bt388.1 < (l0_0.length : Int) then (if ((rU l0_0 bt388.1).f0) = 2 then (some (bt388.1, t382, 0)) else (none)) else (none)) else (none)) else (none)))) else (none)) = some (r1, r2, r3) := H; have A5 := kA A50; clear A50
  replace H := nP H; obtain ⟨c6, H⟩ := H; obtain ⟨c6b0, c6b1⟩ := eP c6; clear c6; replace H := qB H; obtain ⟨⟨t384, t385⟩, A70, H⟩ := H; replace H : ((potsherdref12_find.f k l0_0 t384).bind fun bt388 => (if bt388.2 = 0 then (if 0 ≤ bt388.1 then (if bt388.1 < (l0_0.length : Int) then (if ((rU l0_0 bt388.1).f0) = 2 then (some (bt388.1, t382, 0)) else (none)) else (none)) else (none)) else (none))) = some (r1, r2, r3) := H; have A7 := kA A70; clear A70; replace H := qB H; obtain ⟨⟨t388, t389⟩, A80, H⟩ := H; replace H : (if t389 = 0 then (if 0 ≤ t388 then (if t388 < (l0_0.length : Int) then (if ((rU l0_0 t388).f0) = 2 then (some (t388, t382, 0)) else (none)) else (none)) else (none)) else (none)) = some (r1, r2, r3) := H; have A8 := kA A80; clear A80
  replace H := nP H; obtain ⟨c9, H⟩ := H; obtain ⟨c9b0, c9b1⟩ := eP c9; clear c9
  replace H := nP H; obtain ⟨c10, H⟩ := H; have c10b0 := qT c10; clear c10
  replace H := nP H; obtain ⟨c11, H⟩ := H; have c11b0 := qT c11; clear c11
  replace H := nP H; obtain ⟨c12, H⟩ := H; obtain ⟨c12b0, c12b1⟩ := eP c12; clear c12; simp only [Option.some.injEq, Prod.mk.injEq] at H; obtain ⟨rfl, rfl, rfl⟩ := H
  go_enter Try.func85, Try.ntmps85
  go_wp2_with (first | ((with_reducible refine gate_dst (N := 2) rfl ?_); refine bxE 24 (cs := #[.slice A0_0 l0_0.length c0_0]) ?_; intro gb379 hg w13 hbox hb; have BK379 := kA hbox; have GW379 := kG HB hg; have GE379 := kG HB hg; replace HB := kH HB hb; clear hb hbox hg; obtain ⟨hcz14_0, hfz14_0⟩ := cY0 BK379) | ((with_reducible refine gate_callee (f := 29) rfl ?_); refine goesK (some 14) Try.func29 #[.agg #[.slice A0_0 l0_0.length c0_0]] ?_; (with_reducible refine (potsherdref12_MayTree.calls k _ _ l0_0 true _ ?side1 ?side2 A3.out).mono ?_); (case side1 => exact mC HR0_0 HB); (case side2 => exact HC0_0.out); rintro e w15 ⟨rfl, hb⟩; refine ⟨_, rfl, ?_⟩; replace BK379 := kB BK379 hb; replace HB := kH HB hb; (try clear hb)) | ((with_reducible refine gate_callee (f := 90) rfl ?_); refine goesK (some 18) Try.func90 #[.string a1] ?_; (with_reducible refine (potsherdref12_Last.calls k a1 t381 t382 t383 _ A5.out).mono ?_); rintro e w16 ⟨rfl, hb⟩; refine ⟨_, rfl, ?_⟩; replace BK379 := kB BK379 hb; replace HB := kH HB hb; (try clear hb)) | ((with_reducible refine gate_callee (f := 91) rfl ?_); refine goesK (some 27) Try.func91 #[.string t381] ?_; (with_reducible refine (potsherdref12_Split.calls k t381 t384 t385 _ A7.out).mono ?_); rintro e w17 ⟨v386, rfl, ho0, hb⟩; refine ⟨_, rfl, ?_⟩; have HO387 := kA (Kd.R_lower ho0 (below_size (mH HB))); replace BK379 := kB BK379 hb; replace HB := kH HB hb; (try clear hb); (try clear ho0); obtain ⟨hcz18_0, hfz18_0⟩ := cY0 BK379; obtain ⟨Ao19, co19, eo19⟩ := Kd.R_slice HO387.out; subst eo19) | ((with_reducible refine gate_callee (f := 92) rfl ?_); refine goesK (some 33) Try.func92 #[.agg #[.slice A0_0 l0_0.length c0_0], .slice Ao19 t384.length co19] ?_; (with_reducible refine (potsherdref12_find.calls k _ _ l0_0 _ _ t384 t388 t389 _ ?side1 ?side2 ?side3 ?side4 A8.out).mono ?_); (case side1 => exact mC HR0_0 HB); (case side2 => exact HC0_0.out); (case side3 => repeat (first | exact (Kd.R_reads' HO387.out).2.2 | (with_reducible refine Kd.C_alloc ?_ _) | (with_reducible refine Kd.C_drewN ?_ _) | (with_reducible refine Kd.C_drew ?_))); (case side4 => exact (Kd.R_reads' HO387.out).2.1); rintro e w20 ⟨rfl, hb⟩; refine ⟨_, rfl, ?_⟩; replace HO387 := kR HO387 hb; replace BK379 := kB BK379 hb; replace HB := kH HB hb; (try clear hb); obtain ⟨hcz21_0, hfz21_0⟩ := cY0 BK379; have p390 : 0 ≤ (t388 : Int) := dT; have q390 : t388 < (l0_0.length : Int) := dT; obtain ⟨ad390, A390_3, c390_3, A390_4, c390_4, e390, hx390_0, hx390_1, hx390_2, hx390_3, hx390_4, hl390_3, hi390_3, hl390_4, hi390_4⟩ := at_T28 HR0_0.out t388 p390 q390; cases e390; replace hx390_0 := xC HB hx390_0; replace hx390_1 := xC HB hx390_1; replace hx390_2 := xC HB hx390_2; replace hx390_3 := xC HB hx390_3; replace hx390_4 := xC HB hx390_4; have HR390_3 := kA hi390_3; have HC390_3 := kA hl390_3; clear hi390_3 hl390_3; have HR390_4 := kA hi390_4; have HC390_4 := kA hl390_4; clear hi390_4 hl390_4; replace p390 := eq_true p390; replace q390 := eq_true q390))
  go_ret3
  exact ⟨rT, mH HB⟩
 ·
  replace c4 := Bool.eq_false_iff.mpr c4; subst c4
  have H1 : (none) = some (r1, r2, r3) := by rw [if_neg (show ¬ (false = true) by decide)] at H; exact H
  clear H; have H := H1; clear H1; exact absurd H (by simp)
def potsherdref12_Free.l0 : Nat → List (S28) → Int → Int → Option (Int)
 | 0, _, _, _ => none
 | k + 1, x9, x10, x11 => if x11 < x10 then (if 0 ≤ x11 then (if x11 < (x9.length : Int) then (if ((rU x9 x11).f0) = 0 then (some x11) else (potsherdref12_Free.l0 k x9 x10 (wrap64 (x11 + 1)))) else (none)) else (none)) else (none)
def potsherdref12_Free.f (k : Nat) (l0_0 : List (S28)) : Option (Int) := (potsherdref12_MayTree.f k l0_0).bind fun t392 => (if t392 = true then (potsherdref12_Free.l0 k l0_0 (l0_0.length : Int) 0) else (none))
theorem potsherdref12_Free.mono_l : ∀ k, (∀ y0 y1 y2, LeO (potsherdref12_Free.l0 k y0 y1 y2) (potsherdref12_Free.l0 (k + 1) y0 y1 y2))
 | 0 => fun _ _ _ r h => by simp [potsherdref12_Free.l0] at h
 | k + 1 => by
  have ih0 := potsherdref12_Free.mono_l k
  ·
   intro y0 y1 y2
   unfold potsherdref12_Free.l0
   repeat' with_reducible first | apply ih0 | apply potsherdref12_MayTree.mono | exact LeO.refl _ | exact LeO.none _ | refine LeO.ite ?_ ?_ | refine LeO.bind ?_ (fun _ => ?_)
theorem potsherdref12_Free.mono : ∀ a0 k, LeO (potsherdref12_Free.f k a0) (potsherdref12_Free.f (k + 1) a0) := by
 intro a0 k; have ih0 := potsherdref12_Free.mono_l k
 unfold potsherdref12_Free.f
 repeat' with_reducible first | apply ih0 | apply potsherdref12_MayTree.mono | exact LeO.refl _ | exact LeO.none _ | refine LeO.ite ?_ ?_ | refine LeO.bind ?_ (fun _ => ?_)
set_option maxHeartbeats 8000000 in
set_option maxRecDepth 100000 in
theorem potsherdref12_Free.calls (k : Nat) (A0_0 : Option Addr) (c0_0 : Nat) (l0_0 : List (S28)) (r : Int) (w : World) (hr0_0 : Kd.C k28 w A0_0 l0_0.length l0_0) (hc0_0 : l0_0.length ≤ c0_0) (h : potsherdref12_Free.f k l0_0 = some r) :
 Calls Try.prog 87 #[.agg #[.slice A0_0 l0_0.length c0_0]] w fun e w' => e = .returned (.int .i64 r) ∧ Below w.heap.size w w' := by
 have hu24 := Try.underlying24; have hu28 := Try.underlying28; have HR0_0 := kA hr0_0; have HC0_0 := kA hc0_0; clear hr0_0 hc0_0; have HB := kA (Below.refl w.heap.size w); have H : ((potsherdref12_MayTree.f k l0_0).bind fun t392 => (if t392 = true then (potsherdref12_Free.l0 k l0_0 (l0_0.length : Int) 0) else (none))) = some r := h; clear h; replace H := qB H; obtain ⟨t392, A20, H⟩ := H; have A2 := kA A20; clear A20
 by_cases c3 : t392 = true
 ·
  subst c3
  have H1 : (potsherdref12_Free.l0 k l0_0 (l0_0.length : Int) 0) = some r := by rw [if_pos rfl] at H; exact H
  clear H; have H := H1; clear H1; have H' := kA H; clear H
  go_enter Try.func87, Try.ntmps87
  go_wp2_with (first | ((with_reducible refine gate_dst (N := 1) rfl ?_); refine bxE 24 (cs := #[.slice A0_0 l0_0.length c0_0]) ?_; intro gb391 hg w4 hbox hb; have BK391 := kA hbox; have GW391 := kG HB hg; have GE391 := kG HB hg; replace HB := kH HB hb; clear hb hbox hg; obtain ⟨hcz5_0, hfz5_0⟩ := cY0 BK391) | ((with_reducible refine gate_callee (f := 29) rfl ?_); refine goesK (some 6) Try.func29 #[.agg #[.slice A0_0 l0_0.length c0_0]] ?_; (with_reducible refine (potsherdref12_MayTree.calls k _ _ l0_0 true _ ?side1 ?side2 A2.out).mono ?_); (case side1 => exact mC HR0_0 HB); (case side2 => exact HC0_0.out); rintro e w6 ⟨rfl, hb⟩; refine ⟨_, rfl, ?_⟩; replace BK391 := kB BK391 hb; replace HB := kH HB hb; (try clear hb); obtain ⟨hcz7_0, hfz7_0⟩ := cY0 BK391))
  go_loopg [11] k (fun kq v11 w' => ∃ (x11_1 : Int), v11 = .int .i64 x11_1 ∧ Aside0 (potsherdref12_Free.l0 kq l0_0 (l0_0.length : Int) x11_1 = some r) ∧ Aside0 (kq ≤ k) ∧ Aside0 (w'.heap[gb391]? = some (.cells #[(.slice A0_0 l0_0.length c0_0)] 24 (0, 0))) ∧ Aside0 (Below w.heap.size w w'))
  case atStart => exact ⟨(0), sI, H', ⟨Nat.le_refl _⟩, ⟨mB BK391⟩, ⟨mH HB⟩⟩
  case round =>
   clear H'
   (try clear c3); (try clear hcz5_0); (try clear hcz7_0); (try clear hfz5_0); (try clear hfz7_0)
   obtain ⟨x11_1, rfl, HA, HK1, BK391, HB⟩ := hrel
   cases gk with
   | zero => exact absurd HA.out (by simp [potsherdref12_Free.l0])
   | succ k1 =>
    have H := HA.out; clear HA; simp only [potsherdref12_Free.l0] at H
    replace H := nP H; obtain ⟨c8, H⟩ := H; have c8b0 := qT c8; clear c8
    replace H := nP H; obtain ⟨c9, H⟩ := H; have c9b0 := qT c9; clear c9
    replace H := nP H; obtain ⟨c10, H⟩ := H; have c10b0 := qT c10; clear c10
    by_cases c11 : ((rU l0_0 x11_1).f0) = 0
    ·
     rw [if_pos c11] at H; obtain ⟨c11b0, c11b1⟩ := eP c11; clear c11; obtain rfl := qI H; have p393 : 0 ≤ (x11_1 : Int) := dT; have q393 : x11_1 < (l0_0.length : Int) := dT; obtain ⟨ad393, A393_3, c393_3, A393_4, c393_4, e393, hx393_0, hx393_1, hx393_2, hx393_3, hx393_4, hl393_3, hi393_3, hl393_4, hi393_4⟩ := at_T28 HR0_0.out x11_1 p393 q393
     cases e393
     replace hx393_0 := xC HB hx393_0; replace hx393_1 := xC HB hx393_1; replace hx393_2 := xC HB hx393_2; replace hx393_3 := xC HB hx393_3; replace hx393_4 := xC HB hx393_4; have HR393_3 := kA hi393_3; have HC393_3 := kA hl393_3; clear hi393_3 hl393_3; have HR393_4 := kA hi393_4; have HC393_4 := kA hl393_4; clear hi393_4 hl393_4; replace p393 := eq_true p393; replace q393 := eq_true q393
     go_wp2_with (first | ((with_reducible refine gate_dst (N := 4) rfl ?_); refine bxE 28 (cs := #[.int .i64 0, .int .i64 0, .int .i64 0, .slice none 0 0, .slice none 0 0]) ?_; intro gb394 hg w12 hbox hb; have BK394 := kA hbox; have GW394 := kG HB hg; have GE394 := kG HB hg; replace HB := kH HB hb; have NB391_394 := kL BK391 hg; have NB394_391 := kQ BK391 hg; replace BK391 := kB BK391 hb; clear hb hbox hg; have hnb13 := NB394_391.out; have hnc13 := NB391_394.out; obtain ⟨hcz14_0, hfz14_0⟩ := cY0 BK394; obtain ⟨hcz14_1, hfz14_1⟩ := cY1 BK394; obtain ⟨hcz14_2, hfz14_2⟩ := cY2 BK394; obtain ⟨hcz14_3, hfz14_3⟩ := cY3 BK394; obtain ⟨hcz14_4, hfz14_4⟩ := cY4 BK394))
     go_ret
     exact ⟨rT, mH HB⟩
    ·
     rw [if_neg c11] at H; obtain ⟨c11b0, c11b1⟩ := eN c11; have H' := kA H; clear H; have p393 : 0 ≤ (x11_1 : Int) := dT; have q393 : x11_1 < (l0_0.length : Int) := dT; obtain ⟨ad393, A393_3, c393_3, A393_4, c393_4, e393, hx393_0, hx393_1, hx393_2, hx393_3, hx393_4, hl393_3, hi393_3, hl393_4, hi393_4⟩ := at_T28 HR0_0.out x11_1 p393 q393
     cases e393
     replace hx393_0 := xC HB hx393_0; replace hx393_1 := xC HB hx393_1; replace hx393_2 := xC HB hx393_2; replace hx393_3 := xC HB hx393_3; replace hx393_4 := xC HB hx393_4; have HR393_3 := kA hi393_3; have HC393_3 := kA hl393_3; clear hi393_3 hl393_3; have HR393_4 := kA hi393_4; have HC393_4 := kA hl393_4; clear hi393_4 hl393_4; replace p393 := eq_true p393; replace q393 := eq_true q393
     go_wp2_with (first | ((with_reducible refine gate_dst (N := 4) rfl ?_); refine bxE 28 (cs := #[.int .i64 0, .int .i64 0, .int .i64 0, .slice none 0 0, .slice none 0 0]) ?_; intro gb394 hg w15 hbox hb; have BK394 := kA hbox; have GW394 := kG HB hg; have GE394 := kG HB hg; replace HB := kH HB hb; have NB391_394 := kL BK391 hg; have NB394_391 := kQ BK391 hg; replace BK391 := kB BK391 hb; clear hb hbox hg; have hnb16 := NB394_391.out; have hnc16 := NB391_394.out; obtain ⟨hcz17_0, hfz17_0⟩ := cY0 BK394; obtain ⟨hcz17_1, hfz17_1⟩ := cY1 BK394; obtain ⟨hcz17_2, hfz17_2⟩ := cY2 BK394; obtain ⟨hcz17_3, hfz17_3⟩ := cY3 BK394; obtain ⟨hcz17_4, hfz17_4⟩ := cY4 BK394))
     go_roundg k1
     case measure => have := HK1.out; omega
     case rel => exact ⟨(wrap64 (x11_1 + 1)), sI, H', ⟨oK HK1⟩, ⟨mF BK391⟩, ⟨mH HB⟩⟩
 ·
  replace c3 := Bool.eq_false_iff.mpr c3; subst c3
  have H1 : (none) = some r := by rw [if_neg (show ¬ (false = true) by decide)] at H; exact H
  clear H; have H := H1; clear H1; exact absurd H (by simp)
abbrev B31_0 : Array Bool := #[false, false, false, false, false, false, false, false, false, false, false, false, false, false, false]
abbrev B31_1 := B31_0.set! 0 true
abbrev B31_2 := B31_1.set! 1 true
abbrev B31_3 := B31_2.set! 2 true
abbrev B31_4 := B31_3.set! 4 true
abbrev B31_5 := B31_4.set! 5 true
abbrev B31_6 := B31_5.set! 6 true
abbrev B31_7 := B31_6.set! 9 true
abbrev B31_8 := B31_7.set! 10 true
abbrev B31_9 := B31_8.set! 11 true
abbrev B31_10 : Array Bool := #[true, true, true, true, true, true, true, true, false, true, true, true, false, false, false]
abbrev B31_11 := B31_9.set! 3 true
abbrev B31_12 := B31_9.set! 7 true
abbrev B31_13 := B31_10.set! 8 true
abbrev B31_14 := B31_13.set! 12 true
abbrev B31_15 := B31_14.set! 13 true
abbrev B31_16 := B31_15.set! 14 true
mutual
def potsherdref12_With.j0 : Nat → List (S78) → ByteArray → Int → Bool → Option ((List (S78)) × Int)
 | 0, _, _, _, _ => none
 | k + 1, x0, x1, x2, x9 => if x9 = true then (none) else ((potsherdref12_At.f k x0 x1).bind fun t397 => (if t397 ≥ 0 then (none) else (if (x0.length : Int) ≥ 10 then (none) else (potsherdref12_With.l0 k x0 x1 x2 0))))
def potsherdref12_With.l0 : Nat → List (S78) → ByteArray → Int → Int → Option ((List (S78)) × Int)
 | 0, _, _, _, _ => none
 | k + 1, x0, x1, x2, x8 => if x8 < (x0.length : Int) then (none) else (if 0 ≤ x8 then (if x8 ≤ (x0.length : Int) then ((some (x0.take (x8 : Int).toNat : List (S78))).bind fun y419 => (if ([] : List (S78)).length + y419.length < 5864062014805 then ((some (([] : List (S78)) ++ y419 : List (S78))).bind fun y423 => ((some (([(⟨x1, x2⟩ : S78)] : List (S78)) : List (S78))).bind fun y426 => (if y423.length + y426.length < 5864062014805 then ((some (y423 ++ y426 : List (S78))).bind fun y429 => ((some (x0.drop (x8 : Int).toNat : List (S78))).bind fun y432 => (if y429.length + y432.length < 5864062014805 then (some ((y429 ++ y432), 0)) else (none)))) else (none)))) else (none))) else (none)) else (none))
end
def potsherdref12_With.f (k : Nat) (l0 : List (S78)) (a1 : ByteArray) (a2 : Int) : Option ((List (S78)) × Int) := (potsherdref12_MayEntries.f k l0).bind fun t395 => (if t395 = true then ((potsherdref12_Name.f k a1).bind fun t396 => (if t396 = true then (if a2 < 1 then (none) else (potsherdref12_With.j0 k l0 a1 a2 (decide (a2 ≥ 12)))) else (none))) else (none))
theorem potsherdref12_With.mono_l : ∀ k, (∀ y0 y1 y2 y3, LeO (potsherdref12_With.j0 k y0 y1 y2 y3) (potsherdref12_With.j0 (k + 1) y0 y1 y2 y3)) ∧ (∀ y0 y1 y2 y3, LeO (potsherdref12_With.l0 k y0 y1 y2 y3) (potsherdref12_With.l0 (k + 1) y0 y1 y2 y3))
 | 0 => ⟨fun _ _ _ _ r h => by simp [potsherdref12_With.j0] at h, fun _ _ _ _ r h => by simp [potsherdref12_With.l0] at h⟩
 | k + 1 => by
  obtain ⟨ih0, ih1⟩ := potsherdref12_With.mono_l k; refine ⟨?_, ?_⟩
  ·
   intro y0 y1 y2 y3
   unfold potsherdref12_With.j0
   repeat' with_reducible first | apply ih0 | apply ih1 | apply potsherdref12_At.mono | apply potsherdref12_MayEntries.mono | apply potsherdref12_Name.mono | exact LeO.refl _ | exact LeO.none _ | refine LeO.ite ?_ ?_ | refine LeO.bind ?_ (fun _ => ?_)
  ·
   intro y0 y1 y2 y3
   unfold potsherdref12_With.l0
   repeat' with_reducible first | apply ih0 | apply ih1 | apply potsherdref12_At.mono | apply potsherdref12_MayEntries.mono | apply potsherdref12_Name.mono | exact LeO.refl _ | exact LeO.none _ | refine LeO.ite ?_ ?_ | refine LeO.bind ?_ (fun _ => ?_)
theorem potsherdref12_With.mono : ∀ a0 a1 a2 k, LeO (potsherdref12_With.f k a0 a1 a2) (potsherdref12_With.f (k + 1) a0 a1 a2) := by
 intro a0 a1 a2 k; obtain ⟨ih0, ih1⟩ := potsherdref12_With.mono_l k
 unfold potsherdref12_With.f
 repeat' with_reducible first | apply ih0 | apply ih1 | apply potsherdref12_At.mono | apply potsherdref12_MayEntries.mono | apply potsherdref12_Name.mono | exact LeO.refl _ | exact LeO.none _ | refine LeO.ite ?_ ?_ | refine LeO.bind ?_ (fun _ => ?_)
def potsherdref12_With.T10 : Bool × List (List Nat × List Nat) := (true, [([], []), ([], []), ([0, 1], [0, 1]), ([2], [2]), ([], []), ([], []), ([4, 5], [4, 5]), ([6], [6]), ([3, 7, 3], [3, 7]), ([], []), ([], []), ([9, 10], [9, 10]), ([8, 11, 8], [8, 11]), ([12, 12, 0, 1, 2, 3, 4, 5, 6, 7, 8, 9, 10, 11, 12], [12]), ([13, 0, 1, 2, 3, 4, 5, 6, 7, 8, 9, 10, 11, 12, 13], [])])
def potsherdref12_With.B10 : List Nat := [0, 0, 3, 7, 0, 0, 48, 112, 255, 0, 0, 1536, 4095, 8191, 16383]
theorem potsherdref12_With.tab10 : rtab .any (opsOf Try.f88 10) = potsherdref12_With.T10 := by kernel_rfl
theorem potsherdref12_With.bits10 : waitsOk potsherdref12_With.T10.2 potsherdref12_With.B10 = true := by kernel_rfl
set_option maxHeartbeats 8000000 in
set_option maxRecDepth 100000 in
theorem potsherdref12_With.calls (k : Nat) (A0 : Option Addr) (c0 : Nat) (l0 : List (S78)) (a1 : ByteArray) (a2 : Int) (r1 : List (S78)) (r2 : Int) (w : World) (hr0 : Kd.C k78 w A0 l0.length l0) (hc0 : l0.length ≤ c0) (h : potsherdref12_With.f k l0 a1 a2 = some (r1, r2)) :
 Calls Try.prog 88 #[.slice A0 l0.length c0, .string a1, .int .i64 a2] w fun e w' => ∃ v0_ : Value, e = .returned (.tuple #[v0_, .int .i64 r2]) ∧ Kd.R k78 78 w' w.heap.size (fun _ => True) v0_ r1 ∧ Below w.heap.size w w' := by
 have hu78 := Try.underlying78; have HR0 := kA hr0; have HC0 := kA hc0; clear hr0 hc0; have HB := kA (Below.refl w.heap.size w); have H : ((potsherdref12_MayEntries.f k l0).bind fun t395 => (if t395 = true then ((potsherdref12_Name.f k a1).bind fun t396 => (if t396 = true then (if a2 < 1 then (none) else (potsherdref12_With.j0 k l0 a1 a2 (decide (a2 ≥ 12)))) else (none))) else (none))) = some (r1, r2) := h; clear h; have HC4 := kA H; clear H
 go_enter Try.func88, Try.ntmps88
 go_upto_region 1 with (fail)
 go_cut [9] (fun v9 wc => ∃ (kq : Nat) (x9_3 : Bool), v9 = .bool x9_3 ∧ Aside0 (potsherdref12_With.j0 kq l0 a1 a2 x9_3 = some (r1, r2)) ∧ Aside0 (kq ≤ k) ∧ Aside0 (Below w.heap.size w wc))
 case first =>
  have H := HC4.out; clear HC4; replace H := qB H; obtain ⟨t395, A50, H⟩ := H; have A5 := kA A50; clear A50
  by_cases c6 : t395 = true
  ·
   subst c6
   have H1 : ((potsherdref12_Name.f k a1).bind fun t396 => (if t396 = true then (if a2 < 1 then (none) else (potsherdref12_With.j0 k l0 a1 a2 (decide (a2 ≥ 12)))) else (none))) = some (r1, r2) := by rw [if_pos rfl] at H; exact H
   clear H; have H := H1; clear H1; replace H := qB H; obtain ⟨t396, A70, H⟩ := H; have A7 := kA A70; clear A70
   by_cases c8 : t396 = true
   ·
    subst c8
    have H1 : (if a2 < 1 then (none) else (potsherdref12_With.j0 k l0 a1 a2 (decide (a2 ≥ 12)))) = some (r1, r2) := by rw [if_pos rfl] at H; exact H
    clear H; have H := H1; clear H1
    replace H := nQ H; obtain ⟨c9, H⟩ := H; have c9b0 := qF c9; clear c9
    (first | rw [c9b0] | (simp only [i64_w, i32_w]; rw [c9b0]) | skip)
    have H' := kA H; clear H
    go_wp2_with (first | ((with_reducible refine gate_callee (f := 50) rfl ?_); refine goesK (some 11) Try.func50 #[.slice A0 l0.length c0] ?_; (with_reducible refine (potsherdref12_MayEntries.calls k _ _ l0 true _ ?side1 ?side2 A5.out).mono ?_); (case side1 => exact mC HR0 HB); (case side2 => exact HC0.out); rintro e w10 ⟨rfl, hb⟩; refine ⟨_, rfl, ?_⟩; replace HB := kH HB hb; (try clear hb)) | (go_at_call 69; (with_reducible refine (potsherdref12_Name.calls k a1 true _ A7.out).mono ?_); rintro e w' ⟨rfl, ⟨nd, rfl⟩⟩))
    go_meet
    case rel => exact ⟨_, (decide (a2 ≥ 12)), sI, H', ⟨by first | omega | exact Nat.le_refl _⟩, ⟨mH HB⟩⟩
   ·
    replace c8 := Bool.eq_false_iff.mpr c8; subst c8
    have H1 : (none) = some (r1, r2) := by rw [if_neg (show ¬ (false = true) by decide)] at H; exact H
    clear H; have H := H1; clear H1; exact absurd H (by simp)
  ·
   replace c6 := Bool.eq_false_iff.mpr c6; subst c6
   have H1 : (none) = some (r1, r2) := by rw [if_neg (show ¬ (false = true) by decide)] at H; exact H
   clear H; have H := H1; clear H1; exact absurd H (by simp)
 case rest =>
  clear HC4
  obtain ⟨kq, x9_3, rfl, HA, HJ3, HB⟩ := hcut
  cases kq with
  | zero => exact absurd HA.out (by simp [potsherdref12_With.j0])
  | succ kj3 =>
   have H := HA.out; clear HA; simp only [potsherdref12_With.j0] at H
   by_cases c11 : x9_3 = true
   ·
    subst c11
    have H1 : (none) = some (r1, r2) := by rw [if_pos rfl] at H; exact H
    clear H; have H := H1; clear H1; exact absurd H (by simp)
   ·
    replace c11 := Bool.eq_false_iff.mpr c11; subst c11
    have H1 : ((potsherdref12_At.f kj3 l0 a1).bind fun t397 => (if t397 ≥ 0 then (none) else (if (l0.length : Int) ≥ 10 then (none) else (potsherdref12_With.l0 kj3 l0 a1 a2 0)))) = some (r1, r2) := by rw [if_neg (show ¬ (false = true) by decide)] at H; exact H
    clear H; have H := H1; clear H1; replace H := qB H; obtain ⟨t397, A120, H⟩ := H; have A12 := kA A120; clear A120
    replace H := nQ H; obtain ⟨c13, H⟩ := H; have c13b0 : decide (0 ≤ t397) = false := qF c13; clear c13
    replace H := nQ H; obtain ⟨c14, H⟩ := H; have c14b0 : decide (10 ≤ (l0.length : Int)) = false := qF c14; have c14b1 : decide (10 ≤ l0.length) = false := qF (by omega); clear c14; have H' := kA H; clear H
    go_wp2_with (first | ((with_reducible refine gate_callee (f := 86) rfl ?_); refine goesK (some 29) Try.func86 #[.slice A0 l0.length c0, .string a1] ?_; (with_reducible refine (potsherdref12_At.calls kj3 _ _ l0 a1 t397 _ ?side1 ?side2 A12.out).mono ?_); (case side1 => exact mC HR0 HB); (case side2 => exact HC0.out); rintro e w15 ⟨rfl, hb⟩; refine ⟨_, rfl, ?_⟩; replace HB := kH HB hb; (try clear hb)))
    go_loopg [8] kj3 (fun kq v8 w' => ∃ (x8_2 : Int), v8 = .int .i64 x8_2 ∧ Aside0 (potsherdref12_With.l0 kq l0 a1 a2 x8_2 = some (r1, r2)) ∧ Aside0 (kq ≤ kj3) ∧ Aside0 (Below w.heap.size w w'))
    case atStart => exact ⟨(0), sI, H', ⟨Nat.le_refl _⟩, ⟨mH HB⟩⟩
    case round =>
     clear H'
     (try clear c11); (try clear c13); (try clear c13b0); (try clear c14); (try clear c14b0); (try clear c14b1)
     obtain ⟨x8_2, rfl, HA, HK2, HB⟩ := hrel
     cases gk with
     | zero => exact absurd HA.out (by simp [potsherdref12_With.l0])
     | succ k2 =>
      have H := HA.out; clear HA; simp only [potsherdref12_With.l0] at H
      replace H := nQ H; obtain ⟨c16, H⟩ := H; have c16b0 := qF c16; clear c16
      replace H := nP H; obtain ⟨c17, H⟩ := H; have c17b0 := eq_true c17; have c17b1 := qT c17; clear c17
      replace H := nP H; obtain ⟨c18, H⟩ := H; have c18b0 := eq_true c18; have c18b1 := qT c18; clear c18; obtain ⟨y419, hy419⟩ : ∃ y_ : List (S78), y_ = (l0.take (x8_2 : Int).toNat) := ⟨_, rfl⟩
      replace H : (if ([] : List (S78)).length + y419.length < 5864062014805 then ((some (([] : List (S78)) ++ y419 : List (S78))).bind fun y423 => ((some (([(⟨a1, a2⟩ : S78)] : List (S78)) : List (S78))).bind fun y426 => (if y423.length + y426.length < 5864062014805 then ((some (y423 ++ y426 : List (S78))).bind fun y429 => ((some (l0.drop (x8_2 : Int).toNat : List (S78))).bind fun y432 => (if y429.length + y432.length < 5864062014805 then (some ((y429 ++ y432), 0)) else (none)))) else (none)))) else (none)) = some (r1, r2) := rH H hy419
      have Ny419 := kA hy419; clear hy419
      replace H := nP H; obtain ⟨c19, H⟩ := H; have LMc19 := kA c19; clear c19; obtain ⟨y423, hy423⟩ : ∃ y_ : List (S78), y_ = (([] : List (S78)) ++ y419) := ⟨_, rfl⟩
      replace H : ((some (([(⟨a1, a2⟩ : S78)] : List (S78)) : List (S78))).bind fun y426 => (if y423.length + y426.length < 5864062014805 then ((some (y423 ++ y426 : List (S78))).bind fun y429 => ((some (l0.drop (x8_2 : Int).toNat : List (S78))).bind fun y432 => (if y429.length + y432.length < 5864062014805 then (some ((y429 ++ y432), 0)) else (none)))) else (none))) = some (r1, r2) := rH H hy423
      have Ny423 := kA hy423; clear hy423; obtain ⟨y426, hy426⟩ : ∃ y_ : List (S78), y_ = (([(⟨a1, a2⟩ : S78)] : List (S78))) := ⟨_, rfl⟩
      replace H : (if y423.length + y426.length < 5864062014805 then ((some (y423 ++ y426 : List (S78))).bind fun y429 => ((some (l0.drop (x8_2 : Int).toNat : List (S78))).bind fun y432 => (if y429.length + y432.length < 5864062014805 then (some ((y429 ++ y432), 0)) else (none)))) else (none)) = some (r1, r2) := rH H hy426
      have Ny426 := kA hy426; clear hy426
      replace H := nP H; obtain ⟨c20, H⟩ := H; have LMc20 := kA c20; clear c20; obtain ⟨y429, hy429⟩ : ∃ y_ : List (S78), y_ = (y423 ++ y426) := ⟨_, rfl⟩
      replace H : ((some (l0.drop (x8_2 : Int).toNat : List (S78))).bind fun y432 => (if y429.length + y432.length < 5864062014805 then (some ((y429 ++ y432), 0)) else (none))) = some (r1, r2) := rH H hy429
      have Ny429 := kA hy429; clear hy429; have c21b0 := eq_true (dT : 0 ≤ x8_2); have c22b0 := eq_true (dT : x8_2 ≤ (l0.length : Int)); obtain ⟨y432, hy432⟩ : ∃ y_ : List (S78), y_ = (l0.drop (x8_2 : Int).toNat) := ⟨_, rfl⟩
      replace H : (if y429.length + y432.length < 5864062014805 then (some ((y429 ++ y432), 0)) else (none)) = some (r1, r2) := rH H hy432
      have Ny432 := kA hy432; clear hy432
      replace H := nP H; obtain ⟨c23, H⟩ := H; have LMc23 := kA c23; clear c23; obtain ⟨y436, hy436⟩ : ∃ y_ : List (S78), y_ = (y429 ++ y432) := ⟨_, rfl⟩
      replace H : (some (y436, 0)) = some (r1, r2) := rH H hy436
      have Ny436 := kA hy436; clear hy436; simp only [Option.some.injEq, Prod.mk.injEq] at H; obtain ⟨rfl, rfl⟩ := H
      try go_wp2
      replace HB := kA (wD HB.out); have q25 : (x8_2 : Int) ≤ ((l0.length : Int) : Int) := dT; obtain ⟨i025, hi025, _, hsz25, _⟩ := info_parts info78; have hroom25 : l0.length ≤ c0 := HC0.out; have hC25 : Kd.C k78 _ A0 l0.length l0 := HR0.out; have hcut25 := cut_to (P := Try.prog) 26 78 .i64 Try.underlying26 hi025 A0 l0.length c0 x8_2 (dT) q25 hroom25; have hr25 := Kd.C_take (m := (x8_2 : Int).toNat) hC25 (by omega); have hy25 : y419.length = (x8_2 : Int).toNat := (by rw [Ny419.out, List.length_take]; omega)
      rw [← Ny419.out] at hr25; rw [← hy25] at hcut25; have HR422 := kA hr25; have HC422 := kA (show y419.length ≤ c0 from by omega); clear hr25 hC25 hroom25 hi025 hsz25; have KY25 := kA hy25; clear hy25; replace q25 := eq_true q25; have q26 : (x8_2 : Int) ≤ ((l0.length : Int) : Int) := dT; obtain ⟨i026, hi026, _, hsz26, _⟩ := info_parts info78; have hroom26 : l0.length ≤ c0 := HC0.out; have hC26 : Kd.C k78 _ A0 l0.length l0 := HR0.out; have q026 : (0 : Int) ≤ (x8_2 : Int) := dT; have hcut26 := cut_from (P := Try.prog) 26 78 .i64 Try.underlying26 hi026 2 hsz26 A0 l0.length c0 x8_2 q026 q26; have hr26 := Kd.C_drop (m := (x8_2 : Int).toNat) (c := c0) hC26 (by omega) hroom26; obtain ⟨A26, hA26⟩ : ∃ A1, A1 = (if c0 = (x8_2 : Int).toNat then A0 else (A0 : Option Addr).map (·.add ((x8_2 : Int).toNat * 2))) := ⟨_, rfl⟩; obtain ⟨c26, hc26⟩ : ∃ c1, c1 = c0 - (x8_2 : Int).toNat := ⟨_, rfl⟩; have hy26 : y432.length = l0.length - (x8_2 : Int).toNat := (by rw [Ny432.out, List.length_drop] <;> omega); rw [show (l0).drop (x8_2 : Int).toNat = y432 from Ny432.out.symm] at hr26; replace hr26 : Kd.C k78 _ A26 y432.length y432 := (by rw [hA26]; exact hr26)
      rw [← hy26, ← hA26, ← hc26] at hcut26; have HR435 := kA hr26; have HC435 := kA (show y432.length ≤ c26 from by rw [hy26, hc26]; exact Nat.sub_le_sub_right hroom26 _)
      clear hr26 hC26 hroom26 hi026 hsz26 hc26; have KY26 := kA hy26; have KA26 := kA hA26; clear hy26 hA26; replace q26 := eq_true q26; refine start_ (n := 15) (S := fun w' => True) (ds := []) B31_0 (by kernel_rfl) rfl rfl trivial (fun hHeld => ?_); refine with_tabW potsherdref12_With.tab10 potsherdref12_With.bits10 (fun HT_ HW_ => ?_); generalize wr.drew = w24 at HB HR422 HR435 hHeld ⊢; refine pure_ (i := 0) (N := some 50) (v := ?_) (a' := ?_) B31_1 rfl rfl (any_of HT_.out (by kernel_rfl)) (fun _ _ _ h => h) (Or.inl ⟨by rfl, ?_⟩) ?_ ?_; rotate_left
      ·
       intro w'; go_simp; with_reducible rfl
      rotate_left
      ·
       simp only [Act.put, lT, l0_, lS, i64_w, i32_w]; rfl
      refine pE 1 51 B31_2 HT_ ?_
      refine pE 2 52 B31_3 HT_ ?_
      refine pE 4 54 B31_4 HT_ ?_
      refine pE 5 55 B31_5 HT_ ?_
      refine pE 6 56 B31_6 HT_ ?_
      refine pE 9 59 B31_7 HT_ ?_
      refine pE 10 60 B31_8 HT_ ?_
      refine pE 11 61 B31_9 HT_ ?_
      refine join_ (σ := Value × Value) 4 B31_10 (fun s_ => [(53, s_.1), (57, s_.2)]) (fun s_ w' => (Kd.R k78 78 w' w.heap.size (fun k_ => some k_ ≠ (s_.2 : Value).ownBlock) s_.1 y423) ∧ (Kd.R k78 78 w' w.heap.size (fun k_ => some k_ ≠ (s_.1 : Value).ownBlock) s_.2 y426) ∧ (Below w.heap.size w w')) ?_ ?_; rotate_left
      ·
       intro hCont; refine two_ (i := 3) (j := 7) (Ni := some 53) (Nj := some 57) B31_11 B31_12 rfl rfl rfl rfl (two_of HT_.out (by kernel_rfl)) (by decide) (by decide) (fun K hK => ?_) (fun K hK => ?_)
       ·
        skip
        refine Kd.R_append_rows_step k78 (w0 := w) w.heap.size rfl (.const (.slice none 0 0)) (.tmp 52) 26 78 (.agg #[(.string ⟨#[]⟩), (.int .i64 0)]) 24 rfl Try.underlying26 info78 rfl (by decide) (by omega) (.slice none 0 0) ([] : List (S78)) y419 _ _ _ (fun _ => True) (fun _ => False) rfl rfl ?aO ?aR (fun _ _ h => h) (fun _ h => h.elim) ?aF ?aB ?aS ?aL ?_
        (case aR => repeat (first | exact (Kd.C_below HR422.out HB.out) | (with_reducible refine Kd.C_alloc ?_ _) | (with_reducible refine Kd.C_drewN ?_ _) | (with_reducible refine Kd.C_drew ?_)))
        (case aB => exact (mH HB))
        (case aF => exact (fun _ _ => trivial))
        (case aO => exact ((Kd.R_nil _ _ _ _ (fun _ => True))))
        (case aS => exact (below_size (mH HB)))
        (case aL => have := LMc19.out; omega)
        intro v424 w27 ho hb hg hat; rw [← Ny423.out] at ho; replace HB := kA (hb); have HO425 := kA (ho); clear ho hb hg hat; refine hK.out _ _ trivial (fun hHeld => ?_); clear hK K; refine norm_ (a' := ?_) ?_ ?_; rotate_left
        ·
         show Act.put _ (some 53) _ = _
         simp only [Act.put, lT, l0_, lS, i64_w, i32_w]; rfl
        refine one_ (i := 7) (N := some 57) B31_10 rfl rfl (one_of HT_.out (by kernel_rfl)) (by decide) (fun K hK => ?_); refine Kd.R_lit_step k78 _ 78 ?hg (N := 57) ?hd (xs := ([(⟨a1, a2⟩ : S78)] : List (S78))) (inner := [.string a1, .int .i64 a2]) (ok := fun _ => True) (okp := fun _ => True) ?hr ?hp (fun _ hk => hk) trivial (Below.refl _ _) (Nat.le_refl _) (by simp) ?_; (case hd => rfl); (case hg => rfl); (case hr => first | (go_simp; done) | (go_simp; rfl)); (case hp => exact (Reps.c2 (show Kd.M k78 _ _ _ (⟨a1, a2⟩ : S78) [.string a1, .int .i64 a2] from (k78_mkM _ _ _ (⟨a1, a2⟩ : S78) )) (Reps.none _ _)))
        intro v427 w28 ho29 hb hg_ hnew_; clear hg_ hnew_
        (first | rw [← Ny426.out] at ho29 | (simp only [Int.reduceToNat] at ho29; rw [← Ny426.out] at ho29))
        have HO428 := kA (Kd.R_lower (Kd.R_new' ho29 (Kd.R_lt (mR HO425))) (below_size (mH HB))); replace HO425 := kA (Kd.R_elder' (mR HO425) (Kd.R_base ho29) hb); replace HB := kH HB hb; clear hb ho29; refine hK.out _ _ trivial (fun hHeld => ?_); clear hK K; refine norm_ (a' := ?_) ?_ ?_; rotate_left
        ·
         show Act.put _ (some 57) _ = _
         simp only [Act.put, lT, l0_, lS, i64_w, i32_w]; rfl
        exact norm_ (by simp only [putAll, Act.put, lT, l0_, lS]) (hCont (v424, v427) _ ⟨(by (with_reducible repeat (first | apply Kd.R_alloc | apply Kd.R_drewN | apply Kd.R_drew)); exact Kd.R_mono HO425.out (fun _ hk => hk.2)), (by (with_reducible repeat (first | apply Kd.R_alloc | apply Kd.R_drewN | apply Kd.R_drew)); exact Kd.R_mono HO428.out (fun _ hk => hk.2)), (mH HB)⟩)
       ·
        skip
        refine Kd.R_lit_step k78 _ 78 ?hg (N := 57) ?hd (xs := ([(⟨a1, a2⟩ : S78)] : List (S78))) (inner := [.string a1, .int .i64 a2]) (ok := fun _ => True) (okp := fun _ => True) ?hr ?hp (fun _ hk => hk) trivial (Below.refl _ _) (Nat.le_refl _) (by simp) ?_; (case hd => rfl); (case hg => rfl); (case hr => first | (go_simp; done) | (go_simp; rfl)); (case hp => exact (Reps.c2 (show Kd.M k78 _ _ _ (⟨a1, a2⟩ : S78) [.string a1, .int .i64 a2] from (k78_mkM _ _ _ (⟨a1, a2⟩ : S78) )) (Reps.none _ _)))
        intro v427 w27 ho28 hb hg_ hnew_; clear hg_ hnew_
        (first | rw [← Ny426.out] at ho28 | (simp only [Int.reduceToNat] at ho28; rw [← Ny426.out] at ho28))
        have HO428 := kA (Kd.R_lower ho28 (below_size (mH HB))); replace HB := kH HB hb; clear hb ho28; refine hK.out _ _ trivial (fun hHeld => ?_); clear hK K; refine norm_ (a' := ?_) ?_ ?_; rotate_left
        ·
         show Act.put _ (some 57) _ = _
         simp only [Act.put, lT, l0_, lS, i64_w, i32_w]; rfl
        refine one_ (i := 3) (N := some 53) B31_10 rfl rfl (one_of HT_.out (by kernel_rfl)) (by decide) (fun K hK => ?_); refine Kd.R_append_rows_step k78 (w0 := w) w.heap.size rfl (.const (.slice none 0 0)) (.tmp 52) 26 78 (.agg #[(.string ⟨#[]⟩), (.int .i64 0)]) 24 rfl Try.underlying26 info78 rfl (by decide) (by omega) (.slice none 0 0) ([] : List (S78)) y419 _ _ _ (fun k_ => some k_ ≠ (v427 : Value).ownBlock) (fun _ => False) rfl rfl ?aO ?aR (fun _ _ h => h) (fun _ h => h.elim) ?aF ?aB ?aS ?aL ?_
        (case aR => repeat (first | exact (Kd.C_below HR422.out HB.out) | (with_reducible refine Kd.C_alloc ?_ _) | (with_reducible refine Kd.C_drewN ?_ _) | (with_reducible refine Kd.C_drew ?_)))
        (case aB => exact (mH HB))
        (case aF => exact (fun k_ hk => Kd.fresh' (Kd.R_lt (mR HO428)) k_ hk))
        (case aO => exact ((Kd.R_nil _ _ _ _ (fun k_ => some k_ ≠ (v427 : Value).ownBlock))))
        (case aS => exact (below_size (mH HB)))
        (case aL => have := LMc19.out; omega)
        intro v424 w29 ho hb hg hat; rw [← Ny423.out] at ho; replace HO428 := kA (Kd.R_after (Kd.R_apart_nil (mR HO428)) hg hat); replace HB := kA (hb); have HO425 := kA (ho); clear ho hb hg hat; refine hK.out _ _ trivial (fun hHeld => ?_); clear hK K; refine norm_ (a' := ?_) ?_ ?_; rotate_left
        ·
         show Act.put _ (some 53) _ = _
         simp only [Act.put, lT, l0_, lS, i64_w, i32_w]; rfl
        exact norm_ (by simp only [putAll, Act.put, lT, l0_, lS]) (hCont (v424, v427) _ ⟨(mR HO425), (by (with_reducible repeat (first | apply Kd.R_alloc | apply Kd.R_drewN | apply Kd.R_drew)); exact Kd.R_mono HO428.out (fun _ hk => hk.2)), (mH HB)⟩)
      rintro ⟨v424, v427⟩ w30 ⟨h0_, h1_, h2_⟩; have n0_ : Aside0 (Kd.R k78 78 w30 w.heap.size (fun k_ => some k_ ≠ (v427 : Value).ownBlock) v424 y423) := ⟨h0_⟩; have n1_ : Aside0 (Kd.R k78 78 w30 w.heap.size (fun k_ => some k_ ≠ (v424 : Value).ownBlock) v427 y426) := ⟨h1_⟩; have n2_ : Aside0 (Below w.heap.size w w30) := ⟨h2_⟩; clear HB; clear h0_ h1_ h2_; have HO425 := n0_; have HO428 := n1_; have HB := n2_; clear n0_ n1_ n2_; have hHeld := trivial; obtain ⟨Ao32, co32, eo32⟩ := Kd.R_slice HO428.out
      (first | subst eo32 | (injection eo32 with f1_ f2_ f3_; have f4_ := f1_.symm; have f5_ := f3_.symm; clear f1_ f2_ f3_; subst f4_; subst f5_))
      refine norm_ (a' := ?_) ?_ ?_; rotate_left
      ·
       simp only [putAll, Act.put, lT, l0_, lS]; rfl
      refine one_ (i := 8) (N := some 58) B31_13 rfl rfl (one_of HT_.out (by kernel_rfl)) (by decide) (fun K hK => ?_); refine Kd.R_append_rows_step k78 (w0 := w) w.heap.size (by rfl) (.tmp 53) (.tmp 57) 26 78 (.agg #[(.string ⟨#[]⟩), (.int .i64 0)]) 24 rfl Try.underlying26 info78 rfl (by decide) (by omega) v424 y423 y426 _ _ _ (fun k_ => some k_ ≠ (.slice Ao32 y426.length co32 : Value).ownBlock) (fun _ => False) rfl rfl ?aO ?aR (fun _ _ h => h) (fun _ h => h.elim) ?aF ?aB ?aS ?aL ?_
      (case aR => repeat (first | exact (Kd.R_reads' HO428.out).2.2 | (with_reducible refine Kd.C_alloc ?_ _) | (with_reducible refine Kd.C_drewN ?_ _) | (with_reducible refine Kd.C_drew ?_)))
      (case aB => exact (mH HB))
      (case aF => exact (fun k_ hk => Kd.fresh' (Kd.R_lt (mR HO428)) k_ hk))
      (case aO => exact (mR HO425))
      (case aS => exact (below_size (mH HB)))
      (case aL => have := LMc20.out; omega)
      intro v430 w31 ho hb hg hat; rw [← Ny429.out] at ho; replace HO428 := kA (Kd.R_after (ok := (fun _ => True)) (by (with_reducible repeat (first | apply Kd.R_alloc | apply Kd.R_drewN | apply Kd.R_drew)); exact Kd.R_mono HO428.out (fun _ hk => ⟨trivial, hk⟩)) hg hat); replace HB := kA (hb); have HO431 := kA (ho); clear HO425; clear ho hb hg hat; refine hK.out _ _ trivial (fun hHeld => ?_); clear hK K; refine norm_ (a' := ?_) ?_ ?_; rotate_left
      ·
       show Act.put _ (some 58) _ = _
       simp only [Act.put, lT, l0_, lS, i64_w, i32_w]; rfl
      refine one_ (i := 12) (N := some 62) B31_14 rfl rfl (one_of HT_.out (by kernel_rfl)) (by decide) (fun K hK => ?_); refine Kd.R_append_rows_step k78 (w0 := w) w.heap.size (by rfl) (.tmp 58) (.tmp 61) 26 78 (.agg #[(.string ⟨#[]⟩), (.int .i64 0)]) 24 rfl Try.underlying26 info78 rfl (by decide) (by omega) v430 y429 y432 _ _ _ (fun k_ => some k_ ≠ (.slice Ao32 y426.length co32 : Value).ownBlock) (fun _ => False) rfl rfl ?aO ?aR (fun _ _ h => h) (fun _ h => h.elim) ?aF ?aB ?aS ?aL ?_
      (case aR => repeat (first | exact (Kd.C_below HR435.out HB.out) | (with_reducible refine Kd.C_alloc ?_ _) | (with_reducible refine Kd.C_drewN ?_ _) | (with_reducible refine Kd.C_drew ?_)))
      (case aB => exact (mH HB))
      (case aF => exact (fun k_ hk => Kd.fresh' (Kd.R_lt (mR HO428)) k_ hk))
      (case aO => exact (mR HO431))
      (case aS => exact (below_size (mH HB)))
      (case aL => have := LMc23.out; omega)
      intro v437 w33 ho hb hg hat; rw [← Ny436.out] at ho; replace HO428 := kA (Kd.R_after (ok := (fun _ => True)) (mR HO428) hg hat); replace HB := kA (hb); have HO438 := kA (ho); clear HO431; clear ho hb hg hat; refine hK.out _ _ trivial (fun hHeld => ?_); clear hK K; refine norm_ (a' := ?_) ?_ ?_; rotate_left
      ·
       show Act.put _ (some 62) _ = _
       simp only [Act.put, lT, l0_, lS, i64_w, i32_w]; rfl
      refine pE 13 6 B31_15 HT_ ?_
      refine pE 14 7 B31_16 HT_ ?_
      refine done_ (done_of HT_.out (by kernel_rfl)) ?_
      try go_wp2
      go_ret2
      exact ⟨_, rT, by (with_reducible repeat (first | apply Kd.R_alloc | apply Kd.R_drewN | apply Kd.R_drew)); exact Kd.R_mono HO438.out (fun _ hk => trivial), mH HB⟩
abbrev B32_0 : Array Bool := #[false, false, false, false, false, false, false]
abbrev B32_1 := B32_0.set! 0 true
abbrev B32_2 := B32_1.set! 2 true
abbrev B32_3 := B32_2.set! 3 true
abbrev B32_4 := B32_3.set! 1 true
abbrev B32_5 := B32_4.set! 4 true
abbrev B32_6 := B32_5.set! 5 true
abbrev B32_7 := B32_6.set! 6 true
abbrev B32_8 : Array Bool := #[false, false, false, false, false, false, false, false, false, false, false, false, false, false, false, false, false, false]
abbrev B32_9 := B32_8.set! 0 true
abbrev B32_10 := B32_9.set! 2 true
abbrev B32_11 := B32_10.set! 3 true
abbrev B32_12 := B32_11.set! 5 true
abbrev B32_13 := B32_12.set! 9 true
abbrev B32_14 := B32_13.set! 10 true
abbrev B32_15 := B32_14.set! 1 true
abbrev B32_16 := B32_15.set! 4 true
abbrev B32_17 := B32_16.set! 6 true
abbrev B32_18 := B32_17.set! 7 true
abbrev B32_19 := B32_18.set! 8 true
abbrev B32_20 := B32_19.set! 11 true
abbrev B32_21 := B32_20.set! 12 true
abbrev B32_22 := B32_21.set! 13 true
abbrev B32_23 := B32_22.set! 14 true
abbrev B32_24 := B32_23.set! 15 true
abbrev B32_25 := B32_24.set! 16 true
abbrev B32_26 := B32_25.set! 17 true
def potsherdref12_make1.j0 : Nat → Int → Int → ByteArray → Int → Bool → List (S28) → Option ((List (S28)) × Int)
 | 0, _, _, _, _, _, _ => none
 | k + 1, x2, x8, x9, x11, x47, x440000 => if x47 = true then (none) else ((potsherdref12_CopyTree.f k x440000).bind fun t448 => ((potsherdref12_EmptyNode.f x2).bind fun bt452 => (if 0 ≤ x11 then (if x11 < (t448.length : Int) then ((some (t448.set (x11 : Int).toNat (⟨bt452.1, bt452.2.1, bt452.2.2.1, bt452.2.2.2.1, bt452.2.2.2.2⟩ : S28) : List (S28))).bind fun y461 => (if 0 ≤ x8 then (if x8 < (x440000.length : Int) then ((potsherdref12_With.f k ((rU x440000 x8).f4) x9 x11).bind fun bt463 => (if x8 < (t448.length : Int) then (some ((y461.set (x8 : Int).toNat (⟨(rU y461 x8).f0, (rU y461 x8).f1, (rU y461 x8).f2, (rU y461 x8).f3, bt463.1⟩ : S28)), 0)) else (none))) else (none)) else (none))) else (none)) else (none))))
def potsherdref12_make1.f (k : Nat) (l0_0 : List (S28)) (a1 : ByteArray) (a2 : Int) : Option ((List (S28)) × Int) := (potsherdref12_Parent.f k l0_0 a1).bind fun bt441 => (if bt441.2.2 = 0 then (if 0 ≤ bt441.1 then (if bt441.1 < (l0_0.length : Int) then ((potsherdref12_At.f k ((rU l0_0 bt441.1).f4) bt441.2.1).bind fun t445 => (if t445 ≥ 0 then (none) else ((potsherdref12_Free.f k l0_0).bind fun t446 => (if t446 < 0 then (none) else (potsherdref12_make1.j0 k a2 bt441.1 bt441.2.1 t446 (decide ((((rU l0_0 bt441.1).f4).length : Int) ≥ 10)) l0_0))))) else (none)) else (none)) else (none))
theorem potsherdref12_make1.mono_l : ∀ k, (∀ y0 y1 y2 y3 y4 y5, LeO (potsherdref12_make1.j0 k y0 y1 y2 y3 y4 y5) (potsherdref12_make1.j0 (k + 1) y0 y1 y2 y3 y4 y5))
 | 0 => fun _ _ _ _ _ _ r h => by simp [potsherdref12_make1.j0] at h
 | k + 1 => by
  have ih0 := potsherdref12_make1.mono_l k
  ·
   intro y0 y1 y2 y3 y4 y5
   unfold potsherdref12_make1.j0
   repeat' with_reducible first | apply ih0 | apply potsherdref12_At.mono | apply potsherdref12_CopyTree.mono | apply potsherdref12_Free.mono | apply potsherdref12_Parent.mono | apply potsherdref12_With.mono | exact LeO.refl _ | exact LeO.none _ | refine LeO.ite ?_ ?_ | refine LeO.bind ?_ (fun _ => ?_)
theorem potsherdref12_make1.mono : ∀ a0 a1 a2 k, LeO (potsherdref12_make1.f k a0 a1 a2) (potsherdref12_make1.f (k + 1) a0 a1 a2) := by
 intro a0 a1 a2 k; have ih0 := potsherdref12_make1.mono_l k
 unfold potsherdref12_make1.f
 repeat' with_reducible first | apply ih0 | apply potsherdref12_At.mono | apply potsherdref12_CopyTree.mono | apply potsherdref12_Free.mono | apply potsherdref12_Parent.mono | apply potsherdref12_With.mono | exact LeO.refl _ | exact LeO.none _ | refine LeO.ite ?_ ?_ | refine LeO.bind ?_ (fun _ => ?_)
def potsherdref12_make1.T11 : Bool × List (List Nat × List Nat) := (true, [([], []), ([0], [0]), ([], []), ([], []), ([3], [3]), ([], []), ([4, 5], [4, 5]), ([6], [6]), ([7], [7]), ([], []), ([], []), ([8, 9, 10], [8, 9, 10]), ([11], [11]), ([12], [12]), ([12], [12]), ([1, 2, 0, 1, 2, 3, 4, 5, 6, 7, 8, 9, 10, 11, 12, 13], [1, 2]), ([15, 0, 1, 2, 3, 4, 5, 6, 7, 8, 9, 10, 11, 12, 13], [15]), ([16, 13, 11, 0, 1, 2, 3, 4, 5, 6, 7, 8, 9, 10, 11, 12, 13], [13, 16])])
def potsherdref12_make1.B11 : List Nat := [0, 1, 0, 0, 8, 0, 56, 120, 248, 0, 0, 2040, 4088, 8184, 8184, 16383, 49151, 114687]
theorem potsherdref12_make1.tab11 : rtab .any (opsOf Try.f79 11) = potsherdref12_make1.T11 := by kernel_rfl
theorem potsherdref12_make1.bits11 : waitsOk potsherdref12_make1.T11.2 potsherdref12_make1.B11 = true := by kernel_rfl
set_option maxHeartbeats 8000000 in
set_option maxRecDepth 100000 in
theorem potsherdref12_make1.calls (k : Nat) (A0_0 : Option Addr) (c0_0 : Nat) (l0_0 : List (S28)) (a1 : ByteArray) (a2 : Int) (r1 : List (S28)) (r2 : Int) (w : World) (hr0_0 : Kd.C k28 w A0_0 l0_0.length l0_0) (hc0_0 : l0_0.length ≤ c0_0) (h : potsherdref12_make1.f k l0_0 a1 a2 = some (r1, r2)) :
 Calls Try.prog 79 #[.agg #[.slice A0_0 l0_0.length c0_0], .string a1, .int .i64 a2] w fun e w' => ∃ v0_ : Value, e = .returned (.tuple #[.agg #[v0_], .int .i64 r2]) ∧ Kd.N k28 28 w' w.heap.size (fun k_ => (w.heap.size ≤ k_)) v0_ r1 ∧ Below w.heap.size w w' := by
 have hu24 := Try.underlying24; have hu28 := Try.underlying28; have HR0_0 := kA hr0_0; have HC0_0 := kA hc0_0; clear hr0_0 hc0_0; have HB := kA (Below.refl w.heap.size w); have H : ((potsherdref12_Parent.f k l0_0 a1).bind fun bt441 => (if bt441.2.2 = 0 then (if 0 ≤ bt441.1 then (if bt441.1 < (l0_0.length : Int) then ((potsherdref12_At.f k ((rU l0_0 bt441.1).f4) bt441.2.1).bind fun t445 => (if t445 ≥ 0 then (none) else ((potsherdref12_Free.f k l0_0).bind fun t446 => (if t446 < 0 then (none) else (potsherdref12_make1.j0 k a2 bt441.1 bt441.2.1 t446 (decide ((((rU l0_0 bt441.1).f4).length : Int) ≥ 10)) l0_0))))) else (none)) else (none)) else (none))) = some (r1, r2) := h; clear h; replace H := qB H; obtain ⟨⟨t441, t442, t443⟩, A40, H⟩ := H; replace H : (if t443 = 0 then (if 0 ≤ t441 then (if t441 < (l0_0.length : Int) then ((potsherdref12_At.f k ((rU l0_0 t441).f4) t442).bind fun t445 => (if t445 ≥ 0 then (none) else ((potsherdref12_Free.f k l0_0).bind fun t446 => (if t446 < 0 then (none) else (potsherdref12_make1.j0 k a2 t441 t442 t446 (decide ((((rU l0_0 t441).f4).length : Int) ≥ 10)) l0_0))))) else (none)) else (none)) else (none)) = some (r1, r2) := H; have A4 := kA A40; clear A40
 replace H := nP H; obtain ⟨c5, H⟩ := H; obtain ⟨c5b0, c5b1⟩ := eP c5; clear c5
 replace H := nP H; obtain ⟨c6, H⟩ := H; have c6b0 := qT c6; clear c6
 replace H := nP H; obtain ⟨c7, H⟩ := H; have c7b0 := qT c7; clear c7; replace H := qB H; obtain ⟨t445, A80, H⟩ := H; have A8 := kA A80; clear A80
 replace H := nQ H; obtain ⟨c9, H⟩ := H; have c9b0 : decide (0 ≤ t445) = false := qF c9; clear c9; replace H := qB H; obtain ⟨t446, A100, H⟩ := H; have A10 := kA A100; clear A100; have HC11 := kA H; clear H
 go_enter Try.func79, Try.ntmps79
 go_upto_region 7 with (first | ((with_reducible refine gate_dst (N := 3) rfl ?_); (try (refine gate_guard (by rfl) ?_; dsimp only)); refine bxE 24 (cs := #[.slice A0_0 l0_0.length c0_0]) ?_; intro gb439 hg w12 hbox hb; have BK439 := kA hbox; have GW439 := kG HB hg; have GE439 := kG HB hg; replace HB := kH HB hb; clear hb hbox hg) | ((with_reducible refine gate_dst (N := 6) rfl ?_); (try (refine gate_guard (by rfl) ?_; dsimp only)); refine bxE 24 (cs := #[.slice none 0 0]) ?_; intro gb440 hg w13 hbox hb; have BK440 := kA hbox; have GW440 := kG HB hg; have GE440 := kG HB hg; replace HB := kH HB hb; have NB439_440 := kL BK439 hg; have NB440_439 := kQ BK439 hg; replace BK439 := kB BK439 hb; clear hb hbox hg; have hnb14 := NB439_440.out; have hnc14 := NB440_439.out; obtain ⟨hcz15_0, hfz15_0⟩ := cY0 BK439) | ((with_reducible refine gate_callee (f := 85) rfl ?_); refine goesK (some 16) Try.func85 #[.agg #[.slice A0_0 l0_0.length c0_0], .string a1] ?_; (with_reducible refine (potsherdref12_Parent.calls k _ _ l0_0 a1 t441 t442 t443 _ ?side1 ?side2 A4.out).mono ?_); (case side1 => exact mC HR0_0 HB); (case side2 => exact HC0_0.out); rintro e w16 ⟨rfl, hb⟩; refine ⟨_, rfl, ?_⟩; replace BK439 := kB BK439 hb; replace BK440 := kB BK440 hb; replace HB := kH HB hb; (try clear hb); obtain ⟨hcz17_0, hfz17_0⟩ := cY0 BK439; have p444 : 0 ≤ (t441 : Int) := dT; have q444 : t441 < (l0_0.length : Int) := dT; obtain ⟨ad444, A444_3, c444_3, A444_4, c444_4, e444, hx444_0, hx444_1, hx444_2, hx444_3, hx444_4, hl444_3, hi444_3, hl444_4, hi444_4⟩ := at_T28 HR0_0.out t441 p444 q444; cases e444; replace hx444_0 := xC HB hx444_0; replace hx444_1 := xC HB hx444_1; replace hx444_2 := xC HB hx444_2; replace hx444_3 := xC HB hx444_3; replace hx444_4 := xC HB hx444_4; have HR444_3 := kA hi444_3; have HC444_3 := kA hl444_3; clear hi444_3 hl444_3; have HR444_4 := kA hi444_4; have HC444_4 := kA hl444_4; clear hi444_4 hl444_4; replace p444 := eq_true p444; replace q444 := eq_true q444) | ((with_reducible refine gate_callee (f := 86) rfl ?_); refine goesK (some 31) Try.func86 #[.slice A444_4 ((rU l0_0 t441).f4).length c444_4, .string t442] ?_; (with_reducible refine (potsherdref12_At.calls k _ _ ((rU l0_0 t441).f4) t442 t445 _ ?side1 ?side2 A8.out).mono ?_); (case side1 => exact mC HR444_4 HB); (case side2 => exact HC444_4.out); rintro e w18 ⟨rfl, hb⟩; refine ⟨_, rfl, ?_⟩; replace BK439 := kB BK439 hb; replace BK440 := kB BK440 hb; replace HB := kH HB hb; (try clear hb); obtain ⟨hcz19_0, hfz19_0⟩ := cY0 BK439) | ((with_reducible refine gate_callee (f := 87) rfl ?_); refine goesK (some 35) Try.func87 #[.agg #[.slice (some ad444) l0_0.length c0_0]] ?_; (with_reducible refine (potsherdref12_Free.calls k _ _ l0_0 t446 _ ?side1 ?side2 A10.out).mono ?_); (case side1 => exact mC HR0_0 HB); (case side2 => exact HC0_0.out); rintro e w20 ⟨rfl, hb⟩; refine ⟨_, rfl, ?_⟩; replace BK439 := kB BK439 hb; replace BK440 := kB BK440 hb; replace HB := kH HB hb; (try clear hb)))
 (try simp only [Act.put, lT, l0_, lS])
 go_cut [47] (fun v47 wc => ∃ (kq : Nat) (x47_10 : Bool), v47 = .bool x47_10 ∧ Aside0 (potsherdref12_make1.j0 kq a2 t441 t442 t446 x47_10 l0_0 = some (r1, r2)) ∧ Aside0 (kq ≤ k) ∧ Aside0 (wc.heap[gb439]? = some (.cells #[(.slice (some ad444) l0_0.length c0_0)] 24 (0, 0))) ∧ Aside0 (wc.heap[gb440]? = some (.cells #[(.slice none 0 0)] 24 (0, 0))) ∧ Aside0 (Below w.heap.size w wc))
 case first =>
  have H := HC11.out; clear HC11
  replace H := nQ H; obtain ⟨c21, H⟩ := H; have c21b0 := qF c21; clear c21
  (first | rw [c21b0] | (simp only [i64_w, i32_w]; rw [c21b0]) | skip)
  have H' := kA H; clear H; have hnb22 := NB439_440.out; have hnc22 := NB440_439.out; obtain ⟨hcz23_0, hfz23_0⟩ := cY0 BK439; have p447 : 0 ≤ (t441 : Int) := dT; have q447 : t441 < (l0_0.length : Int) := dT; obtain ⟨ad447, A447_3, c447_3, A447_4, c447_4, e447, hx447_0, hx447_1, hx447_2, hx447_3, hx447_4, hl447_3, hi447_3, hl447_4, hi447_4⟩ := at_T28 HR0_0.out t441 p447 q447; obtain rfl : ad444 = ad447 := (by injection e447); replace hx447_0 := xC HB hx447_0; replace hx447_1 := xC HB hx447_1; replace hx447_2 := xC HB hx447_2; replace hx447_3 := xC HB hx447_3; replace hx447_4 := xC HB hx447_4; have HR447_3 := kA hi447_3; have HC447_3 := kA hl447_3; clear hi447_3 hl447_3; have HR447_4 := kA hi447_4; have HC447_4 := kA hl447_4; clear hi447_4 hl447_4; replace p447 := eq_true p447; replace q447 := eq_true q447
  go_wp2
  go_meet
  case rel => exact ⟨_, (decide ((((rU l0_0 t441).f4).length : Int) ≥ 10)), sI, H', ⟨by first | omega | exact Nat.le_refl _⟩, ⟨mB BK439⟩, ⟨mB BK440⟩, ⟨mH HB⟩⟩
 case rest =>
  clear HC11
  (try clear c5); (try clear c5b0); (try clear c5b1); (try clear c6); (try clear c6b0); (try clear c7); (try clear c7b0); (try clear c9); (try clear c9b0); (try clear hcz15_0); (try clear hcz17_0); (try clear hcz19_0); (try clear hfz15_0); (try clear hfz17_0); (try clear hfz19_0); (try clear hx444_0); (try clear hx444_1); (try clear hx444_2); (try clear hx444_3); (try clear hx444_4); (try clear p444); (try clear q444)
  obtain ⟨kq, x47_10, rfl, HA, HJ10, BK439, BK440, HB⟩ := hcut
  cases kq with
  | zero => exact absurd HA.out (by simp [potsherdref12_make1.j0])
  | succ kj10 =>
   have H := HA.out; clear HA; simp only [potsherdref12_make1.j0] at H
   by_cases c24 : x47_10 = true
   ·
    subst c24
    have H1 : (none) = some (r1, r2) := by rw [if_pos rfl] at H; exact H
    clear H; have H := H1; clear H1; exact absurd H (by simp)
   ·
    replace c24 := Bool.eq_false_iff.mpr c24; subst c24
    have H1 : ((potsherdref12_CopyTree.f kj10 l0_0).bind fun t448 => ((potsherdref12_EmptyNode.f a2).bind fun bt452 => (if 0 ≤ t446 then (if t446 < (t448.length : Int) then ((some (t448.set (t446 : Int).toNat (⟨bt452.1, bt452.2.1, bt452.2.2.1, bt452.2.2.2.1, bt452.2.2.2.2⟩ : S28) : List (S28))).bind fun y461 => (if 0 ≤ t441 then (if t441 < (l0_0.length : Int) then ((potsherdref12_With.f kj10 ((rU l0_0 t441).f4) t442 t446).bind fun bt463 => (if t441 < (t448.length : Int) then (some ((y461.set (t441 : Int).toNat (⟨(rU y461 t441).f0, (rU y461 t441).f1, (rU y461 t441).f2, (rU y461 t441).f3, bt463.1⟩ : S28)), 0)) else (none))) else (none)) else (none))) else (none)) else (none)))) = some (r1, r2) := by rw [if_neg (show ¬ (false = true) by decide)] at H; exact H
    clear H; have H := H1; clear H1; replace H := qB H; obtain ⟨t448, A250, H⟩ := H; have A25 := kA A250; clear A250; replace H := qB H; obtain ⟨⟨t452, t453, t454, t455, t458⟩, A260, H⟩ := H; replace H : (if 0 ≤ t446 then (if t446 < (t448.length : Int) then ((some (t448.set (t446 : Int).toNat (⟨t452, t453, t454, t455, t458⟩ : S28) : List (S28))).bind fun y461 => (if 0 ≤ t441 then (if t441 < (l0_0.length : Int) then ((potsherdref12_With.f kj10 ((rU l0_0 t441).f4) t442 t446).bind fun bt463 => (if t441 < (t448.length : Int) then (some ((y461.set (t441 : Int).toNat (⟨(rU y461 t441).f0, (rU y461 t441).f1, (rU y461 t441).f2, (rU y461 t441).f3, bt463.1⟩ : S28)), 0)) else (none))) else (none)) else (none))) else (none)) else (none)) = some (r1, r2) := H; have A26 := kA A260; clear A260
    replace H := nP H; obtain ⟨c27, H⟩ := H; have c27b0 := qT c27; clear c27
    replace H := nP H; obtain ⟨c28, H⟩ := H; have c28b0 := qT c28; clear c28; obtain ⟨y461, hy461⟩ : ∃ y_ : List (S28), y_ = (t448.set (t446 : Int).toNat (⟨t452, t453, t454, t455, t458⟩ : S28)) := ⟨_, rfl⟩
    replace H : (if 0 ≤ t441 then (if t441 < (l0_0.length : Int) then ((potsherdref12_With.f kj10 ((rU l0_0 t441).f4) t442 t446).bind fun bt463 => (if t441 < (t448.length : Int) then (some ((y461.set (t441 : Int).toNat (⟨(rU y461 t441).f0, (rU y461 t441).f1, (rU y461 t441).f2, (rU y461 t441).f3, bt463.1⟩ : S28)), 0)) else (none))) else (none)) else (none)) = some (r1, r2) := rH H hy461
    have Ny461 := kA hy461; clear hy461
    replace H := nP H; obtain ⟨c30, H⟩ := H; have c30b0 := qT c30; clear c30
    replace H := nP H; obtain ⟨c31, H⟩ := H; have c31b0 := qT c31; clear c31; replace H := qB H; obtain ⟨⟨t463, t464⟩, A320, H⟩ := H; replace H : (if t441 < (t448.length : Int) then (some ((y461.set (t441 : Int).toNat (⟨(rU y461 t441).f0, (rU y461 t441).f1, (rU y461 t441).f2, (rU y461 t441).f3, t463⟩ : S28)), 0)) else (none)) = some (r1, r2) := H; have A32 := kA A320; clear A320
    replace H := nP H; obtain ⟨c33, H⟩ := H; have c33b0 := qT c33; clear c33; obtain ⟨y467, hy467⟩ : ∃ y_ : List (S28), y_ = (y461.set (t441 : Int).toNat (⟨(rU y461 t441).f0, (rU y461 t441).f1, (rU y461 t441).f2, (rU y461 t441).f3, t463⟩ : S28)) := ⟨_, rfl⟩
    replace H : (some (y467, 0)) = some (r1, r2) := rH H hy467
    have Ny467 := kA hy467; clear hy467; simp only [Option.some.injEq, Prod.mk.injEq] at H; obtain ⟨rfl, rfl⟩ := H; have hnb35 := NB439_440.out; have hnc35 := NB440_439.out; obtain ⟨hcz36_0, hfz36_0⟩ := cY0 BK439
    try go_wp2_with (first | ((with_reducible refine gate_callee (f := 32) rfl ?_); refine goesK (some 50) Try.func32 #[.agg #[.slice (some ad444) l0_0.length c0_0]] ?_; (with_reducible refine (potsherdref12_CopyTree.calls kj10 _ _ l0_0 t448 _ ?side1 ?side2 A25.out).mono ?_); (case side1 => exact mC HR0_0 HB); (case side2 => exact HC0_0.out); rintro e w37 ⟨v449, rfl, ho0, hb⟩; refine ⟨_, rfl, ?_⟩; have HO450 := kA (Kd.N_lower (Kd.N_mono (ok' := fun k_ => (w.heap.size ≤ k_) ∧ k_ ≠ gb439 ∧ k_ ≠ gb440) (Kd.S_N (Kd.S_bound ho0)) (fun k_ hk_ => ⟨(Nat.le_trans (below_size (mH HB)) hk_.2.1), (Kd.freshB (g := gb439) (o := .cells #[.slice (some ad444) l0_0.length c0_0] 24 (0, 0)) (mB BK439) k_ hk_.2.1), (Kd.freshB (g := gb440) (o := .cells #[.slice none 0 0] 24 (0, 0)) (mB BK440) k_ hk_.2.1)⟩)) (below_size (mH HB))); replace BK439 := kB BK439 hb; replace BK440 := kB BK440 hb; replace HB := kH HB hb; (try clear hb); (try clear ho0)) | ((with_reducible refine gate_dst (N := 12) rfl ?_); (try (refine gate_guard (by rfl) ?_; dsimp only)); refine bxE 24 (cs := #[.slice none 0 0]) ?_; intro gb451 hg w38 hbox hb; replace HO450 := kA (Kd.N_below (Kd.N_elderB (mN HO450) gb451 (Nat.le_of_eq hg.symm)) hb); have BK451 := kA hbox; have GW451 := kG HB hg; have GE451 := kG HB hg; replace HB := kH HB hb; have NB439_451 := kL BK439 hg; have NB451_439 := kQ BK439 hg; replace BK439 := kB BK439 hb; have NB440_451 := kL BK440 hg; have NB451_440 := kQ BK440 hg; replace BK440 := kB BK440 hb; clear hb hbox hg; obtain ⟨Ao39, co39, eo39⟩ := Kd.N_slice HO450.out; subst eo39; have hnb40 := NB451_439.out; have hnc40 := NB439_451.out; have hnb41 := NB451_440.out; have hnc41 := NB440_451.out; obtain ⟨hcz42_0, hfz42_0⟩ := cY0 BK451))
    obtain ⟨w43, hw_, n_⟩ : ∃ W_, w38.setCell ⟨gb451, 0, none⟩ (.slice Ao39 t448.length co39) = W_ ∧ Aside0 (Kd.N k28 28 W_ w.heap.size (fun k_ => (w.heap.size ≤ k_) ∧ k_ ≠ gb439 ∧ k_ ≠ gb440 ∧ k_ ≠ gb451) (.slice Ao39 t448.length co39) t448) ∧ Aside0 (W_.heap[gb439]? = some (.cells #[.slice (some ad444) l0_0.length c0_0] 24 (0, 0))) ∧ Aside0 (W_.heap[gb440]? = some (.cells #[.slice none 0 0] 24 (0, 0))) ∧ Aside0 (W_.heap[gb451]? = some (.cells #[.slice Ao39 t448.length co39] 24 (0, 0))) ∧ Aside0 (Below w.heap.size w W_) := ⟨_, rfl, ⟨fN HO450 (fun _ hk => ⟨hk.1.1, ⟨hk.1.2.1, ⟨hk.1.2.2, hk.2⟩⟩⟩)⟩, ⟨mF BK439⟩, ⟨mF BK440⟩, ⟨pP BK451⟩, ⟨mH HB⟩⟩
    (try clear HO450); (try clear BK439); (try clear BK440); (try clear BK451); (try clear HB); rewrite [hw_]; clear hw_; obtain ⟨HO450, BK439, BK440, BK451, HB⟩ := n_; replace HO450 := kA (Kd.N_drew HO450.out); replace BK439 := kA (bD BK439.out); replace BK440 := kA (bD BK440.out); replace BK451 := kA (bD BK451.out); replace HB := kA (wD HB.out); refine start_ (n := 7) (S := fun w' => w'.cell? ⟨gb451, 0, none⟩ = some (.slice Ao39 t448.length co39)) (ds := [6]) B32_0 (by kernel_rfl) rfl rfl (cZ0 BK451) (fun hHeld => ?_); generalize w43.drew = w44 at HO450 BK439 BK440 BK451 HB hHeld ⊢; refine pure_ (i := 0) (N := some 51) (v := ?_) (a' := ?_) B32_1 rfl rfl (by kernel_rfl) (fun _ _ _ h => h) (Or.inl ⟨by rfl, ?_⟩) ?_ ?_; rotate_left
    ·
     intro w'; go_simp; with_reducible rfl
    rotate_left
    ·
     simp only [Act.put, lT, l0_, lS, i64_w, i32_w]; rfl
    refine pureE 2 (some 53) B32_2 (by kernel_rfl) ?_
    refine pureE 3 (some 54) B32_3 (by kernel_rfl) ?_
    refine takeE 1 (some 52) B32_4 (by kernel_rfl) hHeld ?_
    refine one_ (i := 4) (N := some 55) B32_5 rfl rfl (by kernel_rfl) (by decide) (fun K hK => ?_); refine goes_ Try.func53 (by kernel_rfl) rfl #[.int .i64 a2] (by rfl) rfl rfl (by (try simp only [List.map_toArray, List.map_cons, List.map_nil]); first | done | rfl | (simp only [List.length_drop, List.length_take]; rfl)) ?_
    with_reducible refine (potsherdref12_EmptyNode.calls a2 t452 t453 t454 t455 t458 _ A26.out).mono ?_
    rintro e w45 ⟨v456, v459, rfl, ho0, ho1, hb⟩; refine ⟨_, rfl, ?_⟩; replace HO450 := kA (Kd.N_mono (Kd.N_told (Kd.N_told (Kd.N_old (mN HO450) hb) (Kd.R_base ho0)) (Kd.R_base ho1)) (fun _ h_ => h_.1)); have HO457 := kA (Kd.R_lower (Kd.R_newM (M := fun k_ => (w.heap.size ≤ k_)) ho0 (below_size (mH HB)) (fun k_ h_ => h_)) (below_size (mH HB))); have HO460 := kA (Kd.R_lower (Kd.R_newM (M := fun k_ => (w.heap.size ≤ k_)) ho1 (below_size (mH HB)) (fun k_ h_ => h_)) (below_size (mH HB))); replace BK439 := kB BK439 hb; replace BK440 := kB BK440 hb; replace BK451 := kB BK451 hb; replace HB := kH HB hb
    (try clear hb); (try clear hk); (try clear ho0); (try clear ho1)
    have p29 : 0 ≤ (t446 : Int) := dT; have q29 : (t446 : Int) < ((t448.length : Int) : Int) := dT; obtain ⟨go29, co29, eo29, gb29, gl29, cl29, HG29⟩ := Kd.N_form HO450.out (by omega)
    (first | cases eo29 | (injection eo29 with ea_ en_ ec_; (first | subst ea_ | (injection ea_ with ea_; subst ea_)); subst ec_; clear en_))
    have GB29 := kA gb29; have GG29 := kA HG29; clear gb29 gl29 HG29; obtain ⟨ce29, hcl29, hM29, hcc29, hfr29⟩ := Kd.N_elem HO450.out z28 (t446 : Int) p29 q29; obtain ⟨ua29_3, uc29_3, ua29_4, uc29_4, rfl, ul29_3, ge29_3, ul29_4, ge29_4⟩ := k28_openF hM29; have hx29_0 : World.cell? _ ⟨go29, (t446 : Int).toNat * 5, none⟩ = some (.int .i64 ((rU t448 t446).f0)) := hcc29 0 _ rfl; have hx29_1 : World.cell? _ ⟨go29, (t446 : Int).toNat * 5 + 1, none⟩ = some (.int .i64 ((rU t448 t446).f1)) := hcc29 1 _ rfl; have hx29_2 : World.cell? _ ⟨go29, (t446 : Int).toNat * 5 + 2, none⟩ = some (.int .i64 ((rU t448 t446).f2)) := hcc29 2 _ rfl; have hx29_3 : World.cell? _ ⟨go29, (t446 : Int).toNat * 5 + 3, none⟩ = some (.slice ua29_3 ((rU t448 t446).f3).length uc29_3) := hcc29 3 _ rfl; have hx29_4 : World.cell? _ ⟨go29, (t446 : Int).toNat * 5 + 4, none⟩ = some (.slice ua29_4 ((rU t448 t446).f4).length uc29_4) := hcc29 4 _ rfl; have hf29_0 : World.frozen? _ ⟨go29, (t446 : Int).toNat * 5, none⟩ = false := hfr29 0; have hf29_1 : World.frozen? _ ⟨go29, (t446 : Int).toNat * 5 + 1, none⟩ = false := hfr29 1; have hf29_2 : World.frozen? _ ⟨go29, (t446 : Int).toNat * 5 + 2, none⟩ = false := hfr29 2; have hf29_3 : World.frozen? _ ⟨go29, (t446 : Int).toNat * 5 + 3, none⟩ = false := hfr29 3; have hf29_4 : World.frozen? _ ⟨go29, (t446 : Int).toNat * 5 + 4, none⟩ = false := hfr29 4; clear hcl29 hcc29 hfr29 hM29; replace p29 := eq_true p29; replace q29 := eq_true q29; obtain ⟨Azv456, czv456, ezv456⟩ := Kd.R_slice HO457.out; subst ezv456; obtain ⟨Azv459, czv459, ezv459⟩ := Kd.R_slice HO460.out; subst ezv459; have HX46 := kA (show Kd.N k28 28 _ w.heap.size (fun k_ => (w.heap.size ≤ k_) ∧ some k_ ≠ ((Value.slice Azv456 t455.length czv456) : Value).ownBlock ∧ some k_ ≠ ((Value.slice Azv459 t458.length czv459) : Value).ownBlock ∧ k_ ≠ gb439 ∧ k_ ≠ gb440 ∧ k_ ≠ gb451) (.slice (some ⟨go29, 0, none⟩) t448.length co39) t448 from (Kd.N_mono (HO450.out) (fun k_ hk => ⟨hk.1.1.1, ⟨hk.1.2, ⟨hk.2, ⟨hk.1.1.2.1, ⟨hk.1.1.2.2.1, hk.1.1.2.2.2⟩⟩⟩⟩⟩))); replace HX46 := kA (show Kd.N k28 28 _ w.heap.size (fun k_ => (w.heap.size ≤ k_) ∧ k_ ≠ gb439 ∧ k_ ≠ gb440 ∧ k_ ≠ gb451) (.slice (some ⟨go29, 0, none⟩) t448.length co39) t448 from Kd.N_mono HX46.out (fun k_ hk => ⟨hk.1, ⟨hk.2.2.2.1, ⟨hk.2.2.2.2.1, hk.2.2.2.2.2⟩⟩⟩)); obtain ⟨ce46, hcl46, hM46, hcc46, hfr46⟩ := Kd.N_elem HX46.out z28 (t446 : Int) (dT) (by have h_ : (t446 : Int) < ((t448.length : Int) : Int) := dT; first | exact h_ | (have e_ := (Kd.N_reads' HO450.out).1; omega) | simpa using h_)
    obtain ⟨ua46_3, uc46_3, ua46_4, uc46_4, rfl, ul46_3, ge46_3, ul46_4, ge46_4⟩ := k28_openF hM46; have HP46 := (Kd.N_seg HX46.out (t446 : Int) (dT) (by have h_ : (t446 : Int) < ((t448.length : Int) : Int) := dT; first | exact h_ | (have e_ := (Kd.N_reads' HO450.out).1; omega) | simpa using h_) (seg := [.int .i64 t452, .int .i64 t453, .int .i64 t454, (Value.slice Azv456 t455.length czv456), (Value.slice Azv459 t458.length czv459)]) (j := 0) hcl46 hcc46 (show 5 ≤ 5 from by decide) (x' := (⟨t452, t453, t454, t455, t458⟩ : S28)) (k28_mkF _ _ (⟨t452, t453, t454, t455, t458⟩ : S28) (Kd.R_reads' (Kd.R_mono (ok' := (fun k_ => ((fun k_ => (w.heap.size ≤ k_) ∧ k_ ≠ gb439 ∧ k_ ≠ gb440 ∧ k_ ≠ gb451)) k_ ∧ k_ ≠ go29)) (Kd.R_types (Kd.R_types (Kd.R_types (Kd.R_apart' (HO457.out) (Kd.N_typed HO450.out) (by decide)) BK439.out (by decide)) BK440.out (by decide)) BK451.out (by decide)) (fun k_ hk => ⟨⟨hk.1.1.1.1.1, ⟨hk.1.1.2, ⟨hk.1.2, hk.2⟩⟩⟩, fun e_ => (hk.1.1.1.2) (by rw [e_]; rfl)⟩))).2.1 (Kd.R_F (Kd.R_mono (ok' := (fun k_ => ((fun k_ => (w.heap.size ≤ k_) ∧ k_ ≠ gb439 ∧ k_ ≠ gb440 ∧ k_ ≠ gb451)) k_ ∧ k_ ≠ go29)) (Kd.R_types (Kd.R_types (Kd.R_types (Kd.R_apart' (HO457.out) (Kd.N_typed HO450.out) (by decide)) BK439.out (by decide)) BK440.out (by decide)) BK451.out (by decide)) (fun k_ hk => ⟨⟨hk.1.1.1.1.1, ⟨hk.1.1.2, ⟨hk.1.2, hk.2⟩⟩⟩, fun e_ => (hk.1.1.1.2) (by rw [e_]; rfl)⟩))) (Kd.R_reads' (Kd.R_mono (ok' := (fun k_ => ((fun k_ => (w.heap.size ≤ k_) ∧ k_ ≠ gb439 ∧ k_ ≠ gb440 ∧ k_ ≠ gb451)) k_ ∧ k_ ≠ go29)) (Kd.R_types (Kd.R_types (Kd.R_types (Kd.R_apart' (HO460.out) (Kd.N_typed HO450.out) (by decide)) BK439.out (by decide)) BK440.out (by decide)) BK451.out (by decide)) (fun k_ hk => ⟨⟨hk.1.1.1.1.1, ⟨hk.1.1.2, ⟨hk.1.2, hk.2⟩⟩⟩, fun e_ => (hk.1.1.1.2) (by rw [e_]; rfl)⟩))).2.1 (Kd.R_F (Kd.R_mono (ok' := (fun k_ => ((fun k_ => (w.heap.size ≤ k_) ∧ k_ ≠ gb439 ∧ k_ ≠ gb440 ∧ k_ ≠ gb451)) k_ ∧ k_ ≠ go29)) (Kd.R_types (Kd.R_types (Kd.R_types (Kd.R_apart' (HO460.out) (Kd.N_typed HO450.out) (by decide)) BK439.out (by decide)) BK440.out (by decide)) BK451.out (by decide)) (fun k_ hk => ⟨⟨hk.1.1.1.1.1, ⟨hk.1.1.2, ⟨hk.1.2, hk.2⟩⟩⟩, fun e_ => (hk.1.1.1.2) (by rw [e_]; rfl)⟩)))) (fun _ hk => hk)).1
    rw [← Ny461.out] at HP46; have HQ46 := kA HP46; clear hcl46 hcc46 hfr46 hM46 HP46; refine hK.out _ _ (cZ0 BK451) (fun hHeld => ?_); clear hK K; refine norm_ (a' := ?_) ?_ ?_; rotate_left
    ·
     show Act.put _ (some 55) _ = _
     simp only [Act.put, lT, l0_, lS, i64_w, i32_w]; rfl
    refine pureE 5 (some 56) B32_6 (by kernel_rfl) ?_
    refine last_ (i := 6) (N := none) B32_7 rfl rfl (by kernel_rfl) (by decide) (fun K hK => ?_); refine skip_ (w1 := ?_) (by rfl) rfl ?_ ?_; rotate_left
    ·
     go_simp; rfl
    refine hK.out _ _ ?_; clear hK K; refine done_ (by kernel_rfl) ?_
    obtain ⟨w47, hw_, n_⟩ : ∃ W_, ((((w45.setCell ⟨go29, (t446 : Int).toNat * 5, none⟩ (.int .i64 t452)).setCell ⟨go29, (t446 : Int).toNat * 5 + 1, none⟩ (.int .i64 t453)).setCell ⟨go29, (t446 : Int).toNat * 5 + 2, none⟩ (.int .i64 t454)).setCell ⟨go29, (t446 : Int).toNat * 5 + 3, none⟩ ((Value.slice Azv456 t455.length czv456))).setCell ⟨go29, (t446 : Int).toNat * 5 + 4, none⟩ ((Value.slice Azv459 t458.length czv459)) = W_ ∧ Aside0 (Kd.N k28 28 W_ w.heap.size (fun k_ => (w.heap.size ≤ k_) ∧ k_ ≠ gb439 ∧ k_ ≠ gb440 ∧ k_ ≠ gb451) (.slice (some ⟨go29, 0, none⟩) t448.length co39) y461) ∧ Aside0 (W_.heap[gb439]? = some (.cells #[.slice (some ad444) l0_0.length c0_0] 24 (0, 0))) ∧ Aside0 (W_.heap[gb440]? = some (.cells #[.slice none 0 0] 24 (0, 0))) ∧ Aside0 (W_.heap[gb451]? = some (.cells #[.slice (some ⟨go29, 0, none⟩) t448.length co39] 24 (0, 0))) ∧ Aside0 (Below w.heap.size w W_) := ⟨_, rfl, ⟨mN HQ46⟩, ⟨by (with_reducible repeat (first | refine bN ?_ _ | refine bD ?_ | refine bA ?_ _)); refine bF ?_ (by have h_ := Kd.N_away HO450.out (fun _ hk => by first | exact hk.2.1 | exact hk.1.1.2.1 | exact hk.1.2.1); intro e_; exact h_ (by rw [e_]; rfl)) _; (with_reducible repeat (first | refine bN ?_ _ | refine bD ?_ | refine bA ?_ _)); refine bF ?_ (by have h_ := Kd.N_away HO450.out (fun _ hk => by first | exact hk.2.1 | exact hk.1.1.2.1 | exact hk.1.2.1); intro e_; exact h_ (by rw [e_]; rfl)) _; (with_reducible repeat (first | refine bN ?_ _ | refine bD ?_ | refine bA ?_ _)); refine bF ?_ (by have h_ := Kd.N_away HO450.out (fun _ hk => by first | exact hk.2.1 | exact hk.1.1.2.1 | exact hk.1.2.1); intro e_; exact h_ (by rw [e_]; rfl)) _; (with_reducible repeat (first | refine bN ?_ _ | refine bD ?_ | refine bA ?_ _)); refine bF ?_ (by have h_ := Kd.N_away HO450.out (fun _ hk => by first | exact hk.2.1 | exact hk.1.1.2.1 | exact hk.1.2.1); intro e_; exact h_ (by rw [e_]; rfl)) _; (with_reducible repeat (first | refine bN ?_ _ | refine bD ?_ | refine bA ?_ _)); refine bF ?_ (by have h_ := Kd.N_away HO450.out (fun _ hk => by first | exact hk.2.1 | exact hk.1.1.2.1 | exact hk.1.2.1); intro e_; exact h_ (by rw [e_]; rfl)) _; (with_reducible repeat (first | refine bN ?_ _ | refine bD ?_ | refine bA ?_ _)); exact BK439.out⟩, ⟨by (with_reducible repeat (first | refine bN ?_ _ | refine bD ?_ | refine bA ?_ _)); refine bF ?_ (by have h_ := Kd.N_away HO450.out (fun _ hk => by first | exact hk.2.2.1 | exact hk.1.1.2.2.1 | exact hk.1.2.2.1); intro e_; exact h_ (by rw [e_]; rfl)) _; (with_reducible repeat (first | refine bN ?_ _ | refine bD ?_ | refine bA ?_ _)); refine bF ?_ (by have h_ := Kd.N_away HO450.out (fun _ hk => by first | exact hk.2.2.1 | exact hk.1.1.2.2.1 | exact hk.1.2.2.1); intro e_; exact h_ (by rw [e_]; rfl)) _; (with_reducible repeat (first | refine bN ?_ _ | refine bD ?_ | refine bA ?_ _)); refine bF ?_ (by have h_ := Kd.N_away HO450.out (fun _ hk => by first | exact hk.2.2.1 | exact hk.1.1.2.2.1 | exact hk.1.2.2.1); intro e_; exact h_ (by rw [e_]; rfl)) _; (with_reducible repeat (first | refine bN ?_ _ | refine bD ?_ | refine bA ?_ _)); refine bF ?_ (by have h_ := Kd.N_away HO450.out (fun _ hk => by first | exact hk.2.2.1 | exact hk.1.1.2.2.1 | exact hk.1.2.2.1); intro e_; exact h_ (by rw [e_]; rfl)) _; (with_reducible repeat (first | refine bN ?_ _ | refine bD ?_ | refine bA ?_ _)); refine bF ?_ (by have h_ := Kd.N_away HO450.out (fun _ hk => by first | exact hk.2.2.1 | exact hk.1.1.2.2.1 | exact hk.1.2.2.1); intro e_; exact h_ (by rw [e_]; rfl)) _; (with_reducible repeat (first | refine bN ?_ _ | refine bD ?_ | refine bA ?_ _)); exact BK440.out⟩, ⟨by (with_reducible repeat (first | refine bN ?_ _ | refine bD ?_ | refine bA ?_ _)); refine bF ?_ (by have h_ := Kd.N_away HO450.out (fun _ hk => by first | exact hk.2.2.2 | exact hk.1.1.2.2.2 | exact hk.1.2.2.2); intro e_; exact h_ (by rw [e_]; rfl)) _; (with_reducible repeat (first | refine bN ?_ _ | refine bD ?_ | refine bA ?_ _)); refine bF ?_ (by have h_ := Kd.N_away HO450.out (fun _ hk => by first | exact hk.2.2.2 | exact hk.1.1.2.2.2 | exact hk.1.2.2.2); intro e_; exact h_ (by rw [e_]; rfl)) _; (with_reducible repeat (first | refine bN ?_ _ | refine bD ?_ | refine bA ?_ _)); refine bF ?_ (by have h_ := Kd.N_away HO450.out (fun _ hk => by first | exact hk.2.2.2 | exact hk.1.1.2.2.2 | exact hk.1.2.2.2); intro e_; exact h_ (by rw [e_]; rfl)) _; (with_reducible repeat (first | refine bN ?_ _ | refine bD ?_ | refine bA ?_ _)); refine bF ?_ (by have h_ := Kd.N_away HO450.out (fun _ hk => by first | exact hk.2.2.2 | exact hk.1.1.2.2.2 | exact hk.1.2.2.2); intro e_; exact h_ (by rw [e_]; rfl)) _; (with_reducible repeat (first | refine bN ?_ _ | refine bD ?_ | refine bA ?_ _)); refine bF ?_ (by have h_ := Kd.N_away HO450.out (fun _ hk => by first | exact hk.2.2.2 | exact hk.1.1.2.2.2 | exact hk.1.2.2.2); intro e_; exact h_ (by rw [e_]; rfl)) _; (with_reducible repeat (first | refine bN ?_ _ | refine bD ?_ | refine bA ?_ _)); exact BK451.out⟩, ⟨mH HB⟩⟩
    (try clear HO450); (try clear BK439); (try clear BK440); (try clear BK451); (try clear HB); rewrite [hw_]; clear hw_; obtain ⟨HO450, BK439, BK440, BK451, HB⟩ := n_
    try go_wp2
    replace HO450 := kA (Kd.N_drew HO450.out); replace BK439 := kA (bD BK439.out); replace BK440 := kA (bD BK440.out); replace BK451 := kA (bD BK451.out); replace HB := kA (wD HB.out); have p462 : 0 ≤ (t441 : Int) := dT; have q462 : t441 < (l0_0.length : Int) := dT; obtain ⟨ad462, A462_3, c462_3, A462_4, c462_4, e462, hx462_0, hx462_1, hx462_2, hx462_3, hx462_4, hl462_3, hi462_3, hl462_4, hi462_4⟩ := at_T28 HR0_0.out t441 p462 q462; have hw462_4 := hx462_4; have hw462_3 := hx462_3; have hw462_2 := hx462_2; have hw462_1 := hx462_1; have hw462_0 := hx462_0; obtain rfl : ad444 = ad462 := (by injection e462); replace hx462_0 := xC HB hx462_0; replace hx462_1 := xC HB hx462_1; replace hx462_2 := xC HB hx462_2; replace hx462_3 := xC HB hx462_3; replace hx462_4 := xC HB hx462_4; have HR462_3 := kA hi462_3; have HC462_3 := kA hl462_3; clear hi462_3 hl462_3; have HR462_4 := kA hi462_4; have HC462_4 := kA hl462_4; clear hi462_4 hl462_4; replace p462 := eq_true p462; replace q462 := eq_true q462; refine start_ (n := 18) (S := fun w' => w'.cell? ⟨gb451, 0, none⟩ = some (.slice (some ⟨go29, 0, none⟩) t448.length co39) ∧ w'.cell? ⟨gb439, 0, none⟩ = some (.slice (some ad444) l0_0.length c0_0) ∧ w'.cell? (ad444.add ((t441).toNat * 5)) = some (.int .i64 ((rU l0_0 t441).f0)) ∧ w'.cell? ⟨(ad444.add ((t441).toNat * 5)).block, (ad444.add ((t441).toNat * 5)).off + 1, none⟩ = some (.int .i64 ((rU l0_0 t441).f1)) ∧ w'.cell? ⟨(ad444.add ((t441).toNat * 5)).block, (ad444.add ((t441).toNat * 5)).off + 2, none⟩ = some (.int .i64 ((rU l0_0 t441).f2)) ∧ w'.cell? ⟨(ad444.add ((t441).toNat * 5)).block, (ad444.add ((t441).toNat * 5)).off + 3, none⟩ = some (.slice A462_3 ((rU l0_0 t441).f3).length c462_3) ∧ w'.cell? ⟨(ad444.add ((t441).toNat * 5)).block, (ad444.add ((t441).toNat * 5)).off + 4, none⟩ = some (.slice A462_4 ((rU l0_0 t441).f4).length c462_4)) (ds := [17]) B32_8 (by kernel_rfl) rfl rfl ⟨cZ0 BK451, cZ0 BK439, (xC HB hw462_0), (xC HB hw462_1), (xC HB hw462_2), (xC HB hw462_3), (xC HB hw462_4)⟩ (fun hHeld => ?_); refine with_tabW potsherdref12_make1.tab11 potsherdref12_make1.bits11 (fun HT_ HW_ => ?_); generalize w47.drew = w48 at HO450 BK439 BK440 BK451 HB HR462_3 HR462_4 hx462_0 hx462_1 hx462_2 hx462_3 hx462_4 hHeld ⊢; refine pure_ (i := 0) (N := some 58) (v := ?_) (a' := ?_) B32_9 rfl rfl (any_of HT_.out (by kernel_rfl)) (fun _ _ _ h => h) (Or.inl ⟨by rfl, ?_⟩) ?_ ?_; rotate_left
    ·
     intro w'; go_simp; with_reducible rfl
    rotate_left
    ·
     simp only [Act.put, lT, l0_, lS, i64_w, i32_w]; rfl
    refine pE 2 60 B32_10 HT_ ?_
    refine pE 3 61 B32_11 HT_ ?_
    refine pE 5 63 B32_12 HT_ ?_
    refine pE 9 67 B32_13 HT_ ?_
    refine pE 10 68 B32_14 HT_ ?_
    refine tE 1 59 B32_15 HT_ HW_ hHeld ?_
    refine tE 4 62 B32_16 HT_ HW_ hHeld ?_
    refine pE 6 64 B32_17 HT_ ?_
    refine pE 7 65 B32_18 HT_ ?_
    refine tE 8 66 B32_19 HT_ HW_ hHeld ?_
    refine one_ (i := 11) (N := some 69) B32_20 rfl rfl (one_of HT_.out (by kernel_rfl)) (by decide) (fun K hK => ?_); refine goes_ Try.func88 (by kernel_rfl) rfl #[.slice A462_4 ((rU l0_0 t441).f4).length c462_4, .string t442, .int .i64 t446] (by rfl) rfl rfl (by (try simp only [List.map_toArray, List.map_cons, List.map_nil]); first | done | rfl | (simp only [List.length_drop, List.length_take]; rfl)) ?_
    with_reducible refine (potsherdref12_With.calls kj10 _ _ ((rU l0_0 t441).f4) t442 t446 t463 t464 _ ?side1 ?side2 A32.out).mono ?_
    (case side1 => exact mC HR462_4 HB)
    (case side2 => exact HC462_4.out)
    rintro e w49 ⟨v465, rfl, ho0, hb⟩; refine ⟨_, rfl, ?_⟩; replace HO450 := kA (Kd.N_elder' (mN HO450) (Kd.R_base ho0) hb); have HO466 := kA (Kd.R_lower (Kd.R_newM (M := fun k_ => (w.heap.size ≤ k_)) ho0 (below_size (mH HB)) (fun k_ h_ => h_)) (below_size (mH HB))); replace BK439 := kB BK439 hb; replace BK440 := kB BK440 hb; replace BK451 := kB BK451 hb; replace HB := kH HB hb
    (try clear hb); (try clear hk); (try clear ho0)
    have p34 : 0 ≤ (t441 : Int) := dT; have q34 : (t441 : Int) < ((t448.length : Int) : Int) := dT; obtain ⟨ce34, hcl34, hM34, hcc34, hfr34⟩ := Kd.N_elem HO450.out z28 (t441 : Int) p34 q34; obtain ⟨ua34_3, uc34_3, ua34_4, uc34_4, rfl, ul34_3, ge34_3, ul34_4, ge34_4⟩ := k28_openF hM34; have hx34_0 : World.cell? _ ⟨go29, (t441 : Int).toNat * 5, none⟩ = some (.int .i64 ((rU y461 t441).f0)) := hcc34 0 _ rfl; have hx34_1 : World.cell? _ ⟨go29, (t441 : Int).toNat * 5 + 1, none⟩ = some (.int .i64 ((rU y461 t441).f1)) := hcc34 1 _ rfl; have hx34_2 : World.cell? _ ⟨go29, (t441 : Int).toNat * 5 + 2, none⟩ = some (.int .i64 ((rU y461 t441).f2)) := hcc34 2 _ rfl; have hx34_3 : World.cell? _ ⟨go29, (t441 : Int).toNat * 5 + 3, none⟩ = some (.slice ua34_3 ((rU y461 t441).f3).length uc34_3) := hcc34 3 _ rfl; have hx34_4 : World.cell? _ ⟨go29, (t441 : Int).toNat * 5 + 4, none⟩ = some (.slice ua34_4 ((rU y461 t441).f4).length uc34_4) := hcc34 4 _ rfl; have hf34_0 : World.frozen? _ ⟨go29, (t441 : Int).toNat * 5, none⟩ = false := hfr34 0; have hf34_1 : World.frozen? _ ⟨go29, (t441 : Int).toNat * 5 + 1, none⟩ = false := hfr34 1; have hf34_2 : World.frozen? _ ⟨go29, (t441 : Int).toNat * 5 + 2, none⟩ = false := hfr34 2; have hf34_3 : World.frozen? _ ⟨go29, (t441 : Int).toNat * 5 + 3, none⟩ = false := hfr34 3; have hf34_4 : World.frozen? _ ⟨go29, (t441 : Int).toNat * 5 + 4, none⟩ = false := hfr34 4; clear hcl34 hcc34 hfr34 hM34; replace p34 := eq_true p34; replace q34 := eq_true q34; obtain ⟨Azv465, czv465, ezv465⟩ := Kd.R_slice HO466.out; subst ezv465; have HX50 := kA (show Kd.N k28 28 _ w.heap.size (fun k_ => (w.heap.size ≤ k_) ∧ some k_ ≠ ((Value.slice Azv465 t463.length czv465) : Value).ownBlock ∧ k_ ≠ gb439 ∧ k_ ≠ gb440 ∧ k_ ≠ gb451) (.slice (some ⟨go29, 0, none⟩) t448.length co39) y461 from (Kd.N_mono (HO450.out) (fun k_ hk => ⟨hk.1.1, ⟨hk.2, ⟨hk.1.2.1, ⟨hk.1.2.2.1, hk.1.2.2.2⟩⟩⟩⟩))); replace HX50 := kA (show Kd.N k28 28 _ w.heap.size (fun k_ => (w.heap.size ≤ k_) ∧ k_ ≠ gb439 ∧ k_ ≠ gb440 ∧ k_ ≠ gb451) (.slice (some ⟨go29, 0, none⟩) t448.length co39) y461 from Kd.N_mono HX50.out (fun k_ hk => ⟨hk.1, ⟨hk.2.2.1, ⟨hk.2.2.2.1, hk.2.2.2.2⟩⟩⟩)); obtain ⟨ce50, hcl50, hM50, hcc50, hfr50⟩ := Kd.N_elem HX50.out z28 (t441 : Int) (dT) (by have h_ : (t441 : Int) < ((t448.length : Int) : Int) := dT; first | exact h_ | (have e_ := (Kd.N_reads' HO450.out).1; omega) | simpa using h_)
    obtain ⟨ua50_3, uc50_3, ua50_4, uc50_4, rfl, ul50_3, ge50_3, ul50_4, ge50_4⟩ := k28_openF hM50; have HP50 := (Kd.N_seg HX50.out (t441 : Int) (dT) (by have h_ : (t441 : Int) < ((t448.length : Int) : Int) := dT; first | exact h_ | (have e_ := (Kd.N_reads' HO450.out).1; omega) | simpa using h_) (seg := [(Value.slice Azv465 t463.length czv465)]) (j := 4) hcl50 hcc50 (show 5 ≤ 5 from by decide) (x' := (⟨(rU y461 t441).f0, (rU y461 t441).f1, (rU y461 t441).f2, (rU y461 t441).f3, t463⟩ : S28)) (k28_mkF _ _ (⟨(rU y461 t441).f0, (rU y461 t441).f1, (rU y461 t441).f2, (rU y461 t441).f3, t463⟩ : S28) ul50_3 ge50_3 (Kd.R_reads' (Kd.R_mono (ok' := (fun k_ => ((fun k_ => (w.heap.size ≤ k_) ∧ k_ ≠ gb439 ∧ k_ ≠ gb440 ∧ k_ ≠ gb451)) k_ ∧ k_ ≠ go29)) (Kd.R_types (Kd.R_types (Kd.R_types (Kd.R_apart' (HO466.out) (Kd.N_typed HO450.out) (by decide)) BK439.out (by decide)) BK440.out (by decide)) BK451.out (by decide)) (fun k_ hk => ⟨⟨hk.1.1.1.1.1, ⟨hk.1.1.2, ⟨hk.1.2, hk.2⟩⟩⟩, fun e_ => (hk.1.1.1.2) (by rw [e_]; rfl)⟩))).2.1 (Kd.R_F (Kd.R_mono (ok' := (fun k_ => ((fun k_ => (w.heap.size ≤ k_) ∧ k_ ≠ gb439 ∧ k_ ≠ gb440 ∧ k_ ≠ gb451)) k_ ∧ k_ ≠ go29)) (Kd.R_types (Kd.R_types (Kd.R_types (Kd.R_apart' (HO466.out) (Kd.N_typed HO450.out) (by decide)) BK439.out (by decide)) BK440.out (by decide)) BK451.out (by decide)) (fun k_ hk => ⟨⟨hk.1.1.1.1.1, ⟨hk.1.1.2, ⟨hk.1.2, hk.2⟩⟩⟩, fun e_ => (hk.1.1.1.2) (by rw [e_]; rfl)⟩)))) (fun _ hk => hk)).1
    rw [← Ny467.out] at HP50; have HQ50 := kA HP50; clear hcl50 hcc50 hfr50 hM50 HP50; refine hK.out _ _ ⟨cZ0 BK451, cZ0 BK439, (xC HB hw462_0), (xC HB hw462_1), (xC HB hw462_2), (xC HB hw462_3), (xC HB hw462_4)⟩ (fun hHeld => ?_); clear hK K; refine norm_ (a' := ?_) ?_ ?_; rotate_left
    ·
     show Act.put _ (some 69) _ = _
     simp only [Act.put, lT, l0_, lS, i64_w, i32_w]; rfl
    refine pE 12 57 B32_21 HT_ ?_
    refine pE 13 70 B32_22 HT_ ?_
    refine pE 14 71 B32_23 HT_ ?_
    refine pE 15 72 B32_24 HT_ ?_
    refine pE 16 73 B32_25 HT_ ?_
    refine last_ (i := 17) (N := none) B32_26 rfl rfl (one_of HT_.out (by kernel_rfl)) (by decide) (fun K hK => ?_); refine skip_ (w1 := ?_) (by rfl) rfl ?_ ?_; rotate_left
    ·
     go_simp; rfl
    refine hK.out _ _ ?_; clear hK K; refine done_ (done_of HT_.out (by kernel_rfl)) ?_
    obtain ⟨w51, hw_, n_⟩ : ∃ W_, w49.setCell ⟨go29, (t441 : Int).toNat * 5 + 4, none⟩ ((Value.slice Azv465 t463.length czv465)) = W_ ∧ Aside0 (Kd.N k28 28 W_ w.heap.size (fun k_ => (w.heap.size ≤ k_) ∧ k_ ≠ gb439 ∧ k_ ≠ gb440 ∧ k_ ≠ gb451) (.slice (some ⟨go29, 0, none⟩) t448.length co39) y467) ∧ Aside0 (W_.heap[gb439]? = some (.cells #[.slice (some ad444) l0_0.length c0_0] 24 (0, 0))) ∧ Aside0 (W_.heap[gb440]? = some (.cells #[.slice none 0 0] 24 (0, 0))) ∧ Aside0 (W_.heap[gb451]? = some (.cells #[.slice (some ⟨go29, 0, none⟩) t448.length co39] 24 (0, 0))) ∧ Aside0 (Below w.heap.size w W_) := ⟨_, rfl, ⟨mN HQ50⟩, ⟨by (with_reducible repeat (first | refine bN ?_ _ | refine bD ?_ | refine bA ?_ _)); refine bF ?_ (by have h_ := Kd.N_away HO450.out (fun _ hk => by first | exact hk.2.1 | exact hk.1.1.2.1 | exact hk.1.2.1); intro e_; exact h_ (by rw [e_]; rfl)) _; (with_reducible repeat (first | refine bN ?_ _ | refine bD ?_ | refine bA ?_ _)); exact BK439.out⟩, ⟨by (with_reducible repeat (first | refine bN ?_ _ | refine bD ?_ | refine bA ?_ _)); refine bF ?_ (by have h_ := Kd.N_away HO450.out (fun _ hk => by first | exact hk.2.2.1 | exact hk.1.1.2.2.1 | exact hk.1.2.2.1); intro e_; exact h_ (by rw [e_]; rfl)) _; (with_reducible repeat (first | refine bN ?_ _ | refine bD ?_ | refine bA ?_ _)); exact BK440.out⟩, ⟨by (with_reducible repeat (first | refine bN ?_ _ | refine bD ?_ | refine bA ?_ _)); refine bF ?_ (by have h_ := Kd.N_away HO450.out (fun _ hk => by first | exact hk.2.2.2 | exact hk.1.1.2.2.2 | exact hk.1.2.2.2); intro e_; exact h_ (by rw [e_]; rfl)) _; (with_reducible repeat (first | refine bN ?_ _ | refine bD ?_ | refine bA ?_ _)); exact BK451.out⟩, ⟨mH HB⟩⟩
    (try clear HO450); (try clear BK439); (try clear BK440); (try clear BK451); (try clear HB); rewrite [hw_]; clear hw_; obtain ⟨HO450, BK439, BK440, BK451, HB⟩ := n_; obtain ⟨hcz52_0, hfz52_0⟩ := cY0 BK451; obtain ⟨hcz53_0, hfz53_0⟩ := cY0 BK440
    try go_wp2
    refine bodyPost_ret (results_ct rfl _ _ gb440 24 #[.slice (some ⟨go29, 0, none⟩) t448.length co39] (0, 0) _ rfl (pP BK440) Try.underlying24 rfl (by kernel_rfl)) rfl ?_
    exact ⟨_, rT, fN HO450 (hg := fun _ hk => hk.2.2.1), mH HB⟩
end Go.Proofs.Ytkigiehkckjlhaa.PReads
