/- The Go functions that these laws reach, each as a Lean function with the same answers (a law itself where it answers true), and the proof that the code comes to them; conditions: those of each theorem. Laid by a program of this session over the print. -/
import Derived.Test.YtkigiehkckjlhaaZSpacePSpaceShort
import Derived.Test.YtkigiehkckjlhaaZSpacePSpacex0
import Derived.Test.YtkigiehkckjlhaaZSpacePSpacex4
namespace Go.Proofs.Ytkigiehkckjlhaa.PSpace
open Go.RowKit Go.Proofs.YtkigiehkckjlhaaW.PrintWords Go.Proofs.YtkigiehkckjlhaaW.PrintLast Go.Proofs.YtkigiehkckjlhaaW.PrintMore
attribute [local go_sem] max2_int min2_int max_two min_two max_three min_three max_four min_four   -- for this text's walks alone
set_option linter.unusedVariables false
set_option linter.unusedSimpArgs false
open Go.Proofs.YtkigiehkckjlhaaW.PrintWords renaming blk_drewN → bN, blk_drew → bD, blk_alloc → bA, below_set → wS, below_alloc → wA, pw_below_drewN → wN, below_drew1 → wD, blk_below → bB, blk_far → bF, blk_cell → bC, blk_frozen → bZ
open List renaming setIfInBounds_toArray → lT, set_cons_zero → l0_, set_cons_succ → lS
def potsherdref12_Used.l0 : Nat → Int → List (S28) → Int → Int → Option (Int)
 | 0, _, _, _, _ => none
 | k + 1, x3, x10, x11, x12 => if x12 < x11 then (if 0 ≤ x12 then (if x12 < (x10.length : Int) then ((potsherdref12_Pages.f k ((rd_T28 x10 x12).f0) ((rd_T28 x10 x12).f1) ((rd_T28 x10 x12).f2) ((rd_T28 x10 x12).f3) ((rd_T28 x10 x12).f4)).bind fun t127 => (potsherdref12_Used.l0 k (wrap64 (x3 + t127)) x10 x11 (wrap64 (x12 + 1)))) else (none)) else (none)) else (some x3)
def potsherdref12_Used.f (k : Nat) (l0_0 : List (S28)) : Option (Int) := (potsherdref12_sound.f k l0_0).bind fun t124 => (if t124 = true then (potsherdref12_Used.l0 k 0 l0_0 (l0_0.length : Int) 0) else (some 0))
theorem potsherdref12_Used.mono_l : ∀ k, (∀ y0 y1 y2 y3, LeO (potsherdref12_Used.l0 k y0 y1 y2 y3) (potsherdref12_Used.l0 (k + 1) y0 y1 y2 y3))
 | 0 => fun _ _ _ _ r h => by simp [potsherdref12_Used.l0] at h
 | k + 1 => by
  have ih0 := potsherdref12_Used.mono_l k
  ·
   intro y0 y1 y2 y3
   unfold potsherdref12_Used.l0
   repeat' with_reducible first | apply ih0 | apply potsherdref12_Pages.mono | apply potsherdref12_sound.mono | exact LeO.refl _ | exact LeO.none _ | refine LeO.ite ?_ ?_ | refine LeO.bind ?_ (fun _ => ?_)
theorem potsherdref12_Used.mono : ∀ a0 k, LeO (potsherdref12_Used.f k a0) (potsherdref12_Used.f (k + 1) a0) := by
 intro a0 k; have ih0 := potsherdref12_Used.mono_l k
 unfold potsherdref12_Used.f
 repeat' with_reducible first | apply ih0 | apply potsherdref12_Pages.mono | apply potsherdref12_sound.mono | exact LeO.refl _ | exact LeO.none _ | refine LeO.ite ?_ ?_ | refine LeO.bind ?_ (fun _ => ?_)
set_option maxHeartbeats 8000000 in
set_option maxRecDepth 100000 in
theorem potsherdref12_Used.calls (k : Nat) (A0_0 : Option Addr) (c0_0 : Nat) (l0_0 : List (S28)) (r : Int) (w : World) (hr0_0 : Kd.C k28 w A0_0 l0_0.length l0_0) (hc0_0 : l0_0.length ≤ c0_0) (h : potsherdref12_Used.f k l0_0 = some r) :
 Calls Try.prog 17 #[.agg #[.slice A0_0 l0_0.length c0_0]] w fun e w' => e = .returned (.int .i64 r) ∧ Below w.heap.size w w' := by
 have hu24 := Try.underlying24; have hu28 := Try.underlying28; have HR0_0 := Aside0.mk hr0_0; have HC0_0 := Aside0.mk hc0_0; clear hr0_0 hc0_0; have HB := Aside0.mk (Below.refl w.heap.size w); have H : ((potsherdref12_sound.f k l0_0).bind fun t124 => (if t124 = true then (potsherdref12_Used.l0 k 0 l0_0 (l0_0.length : Int) 0) else (some 0))) = some r := h; clear h; replace H := Option.bind_eq_some_iff.mp H; obtain ⟨t124, A20, H⟩ := H; have A2 := Aside0.mk A20; clear A20
 by_cases c3 : t124 = true
 ·
  subst c3
  have H1 : (potsherdref12_Used.l0 k 0 l0_0 (l0_0.length : Int) 0) = some r := by rw [if_pos rfl] at H; exact H
  clear H; have H := H1; clear H1; have H' := Aside0.mk H; clear H
  go_enter Try.func17, Try.ntmps17
  go_wp2_with (first | ((with_reducible refine gate_dst (N := 1) rfl ?_); refine bxE 24 (cs := #[.slice A0_0 l0_0.length c0_0]) ?_; intro gb123 hg w4 hbox hb; have BK123 := Aside0.mk hbox; have GW123 := kG HB hg; have GE123 := kG HB hg; replace HB := kH HB hb; clear hb hbox hg; obtain ⟨hcz5_0, hfz5_0⟩ := cY0 BK123) | ((with_reducible refine gate_callee (f := 47) rfl ?_); refine goesK (some 7) Try.func47 #[.agg #[.slice A0_0 l0_0.length c0_0]] ?_; (with_reducible refine (potsherdref12_sound.calls k _ _ l0_0 true _ ?side1 ?side2 A2.out).mono ?_); (case side1 => exact mC HR0_0 HB); (case side2 => exact HC0_0.out); rintro e w6 ⟨rfl, hb⟩; refine ⟨_, rfl, ?_⟩; replace BK123 := kB BK123 hb; replace HB := kH HB hb; (try clear hb); obtain ⟨hcz7_0, hfz7_0⟩ := cY0 BK123))
  go_loopg [3, 12] k (fun kq v3 v12 w' => ∃ (x3_1 : Int) (x12_1 : Int), v3 = .int .i64 x3_1 ∧ v12 = .int .i64 x12_1 ∧ Aside0 (potsherdref12_Used.l0 kq x3_1 l0_0 (l0_0.length : Int) x12_1 = some r) ∧ Aside0 (kq ≤ k) ∧ Aside0 (w'.heap[gb123]? = some (.cells #[(.slice A0_0 l0_0.length c0_0)] 24 (0, 0))) ∧ Aside0 (Below w.heap.size w w'))
  case atStart => exact ⟨(0), (0), sI, sI, H', ⟨Nat.le_refl _⟩, ⟨mB BK123⟩, ⟨mH HB⟩⟩
  case round =>
   clear H'
   (try clear c3); (try clear hcz5_0); (try clear hcz7_0); (try clear hfz5_0); (try clear hfz7_0)
   obtain ⟨x3_1, x12_1, rfl, rfl, HA, HK1, BK123, HB⟩ := hrel
   cases gk with
   | zero => exact absurd HA.out (by simp [potsherdref12_Used.l0])
   | succ k1 =>
    have H := HA.out; clear HA; simp only [potsherdref12_Used.l0] at H
    by_cases c8 : x12_1 < (l0_0.length : Int)
    ·
     rw [if_pos c8] at H; have c8b0 := decide_eq_true c8; clear c8
     replace H := nP H; obtain ⟨c9, H⟩ := H; have c9b0 := decide_eq_true c9; clear c9
     replace H := nP H; obtain ⟨c10, H⟩ := H; have c10b0 := decide_eq_true c10; clear c10; replace H := Option.bind_eq_some_iff.mp H; obtain ⟨t127, A110, H⟩ := H; have A11 := Aside0.mk A110; clear A110; have H' := Aside0.mk H; clear H; have p125 : 0 ≤ (x12_1 : Int) := dT; have q125 : x12_1 < (l0_0.length : Int) := dT; obtain ⟨ad125, A125_3, c125_3, A125_4, c125_4, e125, hx125_0, hx125_1, hx125_2, hx125_3, hx125_4, hl125_3, hi125_3, hl125_4, hi125_4⟩ := at_T28 HR0_0.out x12_1 p125 q125
     cases e125
     replace hx125_0 := xC HB hx125_0; replace hx125_1 := xC HB hx125_1; replace hx125_2 := xC HB hx125_2; replace hx125_3 := xC HB hx125_3; replace hx125_4 := xC HB hx125_4; have HR125_3 := Aside0.mk hi125_3; have HC125_3 := Aside0.mk hl125_3; clear hi125_3 hl125_3; have HR125_4 := Aside0.mk hi125_4; have HC125_4 := Aside0.mk hl125_4; clear hi125_4 hl125_4; replace p125 := eq_true p125; replace q125 := eq_true q125
     go_wp2_with (first | ((with_reducible refine gate_dst (N := 5) rfl ?_); refine bxE 28 (cs := #[.int .i64 0, .int .i64 0, .int .i64 0, .slice none 0 0, .slice none 0 0]) ?_; intro gb126 hg w12 hbox hb; have BK126 := Aside0.mk hbox; have GW126 := kG HB hg; have GE126 := kG HB hg; replace HB := kH HB hb; have NB123_126 := kL BK123 hg; have NB126_123 := kQ BK123 hg; replace BK123 := kB BK123 hb; clear hb hbox hg; have hnb13 := NB126_123.out; have hnc13 := NB123_126.out; obtain ⟨hcz14_0, hfz14_0⟩ := cY0 BK126; obtain ⟨hcz14_1, hfz14_1⟩ := cY1 BK126; obtain ⟨hcz14_2, hfz14_2⟩ := cY2 BK126; obtain ⟨hcz14_3, hfz14_3⟩ := cY3 BK126; obtain ⟨hcz14_4, hfz14_4⟩ := cY4 BK126) | ((with_reducible refine gate_callee (f := 28) rfl ?_); refine goesK (some 18) Try.func28 #[.agg #[.int .i64 ((rd_T28 l0_0 x12_1).f0), .int .i64 ((rd_T28 l0_0 x12_1).f1), .int .i64 ((rd_T28 l0_0 x12_1).f2), .slice A125_3 ((rd_T28 l0_0 x12_1).f3).length c125_3, .slice A125_4 ((rd_T28 l0_0 x12_1).f4).length c125_4]] ?_; (with_reducible refine (potsherdref12_Pages.calls k1 ((rd_T28 l0_0 x12_1).f0) ((rd_T28 l0_0 x12_1).f1) ((rd_T28 l0_0 x12_1).f2) _ _ ((rd_T28 l0_0 x12_1).f3) _ _ ((rd_T28 l0_0 x12_1).f4) t127 _ ?side1 ?side2 ?side3 ?side4 A11.out).mono ?_); (case side1 => exact Kd.C_below HR125_3.out (mH HB)); (case side2 => exact HC125_3.out); (case side3 => exact Kd.C_below HR125_4.out (mH HB)); (case side4 => exact HC125_4.out); rintro e w15 ⟨rfl, hb⟩; refine ⟨_, rfl, ?_⟩; replace BK123 := Aside0.mk (bB (mF BK123) hb); replace BK126 := Aside0.mk (bB (g := gb126) (o := .cells #[.int .i64 ((rd_T28 l0_0 x12_1).f0), .int .i64 ((rd_T28 l0_0 x12_1).f1), .int .i64 ((rd_T28 l0_0 x12_1).f2), .slice A125_3 ((rd_T28 l0_0 x12_1).f3).length c125_3, .slice A125_4 ((rd_T28 l0_0 x12_1).f4).length c125_4] 28 (0, 0)) (pP BK126) hb); replace HB := kH HB hb; (try clear hb)))
     go_roundg k1
     case measure => have := HK1.out; omega
     case rel => exact ⟨(wrap64 (x3_1 + t127)), (wrap64 (x12_1 + 1)), sI, sI, H', ⟨oK HK1⟩, ⟨mB BK123⟩, ⟨mH HB⟩⟩
    ·
     rw [if_neg c8] at H; have c8b0 := decide_eq_false c8; clear c8; obtain rfl := Option.some.inj H
     go_wp2
     go_ret
     exact ⟨rT, mH HB⟩
 ·
  replace c3 := Bool.eq_false_iff.mpr c3; subst c3
  have H1 : (some 0) = some r := by rw [if_neg (show ¬ (false = true) by decide)] at H; exact H
  clear H; have H := H1; clear H1; obtain rfl := Option.some.inj H
  go_enter Try.func17, Try.ntmps17
  go_wp2_with (first | ((with_reducible refine gate_dst (N := 1) rfl ?_); refine bxE 24 (cs := #[.slice A0_0 l0_0.length c0_0]) ?_; intro gb123 hg w16 hbox hb; have BK123 := Aside0.mk hbox; have GW123 := kG HB hg; have GE123 := kG HB hg; replace HB := kH HB hb; clear hb hbox hg; obtain ⟨hcz17_0, hfz17_0⟩ := cY0 BK123) | ((with_reducible refine gate_callee (f := 47) rfl ?_); refine goesK (some 7) Try.func47 #[.agg #[.slice A0_0 l0_0.length c0_0]] ?_; (with_reducible refine (potsherdref12_sound.calls k _ _ l0_0 false _ ?side1 ?side2 A2.out).mono ?_); (case side1 => exact mC HR0_0 HB); (case side2 => exact HC0_0.out); rintro e w18 ⟨rfl, hb⟩; refine ⟨_, rfl, ?_⟩; replace BK123 := kB BK123 hb; replace HB := kH HB hb; (try clear hb)))
  go_ret
  exact ⟨rT, mH HB⟩
def potsherdref12_FitsFile.f (a0 : Int) (a1 : Int) : Option (Bool) := if a0 ≥ 0 then (if a1 ≥ 0 then (if a0 ≤ 80 then (some (decide (a1 ≤ (wrap64 (80 - a0))))) else (some false)) else (some false)) else (some false)
set_option maxHeartbeats 8000000 in
set_option maxRecDepth 100000 in
theorem potsherdref12_FitsFile.calls (a0 : Int) (a1 : Int) (r : Bool) (w : World) (h : potsherdref12_FitsFile.f a0 a1 = some r) :
 Calls Try.prog 25 #[.int .i64 a0, .int .i64 a1] w fun e w' => e = .returned (.bool r) ∧ Drawn0 w w' := by
 have H : (if a0 ≥ 0 then (if a1 ≥ 0 then (if a0 ≤ 80 then (some (decide (a1 ≤ (wrap64 (80 - a0))))) else (some false)) else (some false)) else (some false)) = some r := h; clear h
 by_cases c3 : a0 ≥ 0
 ·
  rw [if_pos c3] at H; have c3b0 : decide (0 ≤ a0) = true := decide_eq_true c3; clear c3
  by_cases c4 : a1 ≥ 0
  ·
   rw [if_pos c4] at H; have c4b0 : decide (0 ≤ a1) = true := decide_eq_true c4; clear c4
   by_cases c5 : a0 ≤ 80
   ·
    rw [if_pos c5] at H; have c5b0 := decide_eq_true c5; clear c5; obtain rfl := Option.some.inj H
    go_enter Try.func25, Try.ntmps25
    go_wp2
    go_ret
    exact ⟨sI, by repeat (first | exact Drawn0.refl _ | apply Drawn0.step)⟩
   ·
    rw [if_neg c5] at H; have c5b0 := decide_eq_false c5; clear c5; obtain rfl := Option.some.inj H
    go_enter Try.func25, Try.ntmps25
    go_wp2
    go_ret
    exact ⟨sI, by repeat (first | exact Drawn0.refl _ | apply Drawn0.step)⟩
  ·
   rw [if_neg c4] at H; have c4b0 : decide (0 ≤ a1) = false := decide_eq_false c4; clear c4; obtain rfl := Option.some.inj H
   go_enter Try.func25, Try.ntmps25
   go_wp2
   go_ret
   exact ⟨sI, by repeat (first | exact Drawn0.refl _ | apply Drawn0.step)⟩
 ·
  rw [if_neg c3] at H; have c3b0 : decide (0 ≤ a0) = false := decide_eq_false c3; clear c3; obtain rfl := Option.some.inj H
  go_enter Try.func25, Try.ntmps25
  go_wp2
  go_ret
  exact ⟨sI, by repeat (first | exact Drawn0.refl _ | apply Drawn0.step)⟩
def potsherdref12_Pieces.l0 : Nat → Int → Int → List (S41) → Option ((List (S41)))
 | 0, _, _, _ => none
 | k + 1, x0, x1, x5 => if x1 > 0 then (if x5.length < 5864062014805 then (potsherdref12_Pieces.l0 k (wrap64 (x0 + (mn x1 (wrap64 (16 - (Int.tmod x0 16)))))) (wrap64 (x1 - (mn x1 (wrap64 (16 - (Int.tmod x0 16)))))) (x5 ++ [(⟨wrap64 (Int.tdiv x0 16), Int.tmod x0 16, mn x1 (wrap64 (16 - (Int.tmod x0 16)))⟩ : S41)])) else (none)) else (some x5)
def potsherdref12_Pieces.f (k : Nat) (a0 : Int) (a1 : Int) : Option ((List (S41))) := (potsherdref12_FitsFile.f a0 a1).bind fun t128 => (if t128 = true then (potsherdref12_Pieces.l0 k a0 a1 ([] : List (S41))) else (some ([] : List (S41))))
theorem potsherdref12_Pieces.mono_l : ∀ k, (∀ y0 y1 y2, LeO (potsherdref12_Pieces.l0 k y0 y1 y2) (potsherdref12_Pieces.l0 (k + 1) y0 y1 y2))
 | 0 => fun _ _ _ r h => by simp [potsherdref12_Pieces.l0] at h
 | k + 1 => by
  have ih0 := potsherdref12_Pieces.mono_l k
  ·
   intro y0 y1 y2
   unfold potsherdref12_Pieces.l0
   repeat' with_reducible first | apply ih0 | exact LeO.refl _ | exact LeO.none _ | refine LeO.ite ?_ ?_ | refine LeO.bind ?_ (fun _ => ?_)
theorem potsherdref12_Pieces.mono : ∀ a0 a1 k, LeO (potsherdref12_Pieces.f k a0 a1) (potsherdref12_Pieces.f (k + 1) a0 a1) := by
 intro a0 a1 k; have ih0 := potsherdref12_Pieces.mono_l k
 unfold potsherdref12_Pieces.f
 repeat' with_reducible first | apply ih0 | exact LeO.refl _ | exact LeO.none _ | refine LeO.ite ?_ ?_ | refine LeO.bind ?_ (fun _ => ?_)
set_option maxHeartbeats 8000000 in
set_option maxRecDepth 100000 in
theorem potsherdref12_Pieces.calls (k : Nat) (a0 : Int) (a1 : Int) (r : List (S41)) (w : World) (h : potsherdref12_Pieces.f k a0 a1 = some r) :
 Calls Try.prog 27 #[.int .i64 a0, .int .i64 a1] w fun e w' => ∃ v0_ : Value, e = .returned (v0_) ∧ Kd.R k41 41 w' w.heap.size (fun _ => True) v0_ r ∧ Below w.heap.size w w' := by
 have hu41 := Try.underlying41; have HB := Aside0.mk (Below.refl w.heap.size w); have H : ((potsherdref12_FitsFile.f a0 a1).bind fun t128 => (if t128 = true then (potsherdref12_Pieces.l0 k a0 a1 ([] : List (S41))) else (some ([] : List (S41))))) = some r := h; clear h; replace H := Option.bind_eq_some_iff.mp H; obtain ⟨t128, A30, H⟩ := H; have A3 := Aside0.mk A30; clear A30
 by_cases c4 : t128 = true
 ·
  subst c4
  have H1 : (potsherdref12_Pieces.l0 k a0 a1 ([] : List (S41))) = some r := by rw [if_pos rfl] at H; exact H
  clear H; have H := H1; clear H1; have H' := Aside0.mk H; clear H
  go_enter Try.func27, Try.ntmps27
  go_wp2_with (first | ((with_reducible refine gate_callee (f := 25) rfl ?_); refine goesK (some 10) Try.func25 #[.int .i64 a0, .int .i64 a1] ?_; (with_reducible refine (potsherdref12_FitsFile.calls a0 a1 true _ A3.out).mono ?_); rintro e w' ⟨rfl, ⟨nd, rfl⟩⟩; refine ⟨_, rfl, ?_⟩))
  go_loopg [0, 1, 5] k (fun kq v0 v1 v5 w' => ∃ (x0_1 : Int) (x1_1 : Int) (x5_1 : List (S41)), v0 = .int .i64 x0_1 ∧ v1 = .int .i64 x1_1 ∧ Aside0 (potsherdref12_Pieces.l0 kq x0_1 x1_1 x5_1 = some r) ∧ Aside0 (kq ≤ k) ∧ Aside0 (Kd.R k41 41 w' w.heap.size (fun _ => True) v5 x5_1) ∧ Aside0 (Below w.heap.size w w'))
  case atStart => exact ⟨(a0), (a1), (([] : List (S41))), sI, sI, H', ⟨Nat.le_refl _⟩, ⟨by first | exact Kd.R_nil _ _ _ _ _ | exact Kd.N_nil _ _ _ _ _ | exact Kd.V_nil _ _ _ _ _ | exact Kd.Q_nil _ _ _ _ _ | exact Kd.S_nil _ _ _ _ _⟩, ⟨mH HB⟩⟩
  case round =>
   clear H'
   (try clear c4)
   obtain ⟨x0_1, x1_1, x5_1, rfl, rfl, HA, HK1, HO_5, HB⟩ := hrel
   cases gk with
   | zero => exact absurd HA.out (by simp [potsherdref12_Pieces.l0])
   | succ k1 =>
    have H := HA.out; clear HA; simp only [potsherdref12_Pieces.l0] at H
    by_cases c5 : x1_1 > 0
    ·
     rw [if_pos c5] at H; have c5b0 : decide (0 < x1_1) = true := decide_eq_true c5; clear c5; obtain ⟨ji6, hji6⟩ : ∃ j_ : Int, (mn x1_1 (wrap64 (16 - (Int.tmod x0_1 16)))) = j_ := ⟨_, rfl⟩
     replace H : (if x5_1.length < 5864062014805 then (potsherdref12_Pieces.l0 k1 (wrap64 (x0_1 + (ji6))) (wrap64 (x1_1 - (ji6))) (x5_1 ++ [(⟨wrap64 (Int.tdiv x0_1 16), Int.tmod x0_1 16, ji6⟩ : S41)])) else (none)) = some r := by first | (rw [hji6] at H; exact H) | (simp only [hji6] at H ⊢; exact H)
     have hji6_ : (if (wrap64 (16 - (Int.tmod x0_1 16))) < x1_1 then (wrap64 (16 - (Int.tmod x0_1 16))) else x1_1) = ji6 := hji6
     replace H := nP H; obtain ⟨c7, H⟩ := H; have LMc7 := Aside0.mk c7; clear c7; obtain ⟨y129, hy129⟩ : ∃ y_ : List (S41), y_ = (x5_1 ++ [(⟨wrap64 (Int.tdiv x0_1 16), Int.tmod x0_1 16, ji6⟩ : S41)]) := ⟨_, rfl⟩
     replace H : (potsherdref12_Pieces.l0 k1 (wrap64 (x0_1 + (ji6))) (wrap64 (x1_1 - (ji6))) y129) = some r := rH H hy129
     have Ny129 := Aside0.mk hy129; clear hy129; have H' := Aside0.mk H; clear H
     go_wp2_with (first | ((with_reducible refine gate_builtin (b := .append) (xs := #[.tmp 20, .tmp 26]) rfl ?_); at_builtin; refine Kd.R_append k41 (w0 := w) w.heap.size rfl (.tmp 20) (.tmp 26) 38 41 (.agg #[(.int .i64 0), (.int .i64 0), (.int .i64 0)]) 24 rfl Try.underlying38 info41 rfl (by decide) (by omega) u5 x5_1 (⟨wrap64 (Int.tdiv x0_1 16), Int.tmod x0_1 16, ji6⟩ : S41) [.int .i64 (wrap64 (Int.tdiv x0_1 16)), .int .i64 (Int.tmod x0_1 16), .int .i64 ji6] (fun _ => True) (fun _ => False) rfl rfl ?aP (fun _ hk => hk.elim) ?aF ?aO ?aB ?aS ?aL ?_; (case aP => exact k41_mkM _ _ _ (⟨wrap64 (Int.tdiv x0_1 16), Int.tmod x0_1 16, ji6⟩ : S41)); (case aB => exact (mH HB)); (case aF => exact (fun _ _ => trivial)); (case aO => exact (mR HO_5)); (case aS => exact (below_size (mH HB))); (case aL => have := LMc7.out; omega); intro v130 w8 ho hb hg hat; rw [← Ny129.out] at ho; replace HB := Aside0.mk (hb); have HO131 := Aside0.mk (ho); clear HO_5; clear ho hb hg hat))
     go_roundg k1
     case measure => have := HK1.out; omega
     case rel => exact ⟨(wrap64 (x0_1 + (ji6))), (wrap64 (x1_1 - (ji6))), (y129), (by first | rfl | (simp; done) | (simp only [← hji6] <;> (first | rfl | simp)) | (simp [*]; done)), (by first | rfl | (simp; done) | (simp only [← hji6] <;> (first | rfl | simp)) | (simp [*]; done)), H', ⟨oK HK1⟩, ⟨mR HO131⟩, ⟨mH HB⟩⟩
    ·
     rw [if_neg c5] at H; have c5b0 : decide (0 < x1_1) = false := decide_eq_false c5; clear c5; obtain rfl := Option.some.inj H
     go_wp2
     go_ret
     exact ⟨_, rT, mR HO_5, mH HB⟩
 ·
  replace c4 := Bool.eq_false_iff.mpr c4; subst c4
  have H1 : (some ([] : List (S41))) = some r := by rw [if_neg (show ¬ (false = true) by decide)] at H; exact H
  clear H; have H := H1; clear H1; obtain rfl := Option.some.inj H
  go_enter Try.func27, Try.ntmps27
  go_wp2_with (first | ((with_reducible refine gate_callee (f := 25) rfl ?_); refine goesK (some 10) Try.func25 #[.int .i64 a0, .int .i64 a1] ?_; (with_reducible refine (potsherdref12_FitsFile.calls a0 a1 false _ A3.out).mono ?_); rintro e w' ⟨rfl, ⟨nd, rfl⟩⟩; refine ⟨_, rfl, ?_⟩))
  go_ret
  exact ⟨_, rT, by first | exact Kd.R_nil _ _ _ _ _ | exact Kd.N_nil _ _ _ _ _ | exact Kd.V_nil _ _ _ _ _ | exact Kd.Q_nil _ _ _ _ _ | exact Kd.S_nil _ _ _ _ _, mH HB⟩
mutual
def potsherdref12_More.j0 : Nat → Int → Int → Int → Bool → Int → Int → Int → List Int → List (S78) → Option (Int)
 | 0, _, _, _, _, _, _, _, _, _ => none
 | k + 1, x1, x2, x7, x17, x133000, x133001, x133002, x133003, x133004 => if x17 = true then (some 0) else ((potsherdref12_Pieces.f k x1 x2).bind fun t134 => (potsherdref12_More.l0 k x7 t134 (t134.length : Int) 0 x133000 x133001 x133002 x133003 x133004))
def potsherdref12_More.l0 : Nat → Int → List (S41) → Int → Int → Int → Int → Int → List Int → List (S78) → Option (Int)
 | 0, _, _, _, _, _, _, _, _, _ => none
 | k + 1, x7, x20, x21, x22, x133000, x133001, x133002, x133003, x133004 => if x22 < x21 then (if 0 ≤ x22 then (if x22 < (x20.length : Int) then (if 0 ≤ ((rd_T41 x20 x22).f0) then (if ((rd_T41 x20 x22).f0) < (x133003.length : Int) then (if (rd x133003 ((rd_T41 x20 x22).f0)) = 0 then (potsherdref12_More.l0 k (wrap64 (x7 + 1)) x20 x21 (wrap64 (x22 + 1)) x133000 x133001 x133002 x133003 x133004) else (potsherdref12_More.l0 k x7 x20 x21 (wrap64 (x22 + 1)) x133000 x133001 x133002 x133003 x133004)) else (none)) else (none)) else (none)) else (none)) else (some x7)
end
def potsherdref12_More.f (k : Nat) (a0_0 : Int) (a0_1 : Int) (a0_2 : Int) (l0_3 : List Int) (l0_4 : List (S78)) (a1 : Int) (a2 : Int) : Option (Int) := if a0_0 = 1 then ((potsherdref12_MayNode.f k a0_0 a0_1 a0_2 l0_3 l0_4).bind fun t133 => (potsherdref12_More.j0 k a1 a2 0 (!t133) a0_0 a0_1 a0_2 l0_3 l0_4)) else (potsherdref12_More.j0 k a1 a2 0 true a0_0 a0_1 a0_2 l0_3 l0_4)
theorem potsherdref12_More.mono_l : ∀ k, (∀ y0 y1 y2 y3 y4 y5 y6 y7 y8, LeO (potsherdref12_More.j0 k y0 y1 y2 y3 y4 y5 y6 y7 y8) (potsherdref12_More.j0 (k + 1) y0 y1 y2 y3 y4 y5 y6 y7 y8)) ∧ (∀ y0 y1 y2 y3 y4 y5 y6 y7 y8, LeO (potsherdref12_More.l0 k y0 y1 y2 y3 y4 y5 y6 y7 y8) (potsherdref12_More.l0 (k + 1) y0 y1 y2 y3 y4 y5 y6 y7 y8))
 | 0 => ⟨fun _ _ _ _ _ _ _ _ _ r h => by simp [potsherdref12_More.j0] at h, fun _ _ _ _ _ _ _ _ _ r h => by simp [potsherdref12_More.l0] at h⟩
 | k + 1 => by
  obtain ⟨ih0, ih1⟩ := potsherdref12_More.mono_l k; refine ⟨?_, ?_⟩
  ·
   intro y0 y1 y2 y3 y4 y5 y6 y7 y8
   unfold potsherdref12_More.j0
   repeat' with_reducible first | apply ih0 | apply ih1 | apply potsherdref12_MayNode.mono | apply potsherdref12_Pieces.mono | exact LeO.refl _ | exact LeO.none _ | refine LeO.ite ?_ ?_ | refine LeO.bind ?_ (fun _ => ?_)
  ·
   intro y0 y1 y2 y3 y4 y5 y6 y7 y8
   unfold potsherdref12_More.l0
   repeat' with_reducible first | apply ih0 | apply ih1 | apply potsherdref12_MayNode.mono | apply potsherdref12_Pieces.mono | exact LeO.refl _ | exact LeO.none _ | refine LeO.ite ?_ ?_ | refine LeO.bind ?_ (fun _ => ?_)
theorem potsherdref12_More.mono : ∀ a0 a1 a2 a3 a4 a5 a6 k, LeO (potsherdref12_More.f k a0 a1 a2 a3 a4 a5 a6) (potsherdref12_More.f (k + 1) a0 a1 a2 a3 a4 a5 a6) := by
 intro a0 a1 a2 a3 a4 a5 a6 k; obtain ⟨ih0, ih1⟩ := potsherdref12_More.mono_l k
 unfold potsherdref12_More.f
 repeat' with_reducible first | apply ih0 | apply ih1 | apply potsherdref12_MayNode.mono | apply potsherdref12_Pieces.mono | exact LeO.refl _ | exact LeO.none _ | refine LeO.ite ?_ ?_ | refine LeO.bind ?_ (fun _ => ?_)
set_option maxHeartbeats 8000000 in
set_option maxRecDepth 100000 in
theorem potsherdref12_More.calls (k : Nat) (a0_0 : Int) (a0_1 : Int) (a0_2 : Int) (A0_3 : Option Addr) (c0_3 : Nat) (l0_3 : List Int) (A0_4 : Option Addr) (c0_4 : Nat) (l0_4 : List (S78)) (a1 : Int) (a2 : Int) (r : Int) (w : World) (hr0_3 : Kd.C (Kd.int .i64) w A0_3 l0_3.length l0_3) (hc0_3 : l0_3.length ≤ c0_3) (hr0_4 : Kd.C k78 w A0_4 l0_4.length l0_4) (hc0_4 : l0_4.length ≤ c0_4) (h : potsherdref12_More.f k a0_0 a0_1 a0_2 l0_3 l0_4 a1 a2 = some r) :
 Calls Try.prog 23 #[.agg #[.int .i64 a0_0, .int .i64 a0_1, .int .i64 a0_2, .slice A0_3 l0_3.length c0_3, .slice A0_4 l0_4.length c0_4], .int .i64 a1, .int .i64 a2] w fun e w' => e = .returned (.int .i64 r) ∧ Below w.heap.size w w' := by
 have hu28 := Try.underlying28; have hu41 := Try.underlying41; have HR0_3 := Aside0.mk hr0_3; have HC0_3 := Aside0.mk hc0_3; clear hr0_3 hc0_3; have HR0_4 := Aside0.mk hr0_4; have HC0_4 := Aside0.mk hc0_4; clear hr0_4 hc0_4; have HB := Aside0.mk (Below.refl w.heap.size w); have H : (if a0_0 = 1 then ((potsherdref12_MayNode.f k a0_0 a0_1 a0_2 l0_3 l0_4).bind fun t133 => (potsherdref12_More.j0 k a1 a2 0 (!t133) a0_0 a0_1 a0_2 l0_3 l0_4)) else (potsherdref12_More.j0 k a1 a2 0 true a0_0 a0_1 a0_2 l0_3 l0_4)) = some r := h; clear h; have HC4 := Aside0.mk H; clear H
 go_enter Try.func23, Try.ntmps23
 go_upto_region 2 with (first | ((with_reducible refine gate_dst (N := 3) rfl ?_); refine bxE 28 (cs := #[.int .i64 a0_0, .int .i64 a0_1, .int .i64 a0_2, .slice A0_3 l0_3.length c0_3, .slice A0_4 l0_4.length c0_4]) ?_; intro gb132 hg w5 hbox hb; have BK132 := Aside0.mk hbox; have GW132 := kG HB hg; have GE132 := kG HB hg; replace HB := kH HB hb; clear hb hbox hg))
 (try simp only [Act.put, lT, l0_, lS])
 go_cut [17] (fun v17 wc => ∃ (kq : Nat) (x17_3 : Bool), v17 = .bool x17_3 ∧ Aside0 (potsherdref12_More.j0 kq a1 a2 0 x17_3 a0_0 a0_1 a0_2 l0_3 l0_4 = some r) ∧ Aside0 (kq ≤ k) ∧ Aside0 (wc.heap[gb132]? = some (.cells #[.int .i64 a0_0, .int .i64 a0_1, .int .i64 a0_2, (.slice A0_3 l0_3.length c0_3), (.slice A0_4 l0_4.length c0_4)] 28 (0, 0))) ∧ Aside0 (Below w.heap.size w wc))
 case first =>
  have H := HC4.out; clear HC4
  by_cases c6 : a0_0 = 1
  ·
   rw [if_pos c6] at H; obtain ⟨c6b0, c6b1⟩ := eP c6; clear c6
   (first | rw [c6b0] | (simp only [i64_w, i32_w]; rw [c6b0]) | skip)
   replace H := Option.bind_eq_some_iff.mp H; obtain ⟨t133, A70, H⟩ := H; have A7 := Aside0.mk A70; clear A70; have H' := Aside0.mk H; clear H; obtain ⟨hcz8_0, hfz8_0⟩ := cY0 BK132; obtain ⟨hcz8_1, hfz8_1⟩ := cY1 BK132; obtain ⟨hcz8_2, hfz8_2⟩ := cY2 BK132; obtain ⟨hcz8_3, hfz8_3⟩ := cY3 BK132; obtain ⟨hcz8_4, hfz8_4⟩ := cY4 BK132
   go_wp2_with (first | (go_at_call 24; (with_reducible refine (potsherdref12_MayNode.calls k a0_0 a0_1 a0_2 _ _ l0_3 _ _ l0_4 t133 _ ?side1 ?side2 ?side3 ?side4 A7.out).mono ?_); (case side1 => exact mC HR0_3 HB); (case side2 => exact HC0_3.out); (case side3 => exact mC HR0_4 HB); (case side4 => exact HC0_4.out); rintro e w9 ⟨rfl, hb⟩; replace BK132 := kB BK132 hb; replace HB := kH HB hb; (try clear hb)))
   go_meet
   case rel => exact ⟨_, (!t133), sI, H', ⟨by first | omega | exact Nat.le_refl _⟩, ⟨mB BK132⟩, ⟨mH HB⟩⟩
  ·
   rw [if_neg c6] at H; obtain ⟨c6b0, c6b1⟩ := eN c6
   (first | rw [c6b0] | (simp only [i64_w, i32_w]; rw [c6b0]) | skip)
   have H' := Aside0.mk H; clear H; obtain ⟨hcz10_0, hfz10_0⟩ := cY0 BK132; obtain ⟨hcz10_1, hfz10_1⟩ := cY1 BK132; obtain ⟨hcz10_2, hfz10_2⟩ := cY2 BK132; obtain ⟨hcz10_3, hfz10_3⟩ := cY3 BK132; obtain ⟨hcz10_4, hfz10_4⟩ := cY4 BK132
   go_wp2
   go_meet
   case rel => exact ⟨_, (true), sI, H', ⟨by first | omega | exact Nat.le_refl _⟩, ⟨mB BK132⟩, ⟨mH HB⟩⟩
 case rest =>
  clear HC4
  obtain ⟨kq, x17_3, rfl, HA, HJ3, BK132, HB⟩ := hcut
  cases kq with
  | zero => exact absurd HA.out (by simp [potsherdref12_More.j0])
  | succ kj3 =>
   have H := HA.out; clear HA; simp only [potsherdref12_More.j0] at H
   by_cases c11 : x17_3 = true
   ·
    subst c11
    have H1 : (some 0) = some r := by rw [if_pos rfl] at H; exact H
    clear H; have H := H1; clear H1; obtain rfl := Option.some.inj H
    go_wp2
    go_ret
    exact ⟨rT, mH HB⟩
   ·
    replace c11 := Bool.eq_false_iff.mpr c11; subst c11
    have H1 : ((potsherdref12_Pieces.f kj3 a1 a2).bind fun t134 => (potsherdref12_More.l0 kj3 0 t134 (t134.length : Int) 0 a0_0 a0_1 a0_2 l0_3 l0_4)) = some r := by rw [if_neg (show ¬ (false = true) by decide)] at H; exact H
    clear H; have H := H1; clear H1; replace H := Option.bind_eq_some_iff.mp H; obtain ⟨t134, A120, H⟩ := H; have A12 := Aside0.mk A120; clear A120; have H' := Aside0.mk H; clear H
    go_wp2_with (first | ((with_reducible refine gate_callee (f := 27) rfl ?_); refine goesK (some 20) Try.func27 #[.int .i64 a1, .int .i64 a2] ?_; (with_reducible refine (potsherdref12_Pieces.calls kj3 a1 a2 t134 _ A12.out).mono ?_); rintro e w13 ⟨v135, rfl, ho0, hb⟩; refine ⟨_, rfl, ?_⟩; have HO136 := Aside0.mk (Kd.R_lower ho0 (below_size (mH HB))); replace BK132 := kB BK132 hb; replace HB := kH HB hb; (try clear hb); (try clear ho0); obtain ⟨Ao14, co14, eo14⟩ := Kd.R_slice HO136.out; subst eo14))
    go_loopg [7, 22] kj3 (fun kq v7 v22 w' => ∃ (x7_2 : Int) (x22_2 : Int), v7 = .int .i64 x7_2 ∧ v22 = .int .i64 x22_2 ∧ Aside0 (potsherdref12_More.l0 kq x7_2 t134 (t134.length : Int) x22_2 a0_0 a0_1 a0_2 l0_3 l0_4 = some r) ∧ Aside0 (kq ≤ kj3) ∧ Aside0 (Kd.R k41 41 w' w.heap.size (fun _ => True) (.slice Ao14 t134.length co14) t134) ∧ Aside0 (w'.heap[gb132]? = some (.cells #[.int .i64 a0_0, .int .i64 a0_1, .int .i64 a0_2, (.slice A0_3 l0_3.length c0_3), (.slice A0_4 l0_4.length c0_4)] 28 (0, 0))) ∧ Aside0 (Below w.heap.size w w'))
    case atStart => exact ⟨(0), (0), sI, sI, H', ⟨Nat.le_refl _⟩, ⟨mR HO136⟩, ⟨mB BK132⟩, ⟨mH HB⟩⟩
    case round =>
     clear H'
     (try clear c11)
     obtain ⟨x7_2, x22_2, rfl, rfl, HA, HK2, HO_20, BK132, HB⟩ := hrel
     cases gk with
     | zero => exact absurd HA.out (by simp [potsherdref12_More.l0])
     | succ k2 =>
      have H := HA.out; clear HA; simp only [potsherdref12_More.l0] at H
      by_cases c15 : x22_2 < (t134.length : Int)
      ·
       rw [if_pos c15] at H; have c15b0 := decide_eq_true c15; clear c15
       replace H := nP H; obtain ⟨c16, H⟩ := H; have c16b0 := decide_eq_true c16; clear c16
       replace H := nP H; obtain ⟨c17, H⟩ := H; have c17b0 := decide_eq_true c17; clear c17
       replace H := nP H; obtain ⟨c18, H⟩ := H; have c18b0 := decide_eq_true c18; clear c18
       replace H := nP H; obtain ⟨c19, H⟩ := H; have c19b0 := decide_eq_true c19; clear c19
       by_cases c20 : (rd l0_3 ((rd_T41 t134 x22_2).f0)) = 0
       ·
        rw [if_pos c20] at H; obtain ⟨c20b0, c20b1⟩ := eP c20; clear c20; have H' := Aside0.mk H; clear H; have p137 : 0 ≤ (x22_2 : Int) := dT; have q137 : x22_2 < (t134.length : Int) := dT; obtain ⟨ad137, e137, hx137_0, hx137_1, hx137_2⟩ := at_T41 (Kd.R_reads' HO_20.out).2.2 x22_2 p137 q137
        cases e137
        replace p137 := eq_true p137; replace q137 := eq_true q137
        go_wp2_with (first | ((with_reducible refine gate_dst (N := 9) rfl ?_); refine bxE 41 (cs := #[.int .i64 0, .int .i64 0, .int .i64 0]) ?_; intro gb138 hg w21 hbox hb; replace HO_20 := Aside0.mk (Kd.R_below (Kd.R_elderB (mR HO_20) gb138 (Nat.le_of_eq hg.symm)) hb); have BK138 := Aside0.mk hbox; have GW138 := kG HB hg; have GE138 := kG HB hg; replace HB := kH HB hb; have NB132_138 := kL BK132 hg; have NB138_132 := kQ BK132 hg; replace BK132 := kB BK132 hb; clear hb hbox hg; have hnb22 := NB138_132.out; have hnc22 := NB132_138.out; obtain ⟨hcz23_0, hfz23_0⟩ := cY0 BK138; obtain ⟨hcz23_1, hfz23_1⟩ := cY1 BK138; obtain ⟨hcz23_2, hfz23_2⟩ := cY2 BK138; obtain ⟨hcz24_0, hfz24_0⟩ := cY0 BK132; obtain ⟨hcz24_1, hfz24_1⟩ := cY1 BK132; obtain ⟨hcz24_2, hfz24_2⟩ := cY2 BK132; obtain ⟨hcz24_3, hfz24_3⟩ := cY3 BK132; obtain ⟨hcz24_4, hfz24_4⟩ := cY4 BK132; have p139 : 0 ≤ (((rd_T41 t134 x22_2).f0) : Int) := dT; have q139 : ((rd_T41 t134 x22_2).f0) < (l0_3.length : Int) := dT; obtain ⟨ad139, e139, hx139_0⟩ := Kd.at_int HR0_3.out ((rd_T41 t134 x22_2).f0) p139 q139; cases e139; have hn139_0 : ad139.block ≠ gb138 := Nat.ne_of_lt (Nat.lt_of_lt_of_le (by have := World.block_lt_of_cell? _ _ hx139_0; first | rwa [add_block] at this | exact this) GW138.out); have hn139_1 : ad139.block ≠ gb138 := Nat.ne_of_lt (Nat.lt_of_lt_of_le (by have := World.block_lt_of_cell? _ _ hx139_0; first | rwa [add_block] at this | exact this) GW138.out); have hn139_2 : ad139.block ≠ gb138 := Nat.ne_of_lt (Nat.lt_of_lt_of_le (by have := World.block_lt_of_cell? _ _ hx139_0; first | rwa [add_block] at this | exact this) GW138.out); replace hx139_0 := xC HB hx139_0; replace hx139_0 := (cell_far (p := ⟨gb138, 0, none⟩) (by first | (rw [add_block]; exact hn139_0) | (show (Addr.add _ _).block ≠ _; rw [add_block]; exact hn139_0) | exact hn139_0) (.int .i64 ((rd_T41 t134 x22_2).f0))).trans hx139_0; replace hx139_0 := (cell_far (p := ⟨gb138, 1, none⟩) (by first | (rw [add_block]; exact hn139_1) | (show (Addr.add _ _).block ≠ _; rw [add_block]; exact hn139_1) | exact hn139_1) (.int .i64 ((rd_T41 t134 x22_2).f1))).trans hx139_0; replace hx139_0 := (cell_far (p := ⟨gb138, 2, none⟩) (by first | (rw [add_block]; exact hn139_2) | (show (Addr.add _ _).block ≠ _; rw [add_block]; exact hn139_2) | exact hn139_2) (.int .i64 ((rd_T41 t134 x22_2).f2))).trans hx139_0; clear hn139_0; clear hn139_1; clear hn139_2; replace p139 := eq_true p139; replace q139 := eq_true q139))
        go_roundg k2
        case measure => have := HJ3.out; have := HK2.out; omega
        case rel => exact ⟨(wrap64 (x7_2 + 1)), (wrap64 (x22_2 + 1)), sI, sI, H', ⟨oM HJ3 HK2⟩, ⟨fR HO_20⟩, ⟨mF BK132⟩, ⟨mH HB⟩⟩
       ·
        rw [if_neg c20] at H; obtain ⟨c20b0, c20b1⟩ := eN c20; have H' := Aside0.mk H; clear H; have p137 : 0 ≤ (x22_2 : Int) := dT; have q137 : x22_2 < (t134.length : Int) := dT; obtain ⟨ad137, e137, hx137_0, hx137_1, hx137_2⟩ := at_T41 (Kd.R_reads' HO_20.out).2.2 x22_2 p137 q137
        cases e137
        replace p137 := eq_true p137; replace q137 := eq_true q137
        go_wp2_with (first | ((with_reducible refine gate_dst (N := 9) rfl ?_); refine bxE 41 (cs := #[.int .i64 0, .int .i64 0, .int .i64 0]) ?_; intro gb138 hg w25 hbox hb; replace HO_20 := Aside0.mk (Kd.R_below (Kd.R_elderB (mR HO_20) gb138 (Nat.le_of_eq hg.symm)) hb); have BK138 := Aside0.mk hbox; have GW138 := kG HB hg; have GE138 := kG HB hg; replace HB := kH HB hb; have NB132_138 := kL BK132 hg; have NB138_132 := kQ BK132 hg; replace BK132 := kB BK132 hb; clear hb hbox hg; have hnb26 := NB138_132.out; have hnc26 := NB132_138.out; obtain ⟨hcz27_0, hfz27_0⟩ := cY0 BK138; obtain ⟨hcz27_1, hfz27_1⟩ := cY1 BK138; obtain ⟨hcz27_2, hfz27_2⟩ := cY2 BK138; obtain ⟨hcz28_0, hfz28_0⟩ := cY0 BK132; obtain ⟨hcz28_1, hfz28_1⟩ := cY1 BK132; obtain ⟨hcz28_2, hfz28_2⟩ := cY2 BK132; obtain ⟨hcz28_3, hfz28_3⟩ := cY3 BK132; obtain ⟨hcz28_4, hfz28_4⟩ := cY4 BK132; have p139 : 0 ≤ (((rd_T41 t134 x22_2).f0) : Int) := dT; have q139 : ((rd_T41 t134 x22_2).f0) < (l0_3.length : Int) := dT; obtain ⟨ad139, e139, hx139_0⟩ := Kd.at_int HR0_3.out ((rd_T41 t134 x22_2).f0) p139 q139; cases e139; have hn139_0 : ad139.block ≠ gb138 := Nat.ne_of_lt (Nat.lt_of_lt_of_le (by have := World.block_lt_of_cell? _ _ hx139_0; first | rwa [add_block] at this | exact this) GW138.out); have hn139_1 : ad139.block ≠ gb138 := Nat.ne_of_lt (Nat.lt_of_lt_of_le (by have := World.block_lt_of_cell? _ _ hx139_0; first | rwa [add_block] at this | exact this) GW138.out); have hn139_2 : ad139.block ≠ gb138 := Nat.ne_of_lt (Nat.lt_of_lt_of_le (by have := World.block_lt_of_cell? _ _ hx139_0; first | rwa [add_block] at this | exact this) GW138.out); replace hx139_0 := xC HB hx139_0; replace hx139_0 := (cell_far (p := ⟨gb138, 0, none⟩) (by first | (rw [add_block]; exact hn139_0) | (show (Addr.add _ _).block ≠ _; rw [add_block]; exact hn139_0) | exact hn139_0) (.int .i64 ((rd_T41 t134 x22_2).f0))).trans hx139_0; replace hx139_0 := (cell_far (p := ⟨gb138, 1, none⟩) (by first | (rw [add_block]; exact hn139_1) | (show (Addr.add _ _).block ≠ _; rw [add_block]; exact hn139_1) | exact hn139_1) (.int .i64 ((rd_T41 t134 x22_2).f1))).trans hx139_0; replace hx139_0 := (cell_far (p := ⟨gb138, 2, none⟩) (by first | (rw [add_block]; exact hn139_2) | (show (Addr.add _ _).block ≠ _; rw [add_block]; exact hn139_2) | exact hn139_2) (.int .i64 ((rd_T41 t134 x22_2).f2))).trans hx139_0; clear hn139_0; clear hn139_1; clear hn139_2; replace p139 := eq_true p139; replace q139 := eq_true q139))
        go_roundg k2
        case measure => have := HJ3.out; have := HK2.out; omega
        case rel => exact ⟨(x7_2), (wrap64 (x22_2 + 1)), sI, sI, H', ⟨oM HJ3 HK2⟩, ⟨fR HO_20⟩, ⟨mF BK132⟩, ⟨mH HB⟩⟩
      ·
       rw [if_neg c15] at H; have c15b0 := decide_eq_false c15; clear c15; obtain rfl := Option.some.inj H
       go_wp2
       go_ret
       exact ⟨rT, mH HB⟩
end Go.Proofs.Ytkigiehkckjlhaa.PSpace
