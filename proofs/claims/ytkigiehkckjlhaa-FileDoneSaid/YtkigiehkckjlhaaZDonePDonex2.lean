/- The Go functions that these laws reach, each as a Lean function with the same answers (a law itself where it answers true), and the proof that the code comes to them; conditions: those of each theorem. Laid by a program of this session over the print. -/
import Derived.Test.YtkigiehkckjlhaaZDonePDoneShort
import Derived.Test.YtkigiehkckjlhaaZDonePDonex0
namespace Go.Proofs.Ytkigiehkckjlhaa.PDone
open Go.RowKit Go.Proofs.YtkigiehkckjlhaaW.PrintWords Go.Proofs.YtkigiehkckjlhaaW.PrintLast Go.Proofs.YtkigiehkckjlhaaW.PrintMore
attribute [local go_sem] max2_int min2_int max_two min_two max_three min_three max_four min_four   -- for this text's walks alone
set_option linter.unusedVariables false
set_option linter.unusedSimpArgs false
open Go.Proofs.YtkigiehkckjlhaaW.PrintWords renaming blk_drewN → bN, blk_drew → bD, blk_alloc → bA, below_set → wS, below_alloc → wA, pw_below_drewN → wN, below_drew1 → wD, blk_below → bB, blk_far → bF, blk_cell → bC, blk_frozen → bZ
open List renaming setIfInBounds_toArray → lT, set_cons_zero → l0_, set_cons_succ → lS
def potsherdlaw13_Light.l0 : Nat → List (S78) → Int → List (S78) → Int → Int → Option (Int)
 | 0, _, _, _, _, _ => none
 | k + 1, x0, x3, x6, x7, x8 => if x8 < x7 then (if 0 ≤ x8 then (if x8 < (x6.length : Int) then (potsherdlaw13_Light.l0 k x0 (wrap64 (x3 + (((rd_T78 x6 x8).f0).size : Int))) x6 x7 (wrap64 (x8 + 1))) else (none)) else (none)) else (if (x0.length : Int) > 60 then (some 1) else (if x3 > 1000 then (some 1) else (some 0)))
def potsherdlaw13_Light.f (k : Nat) (l0 : List (S78)) : Option (Int) := potsherdlaw13_Light.l0 k l0 0 l0 (l0.length : Int) 0
theorem potsherdlaw13_Light.mono_l : ∀ k, (∀ y0 y1 y2 y3 y4, LeO (potsherdlaw13_Light.l0 k y0 y1 y2 y3 y4) (potsherdlaw13_Light.l0 (k + 1) y0 y1 y2 y3 y4))
 | 0 => fun _ _ _ _ _ r h => by simp [potsherdlaw13_Light.l0] at h
 | k + 1 => by
  have ih0 := potsherdlaw13_Light.mono_l k
  ·
   intro y0 y1 y2 y3 y4
   unfold potsherdlaw13_Light.l0
   repeat' with_reducible first | apply ih0 | exact LeO.refl _ | exact LeO.none _ | refine LeO.ite ?_ ?_ | refine LeO.bind ?_ (fun _ => ?_)
theorem potsherdlaw13_Light.mono : ∀ a0 k, LeO (potsherdlaw13_Light.f k a0) (potsherdlaw13_Light.f (k + 1) a0) := by
 intro a0 k; have ih0 := potsherdlaw13_Light.mono_l k
 unfold potsherdlaw13_Light.f
 repeat' with_reducible first | apply ih0 | exact LeO.refl _ | exact LeO.none _ | refine LeO.ite ?_ ?_ | refine LeO.bind ?_ (fun _ => ?_)
set_option maxHeartbeats 8000000 in
set_option maxRecDepth 100000 in
theorem potsherdlaw13_Light.calls (k : Nat) (A0 : Option Addr) (c0 : Nat) (l0 : List (S78)) (r : Int) (w : World) (hr0 : Kd.C k78 w A0 l0.length l0) (hc0 : l0.length ≤ c0) (h : potsherdlaw13_Light.f k l0 = some r) :
 Calls Try.prog 43 #[.slice A0 l0.length c0] w fun e w' => e = .returned (.int .i64 r) ∧ Below w.heap.size w w' := by
 have hu78 := Try.underlying78; have HR0 := Aside0.mk hr0; have HC0 := Aside0.mk hc0; clear hr0 hc0; have HB := Aside0.mk (Below.refl w.heap.size w); have H : (potsherdlaw13_Light.l0 k l0 0 l0 (l0.length : Int) 0) = some r := h; clear h; have H' := Aside0.mk H; clear H
 go_enter Try.func43, Try.ntmps43
 go_wp2
 go_loopg [3, 8] k (fun kq v3 v8 w' => ∃ (x3_1 : Int) (x8_1 : Int), v3 = .int .i64 x3_1 ∧ v8 = .int .i64 x8_1 ∧ Aside0 (potsherdlaw13_Light.l0 kq l0 x3_1 l0 (l0.length : Int) x8_1 = some r) ∧ Aside0 (kq ≤ k) ∧ Aside0 (Below w.heap.size w w'))
 case atStart => exact ⟨(0), (0), sI, sI, H', ⟨Nat.le_refl _⟩, ⟨mH HB⟩⟩
 case round =>
  clear H'; obtain ⟨x3_1, x8_1, rfl, rfl, HA, HK1, HB⟩ := hrel
  cases gk with
  | zero => exact absurd HA.out (by simp [potsherdlaw13_Light.l0])
  | succ k1 =>
   have H := HA.out; clear HA; simp only [potsherdlaw13_Light.l0] at H
   by_cases c2 : x8_1 < (l0.length : Int)
   ·
    rw [if_pos c2] at H; have c2b0 := decide_eq_true c2; clear c2
    replace H := nP H; obtain ⟨c3, H⟩ := H; have c3b0 := decide_eq_true c3; clear c3
    replace H := nP H; obtain ⟨c4, H⟩ := H; have c4b0 := decide_eq_true c4; clear c4; have H' := Aside0.mk H; clear H; have p101 : 0 ≤ (x8_1 : Int) := dT; have q101 : x8_1 < (l0.length : Int) := dT; obtain ⟨ad101, e101, hx101_0, hx101_1⟩ := at_T78 HR0.out x8_1 p101 q101
    cases e101
    replace hx101_0 := xC HB hx101_0; replace hx101_1 := xC HB hx101_1; replace p101 := eq_true p101; replace q101 := eq_true q101
    go_wp2_with (first | ((with_reducible refine gate_dst (N := 5) rfl ?_); refine bxE 78 (cs := #[.string (⟨#[]⟩ : ByteArray), .int .i64 0]) ?_; intro gb102 hg w5 hbox hb; have BK102 := Aside0.mk hbox; have GW102 := kG HB hg; have GE102 := kG HB hg; replace HB := kH HB hb; clear hb hbox hg; obtain ⟨hcz6_0, hfz6_0⟩ := cY0 BK102; obtain ⟨hcz6_1, hfz6_1⟩ := cY1 BK102))
    go_roundg k1
    case measure => have := HK1.out; omega
    case rel => exact ⟨(wrap64 (x3_1 + (((rd_T78 l0 x8_1).f0).size : Int))), (wrap64 (x8_1 + 1)), sI, sI, H', ⟨oK HK1⟩, ⟨mH HB⟩⟩
   ·
    rw [if_neg c2] at H; have c2b0 := decide_eq_false c2; clear c2
    by_cases c7 : (l0.length : Int) > 60
    ·
     rw [if_pos c7] at H; have c7b0 : decide (60 < (l0.length : Int)) = true := decide_eq_true c7; have c7b1 : decide (60 < l0.length) = true := decide_eq_true (by omega); clear c7; obtain rfl := Option.some.inj H
     go_wp2
     go_ret
     exact ⟨rT, mH HB⟩
    ·
     rw [if_neg c7] at H; have c7b0 : decide (60 < (l0.length : Int)) = false := decide_eq_false c7; have c7b1 : decide (60 < l0.length) = false := decide_eq_false (by omega); clear c7
     by_cases c8 : x3_1 > 1000
     ·
      rw [if_pos c8] at H; have c8b0 : decide (1000 < x3_1) = true := decide_eq_true c8; clear c8; obtain rfl := Option.some.inj H
      go_wp2
      go_ret
      exact ⟨rT, mH HB⟩
     ·
      rw [if_neg c8] at H; have c8b0 : decide (1000 < x3_1) = false := decide_eq_false c8; clear c8; obtain rfl := Option.some.inj H
      go_wp2
      go_ret
      exact ⟨rT, mH HB⟩
def potsherdlaw14_Light.f (k : Nat) (a0_0 : Int) (a0_1 : Int) (a0_2 : Int) (l0_3 : List Int) (l0_4 : List (S78)) : Option (Int) := if (l0_3.length : Int) > 60 then (some 1) else ((potsherdlaw13_Light.f k l0_4).bind fun t104 => (some t104))
theorem potsherdlaw14_Light.mono : ∀ a0 a1 a2 a3 a4 k, LeO (potsherdlaw14_Light.f k a0 a1 a2 a3 a4) (potsherdlaw14_Light.f (k + 1) a0 a1 a2 a3 a4) := by
 intro a0 a1 a2 a3 a4 k
 unfold potsherdlaw14_Light.f
 repeat' with_reducible first | apply potsherdlaw13_Light.mono | exact LeO.refl _ | exact LeO.none _ | refine LeO.ite ?_ ?_ | refine LeO.bind ?_ (fun _ => ?_)
set_option maxHeartbeats 8000000 in
set_option maxRecDepth 100000 in
theorem potsherdlaw14_Light.calls (k : Nat) (a0_0 : Int) (a0_1 : Int) (a0_2 : Int) (A0_3 : Option Addr) (c0_3 : Nat) (l0_3 : List Int) (A0_4 : Option Addr) (c0_4 : Nat) (l0_4 : List (S78)) (r : Int) (w : World) (hr0_3 : Kd.C (Kd.int .i64) w A0_3 l0_3.length l0_3) (hc0_3 : l0_3.length ≤ c0_3) (hr0_4 : Kd.C k78 w A0_4 l0_4.length l0_4) (hc0_4 : l0_4.length ≤ c0_4) (h : potsherdlaw14_Light.f k a0_0 a0_1 a0_2 l0_3 l0_4 = some r) :
 Calls Try.prog 14 #[.agg #[.int .i64 a0_0, .int .i64 a0_1, .int .i64 a0_2, .slice A0_3 l0_3.length c0_3, .slice A0_4 l0_4.length c0_4]] w fun e w' => e = .returned (.int .i64 r) ∧ Below w.heap.size w w' := by
 have hu28 := Try.underlying28; have HR0_3 := Aside0.mk hr0_3; have HC0_3 := Aside0.mk hc0_3; clear hr0_3 hc0_3; have HR0_4 := Aside0.mk hr0_4; have HC0_4 := Aside0.mk hc0_4; clear hr0_4 hc0_4; have HB := Aside0.mk (Below.refl w.heap.size w); have H : (if (l0_3.length : Int) > 60 then (some 1) else ((potsherdlaw13_Light.f k l0_4).bind fun t104 => (some t104))) = some r := h; clear h
 by_cases c2 : (l0_3.length : Int) > 60
 ·
  rw [if_pos c2] at H; have c2b0 : decide (60 < (l0_3.length : Int)) = true := decide_eq_true c2; have c2b1 : decide (60 < l0_3.length) = true := decide_eq_true (by omega); clear c2; obtain rfl := Option.some.inj H
  go_enter Try.func14, Try.ntmps14
  go_wp2_with (first | ((with_reducible refine gate_dst (N := 1) rfl ?_); refine bxE 28 (cs := #[.int .i64 a0_0, .int .i64 a0_1, .int .i64 a0_2, .slice A0_3 l0_3.length c0_3, .slice A0_4 l0_4.length c0_4]) ?_; intro gb103 hg w3 hbox hb; have BK103 := Aside0.mk hbox; have GW103 := kG HB hg; have GE103 := kG HB hg; replace HB := kH HB hb; clear hb hbox hg; obtain ⟨hcz4_0, hfz4_0⟩ := cY0 BK103; obtain ⟨hcz4_1, hfz4_1⟩ := cY1 BK103; obtain ⟨hcz4_2, hfz4_2⟩ := cY2 BK103; obtain ⟨hcz4_3, hfz4_3⟩ := cY3 BK103; obtain ⟨hcz4_4, hfz4_4⟩ := cY4 BK103))
  go_ret
  exact ⟨rT, mH HB⟩
 ·
  rw [if_neg c2] at H; have c2b0 : decide (60 < (l0_3.length : Int)) = false := decide_eq_false c2; have c2b1 : decide (60 < l0_3.length) = false := decide_eq_false (by omega); clear c2; replace H := Option.bind_eq_some_iff.mp H; obtain ⟨t104, A50, H⟩ := H; have A5 := Aside0.mk A50; clear A50; obtain rfl := Option.some.inj H
  go_enter Try.func14, Try.ntmps14
  go_wp2_with (first | ((with_reducible refine gate_dst (N := 1) rfl ?_); refine bxE 28 (cs := #[.int .i64 a0_0, .int .i64 a0_1, .int .i64 a0_2, .slice A0_3 l0_3.length c0_3, .slice A0_4 l0_4.length c0_4]) ?_; intro gb103 hg w6 hbox hb; have BK103 := Aside0.mk hbox; have GW103 := kG HB hg; have GE103 := kG HB hg; replace HB := kH HB hb; clear hb hbox hg; obtain ⟨hcz7_0, hfz7_0⟩ := cY0 BK103; obtain ⟨hcz7_1, hfz7_1⟩ := cY1 BK103; obtain ⟨hcz7_2, hfz7_2⟩ := cY2 BK103; obtain ⟨hcz7_3, hfz7_3⟩ := cY3 BK103; obtain ⟨hcz7_4, hfz7_4⟩ := cY4 BK103) | ((with_reducible refine gate_callee (f := 43) rfl ?_); refine goesK (some 9) Try.func43 #[.slice A0_4 l0_4.length c0_4] ?_; (with_reducible refine (potsherdlaw13_Light.calls k _ _ l0_4 t104 _ ?side1 ?side2 A5.out).mono ?_); (case side1 => exact mC HR0_4 HB); (case side2 => exact HC0_4.out); rintro e w8 ⟨rfl, hb⟩; refine ⟨_, rfl, ?_⟩; replace BK103 := kB BK103 hb; replace HB := kH HB hb; (try clear hb)))
  go_ret
  exact ⟨rT, mH HB⟩
def potsherdlaw15_Light.l0 : Nat → Int → List (S28) → Int → Int → Option (Int)
 | 0, _, _, _, _ => none
 | k + 1, x3, x11, x12, x13 => if x13 < x12 then (if 0 ≤ x13 then (if x13 < (x11.length : Int) then ((potsherdlaw14_Light.f k ((rd_T28 x11 x13).f0) ((rd_T28 x11 x13).f1) ((rd_T28 x11 x13).f2) ((rd_T28 x11 x13).f3) ((rd_T28 x11 x13).f4)).bind fun t108 => (potsherdlaw15_Light.l0 k (wrap64 (x3 + t108)) x11 x12 (wrap64 (x13 + 1)))) else (none)) else (none)) else (some x3)
def potsherdlaw15_Light.f (k : Nat) (l0_0 : List (S28)) : Option (Int) := if (l0_0.length : Int) > 40 then (some 1) else (potsherdlaw15_Light.l0 k 0 l0_0 (l0_0.length : Int) 0)
theorem potsherdlaw15_Light.mono_l : ∀ k, (∀ y0 y1 y2 y3, LeO (potsherdlaw15_Light.l0 k y0 y1 y2 y3) (potsherdlaw15_Light.l0 (k + 1) y0 y1 y2 y3))
 | 0 => fun _ _ _ _ r h => by simp [potsherdlaw15_Light.l0] at h
 | k + 1 => by
  have ih0 := potsherdlaw15_Light.mono_l k
  ·
   intro y0 y1 y2 y3
   unfold potsherdlaw15_Light.l0
   repeat' with_reducible first | apply ih0 | apply potsherdlaw14_Light.mono | exact LeO.refl _ | exact LeO.none _ | refine LeO.ite ?_ ?_ | refine LeO.bind ?_ (fun _ => ?_)
theorem potsherdlaw15_Light.mono : ∀ a0 k, LeO (potsherdlaw15_Light.f k a0) (potsherdlaw15_Light.f (k + 1) a0) := by
 intro a0 k; have ih0 := potsherdlaw15_Light.mono_l k
 unfold potsherdlaw15_Light.f
 repeat' with_reducible first | apply ih0 | apply potsherdlaw14_Light.mono | exact LeO.refl _ | exact LeO.none _ | refine LeO.ite ?_ ?_ | refine LeO.bind ?_ (fun _ => ?_)
set_option maxHeartbeats 8000000 in
set_option maxRecDepth 100000 in
theorem potsherdlaw15_Light.calls (k : Nat) (A0_0 : Option Addr) (c0_0 : Nat) (l0_0 : List (S28)) (r : Int) (w : World) (hr0_0 : Kd.C k28 w A0_0 l0_0.length l0_0) (hc0_0 : l0_0.length ≤ c0_0) (h : potsherdlaw15_Light.f k l0_0 = some r) :
 Calls Try.prog 13 #[.agg #[.slice A0_0 l0_0.length c0_0]] w fun e w' => e = .returned (.int .i64 r) ∧ Below w.heap.size w w' := by
 have hu24 := Try.underlying24; have hu28 := Try.underlying28; have HR0_0 := Aside0.mk hr0_0; have HC0_0 := Aside0.mk hc0_0; clear hr0_0 hc0_0; have HB := Aside0.mk (Below.refl w.heap.size w); have H : (if (l0_0.length : Int) > 40 then (some 1) else (potsherdlaw15_Light.l0 k 0 l0_0 (l0_0.length : Int) 0)) = some r := h; clear h
 by_cases c2 : (l0_0.length : Int) > 40
 ·
  rw [if_pos c2] at H; have c2b0 : decide (40 < (l0_0.length : Int)) = true := decide_eq_true c2; have c2b1 : decide (40 < l0_0.length) = true := decide_eq_true (by omega); clear c2; obtain rfl := Option.some.inj H
  go_enter Try.func13, Try.ntmps13
  go_wp2_with (first | ((with_reducible refine gate_dst (N := 1) rfl ?_); refine bxE 24 (cs := #[.slice A0_0 l0_0.length c0_0]) ?_; intro gb105 hg w3 hbox hb; have BK105 := Aside0.mk hbox; have GW105 := kG HB hg; have GE105 := kG HB hg; replace HB := kH HB hb; clear hb hbox hg; obtain ⟨hcz4_0, hfz4_0⟩ := cY0 BK105))
  go_ret
  exact ⟨rT, mH HB⟩
 ·
  rw [if_neg c2] at H; have c2b0 : decide (40 < (l0_0.length : Int)) = false := decide_eq_false c2; have c2b1 : decide (40 < l0_0.length) = false := decide_eq_false (by omega); clear c2; have H' := Aside0.mk H; clear H
  go_enter Try.func13, Try.ntmps13
  go_wp2_with (first | ((with_reducible refine gate_dst (N := 1) rfl ?_); refine bxE 24 (cs := #[.slice A0_0 l0_0.length c0_0]) ?_; intro gb105 hg w5 hbox hb; have BK105 := Aside0.mk hbox; have GW105 := kG HB hg; have GE105 := kG HB hg; replace HB := kH HB hb; clear hb hbox hg; obtain ⟨hcz6_0, hfz6_0⟩ := cY0 BK105))
  go_loopg [3, 13] k (fun kq v3 v13 w' => ∃ (x3_1 : Int) (x13_1 : Int), v3 = .int .i64 x3_1 ∧ v13 = .int .i64 x13_1 ∧ Aside0 (potsherdlaw15_Light.l0 kq x3_1 l0_0 (l0_0.length : Int) x13_1 = some r) ∧ Aside0 (kq ≤ k) ∧ Aside0 (w'.heap[gb105]? = some (.cells #[(.slice A0_0 l0_0.length c0_0)] 24 (0, 0))) ∧ Aside0 (Below w.heap.size w w'))
  case atStart => exact ⟨(0), (0), sI, sI, H', ⟨Nat.le_refl _⟩, ⟨mB BK105⟩, ⟨mH HB⟩⟩
  case round =>
   clear H'
   (try clear c2); (try clear c2b0); (try clear c2b1); (try clear hcz6_0); (try clear hfz6_0)
   obtain ⟨x3_1, x13_1, rfl, rfl, HA, HK1, BK105, HB⟩ := hrel
   cases gk with
   | zero => exact absurd HA.out (by simp [potsherdlaw15_Light.l0])
   | succ k1 =>
    have H := HA.out; clear HA; simp only [potsherdlaw15_Light.l0] at H
    by_cases c7 : x13_1 < (l0_0.length : Int)
    ·
     rw [if_pos c7] at H; have c7b0 := decide_eq_true c7; clear c7
     replace H := nP H; obtain ⟨c8, H⟩ := H; have c8b0 := decide_eq_true c8; clear c8
     replace H := nP H; obtain ⟨c9, H⟩ := H; have c9b0 := decide_eq_true c9; clear c9; replace H := Option.bind_eq_some_iff.mp H; obtain ⟨t108, A100, H⟩ := H; have A10 := Aside0.mk A100; clear A100; have H' := Aside0.mk H; clear H; have p106 : 0 ≤ (x13_1 : Int) := dT; have q106 : x13_1 < (l0_0.length : Int) := dT; obtain ⟨ad106, A106_3, c106_3, A106_4, c106_4, e106, hx106_0, hx106_1, hx106_2, hx106_3, hx106_4, hl106_3, hi106_3, hl106_4, hi106_4⟩ := at_T28 HR0_0.out x13_1 p106 q106
     cases e106
     replace hx106_0 := xC HB hx106_0; replace hx106_1 := xC HB hx106_1; replace hx106_2 := xC HB hx106_2; replace hx106_3 := xC HB hx106_3; replace hx106_4 := xC HB hx106_4; have HR106_3 := Aside0.mk hi106_3; have HC106_3 := Aside0.mk hl106_3; clear hi106_3 hl106_3; have HR106_4 := Aside0.mk hi106_4; have HC106_4 := Aside0.mk hl106_4; clear hi106_4 hl106_4; replace p106 := eq_true p106; replace q106 := eq_true q106
     go_wp2_with (first | ((with_reducible refine gate_dst (N := 5) rfl ?_); refine bxE 28 (cs := #[.int .i64 0, .int .i64 0, .int .i64 0, .slice none 0 0, .slice none 0 0]) ?_; intro gb107 hg w11 hbox hb; have BK107 := Aside0.mk hbox; have GW107 := kG HB hg; have GE107 := kG HB hg; replace HB := kH HB hb; have NB105_107 := kL BK105 hg; have NB107_105 := kQ BK105 hg; replace BK105 := kB BK105 hb; clear hb hbox hg; have hnb12 := NB107_105.out; have hnc12 := NB105_107.out; obtain ⟨hcz13_0, hfz13_0⟩ := cY0 BK107; obtain ⟨hcz13_1, hfz13_1⟩ := cY1 BK107; obtain ⟨hcz13_2, hfz13_2⟩ := cY2 BK107; obtain ⟨hcz13_3, hfz13_3⟩ := cY3 BK107; obtain ⟨hcz13_4, hfz13_4⟩ := cY4 BK107) | ((with_reducible refine gate_callee (f := 14) rfl ?_); refine goesK (some 19) Try.func14 #[.agg #[.int .i64 ((rd_T28 l0_0 x13_1).f0), .int .i64 ((rd_T28 l0_0 x13_1).f1), .int .i64 ((rd_T28 l0_0 x13_1).f2), .slice A106_3 ((rd_T28 l0_0 x13_1).f3).length c106_3, .slice A106_4 ((rd_T28 l0_0 x13_1).f4).length c106_4]] ?_; (with_reducible refine (potsherdlaw14_Light.calls k1 ((rd_T28 l0_0 x13_1).f0) ((rd_T28 l0_0 x13_1).f1) ((rd_T28 l0_0 x13_1).f2) _ _ ((rd_T28 l0_0 x13_1).f3) _ _ ((rd_T28 l0_0 x13_1).f4) t108 _ ?side1 ?side2 ?side3 ?side4 A10.out).mono ?_); (case side1 => exact Kd.C_below HR106_3.out (mH HB)); (case side2 => exact HC106_3.out); (case side3 => exact Kd.C_below HR106_4.out (mH HB)); (case side4 => exact HC106_4.out); rintro e w14 ⟨rfl, hb⟩; refine ⟨_, rfl, ?_⟩; replace BK105 := Aside0.mk (bB (mF BK105) hb); replace BK107 := Aside0.mk (bB (g := gb107) (o := .cells #[.int .i64 ((rd_T28 l0_0 x13_1).f0), .int .i64 ((rd_T28 l0_0 x13_1).f1), .int .i64 ((rd_T28 l0_0 x13_1).f2), .slice A106_3 ((rd_T28 l0_0 x13_1).f3).length c106_3, .slice A106_4 ((rd_T28 l0_0 x13_1).f4).length c106_4] 28 (0, 0)) (pP BK107) hb); replace HB := kH HB hb; (try clear hb)))
     go_roundg k1
     case measure => have := HK1.out; omega
     case rel => exact ⟨(wrap64 (x3_1 + t108)), (wrap64 (x13_1 + 1)), sI, sI, H', ⟨oK HK1⟩, ⟨mB BK105⟩, ⟨mH HB⟩⟩
    ·
     rw [if_neg c7] at H; have c7b0 := decide_eq_false c7; clear c7; obtain rfl := Option.some.inj H
     go_wp2
     go_ret
     exact ⟨rT, mH HB⟩
mutual
def potsherdref12_Name.j0 : Nat → ByteArray → Bool → Option (Bool)
 | 0, _, _ => none
 | k + 1, x0, x20 => if x20 = true then (some false) else (potsherdref12_Name.l0 k x0 (x0.size : Int) 0)
def potsherdref12_Name.l0 : Nat → ByteArray → Int → Int → Option (Bool)
 | 0, _, _, _ => none
 | k + 1, x0, x22, x23 => if x23 < x22 then (if 0 ≤ x23 then (if x23 < (x0.size : Int) then (if (bt x0 x23) < 97 then (if (bt x0 x23) < 48 then (if (bt x0 x23) = 46 then (potsherdref12_Name.l0 k x0 x22 (wrap64 (x23 + 1))) else (if (bt x0 x23) = 95 then (potsherdref12_Name.l0 k x0 x22 (wrap64 (x23 + 1))) else (if (bt x0 x23) = 45 then (potsherdref12_Name.l0 k x0 x22 (wrap64 (x23 + 1))) else (some false)))) else (if (bt x0 x23) > 57 then (if (bt x0 x23) = 46 then (potsherdref12_Name.l0 k x0 x22 (wrap64 (x23 + 1))) else (if (bt x0 x23) = 95 then (potsherdref12_Name.l0 k x0 x22 (wrap64 (x23 + 1))) else (if (bt x0 x23) = 45 then (potsherdref12_Name.l0 k x0 x22 (wrap64 (x23 + 1))) else (some false)))) else (potsherdref12_Name.l0 k x0 x22 (wrap64 (x23 + 1))))) else (if (bt x0 x23) > 122 then (if (bt x0 x23) < 48 then (if (bt x0 x23) = 46 then (potsherdref12_Name.l0 k x0 x22 (wrap64 (x23 + 1))) else (if (bt x0 x23) = 95 then (potsherdref12_Name.l0 k x0 x22 (wrap64 (x23 + 1))) else (if (bt x0 x23) = 45 then (potsherdref12_Name.l0 k x0 x22 (wrap64 (x23 + 1))) else (some false)))) else (if (bt x0 x23) > 57 then (if (bt x0 x23) = 46 then (potsherdref12_Name.l0 k x0 x22 (wrap64 (x23 + 1))) else (if (bt x0 x23) = 95 then (potsherdref12_Name.l0 k x0 x22 (wrap64 (x23 + 1))) else (if (bt x0 x23) = 45 then (potsherdref12_Name.l0 k x0 x22 (wrap64 (x23 + 1))) else (some false)))) else (potsherdref12_Name.l0 k x0 x22 (wrap64 (x23 + 1))))) else (potsherdref12_Name.l0 k x0 x22 (wrap64 (x23 + 1))))) else (none)) else (none)) else (some true)
end
def potsherdref12_Name.f (k : Nat) (a0 : ByteArray) : Option (Bool) := if (a0.size : Int) < 1 then (potsherdref12_Name.j0 k a0 true) else (if (a0.size : Int) > 8 then (potsherdref12_Name.j0 k a0 true) else (if a0.toList = ([46] : List UInt8) then (potsherdref12_Name.j0 k a0 true) else (potsherdref12_Name.j0 k a0 (a0.toList == ([46, 46] : List UInt8)))))
theorem potsherdref12_Name.mono_l : ∀ k, (∀ y0 y1, LeO (potsherdref12_Name.j0 k y0 y1) (potsherdref12_Name.j0 (k + 1) y0 y1)) ∧ (∀ y0 y1 y2, LeO (potsherdref12_Name.l0 k y0 y1 y2) (potsherdref12_Name.l0 (k + 1) y0 y1 y2))
 | 0 => ⟨fun _ _ r h => by simp [potsherdref12_Name.j0] at h, fun _ _ _ r h => by simp [potsherdref12_Name.l0] at h⟩
 | k + 1 => by
  obtain ⟨ih0, ih1⟩ := potsherdref12_Name.mono_l k; refine ⟨?_, ?_⟩
  ·
   intro y0 y1
   unfold potsherdref12_Name.j0
   repeat' with_reducible first | apply ih0 | apply ih1 | exact LeO.refl _ | exact LeO.none _ | refine LeO.ite ?_ ?_ | refine LeO.bind ?_ (fun _ => ?_)
  ·
   intro y0 y1 y2
   unfold potsherdref12_Name.l0
   repeat' with_reducible first | apply ih0 | apply ih1 | exact LeO.refl _ | exact LeO.none _ | refine LeO.ite ?_ ?_ | refine LeO.bind ?_ (fun _ => ?_)
theorem potsherdref12_Name.mono : ∀ a0 k, LeO (potsherdref12_Name.f k a0) (potsherdref12_Name.f (k + 1) a0) := by
 intro a0 k; obtain ⟨ih0, ih1⟩ := potsherdref12_Name.mono_l k
 unfold potsherdref12_Name.f
 repeat' with_reducible first | apply ih0 | apply ih1 | exact LeO.refl _ | exact LeO.none _ | refine LeO.ite ?_ ?_ | refine LeO.bind ?_ (fun _ => ?_)
set_option maxHeartbeats 8000000 in
set_option maxRecDepth 100000 in
theorem potsherdref12_Name.calls (k : Nat) (a0 : ByteArray) (r : Bool) (w : World) (h : potsherdref12_Name.f k a0 = some r) :
 Calls Try.prog 69 #[.string a0] w fun e w' => e = .returned (.bool r) ∧ Drawn0 w w' := by
 have H : (if (a0.size : Int) < 1 then (potsherdref12_Name.j0 k a0 true) else (if (a0.size : Int) > 8 then (potsherdref12_Name.j0 k a0 true) else (if a0.toList = ([46] : List UInt8) then (potsherdref12_Name.j0 k a0 true) else (potsherdref12_Name.j0 k a0 (a0.toList == ([46, 46] : List UInt8)))))) = some r := h; clear h; have HC2 := Aside0.mk H; clear H
 go_enter Try.func69, Try.ntmps69
 go_upto_region 1 with (fail)
 go_cut [20] (fun v20 wc => ∃ (kq : Nat) (x20_1 : Bool), v20 = .bool x20_1 ∧ Aside0 (potsherdref12_Name.j0 kq a0 x20_1 = some r) ∧ Aside0 (kq ≤ k) ∧ Drawn0 w wc)
 case first =>
  have H := HC2.out; clear HC2
  by_cases c3 : (a0.size : Int) < 1
  ·
   rw [if_pos c3] at H; have c3b0 := decide_eq_true c3; have c3b1 : decide (a0.size < 1) = true := decide_eq_true (by omega); clear c3
   (first | rw [c3b0] | (simp only [i64_w, i32_w]; rw [c3b0]) | skip)
   have H' := Aside0.mk H; clear H
   go_wp2
   go_meet
   case rel => exact ⟨_, (true), sI, H', ⟨by first | omega | exact Nat.le_refl _⟩, by repeat (first | exact Drawn0.refl _ | apply Drawn0.step)⟩
  ·
   rw [if_neg c3] at H; have c3b0 := decide_eq_false c3; have c3b1 : decide (a0.size < 1) = false := decide_eq_false (by omega); clear c3
   (first | rw [c3b0] | (simp only [i64_w, i32_w]; rw [c3b0]) | skip)
   by_cases c4 : (a0.size : Int) > 8
   ·
    rw [if_pos c4] at H; have c4b0 : decide (8 < (a0.size : Int)) = true := decide_eq_true c4; have c4b1 : decide (8 < a0.size) = true := decide_eq_true (by omega); clear c4; have H' := Aside0.mk H; clear H
    go_wp2
    go_meet
    case rel => exact ⟨_, (true), sI, H', ⟨by first | omega | exact Nat.le_refl _⟩, by repeat (first | exact Drawn0.refl _ | apply Drawn0.step)⟩
   ·
    rw [if_neg c4] at H; have c4b0 : decide (8 < (a0.size : Int)) = false := decide_eq_false c4; have c4b1 : decide (8 < a0.size) = false := decide_eq_false (by omega); clear c4
    by_cases c5 : a0.toList = ([46] : List UInt8)
    ·
     rw [if_pos c5] at H; obtain ⟨c5b0, c5b1⟩ := eP c5; clear c5; have H' := Aside0.mk H; clear H
     go_wp2
     go_meet
     case rel => exact ⟨_, (true), sI, H', ⟨by first | omega | exact Nat.le_refl _⟩, by repeat (first | exact Drawn0.refl _ | apply Drawn0.step)⟩
    ·
     rw [if_neg c5] at H; obtain ⟨c5b0, c5b1⟩ := eN c5; have H' := Aside0.mk H; clear H
     go_wp2
     go_meet
     case rel => exact ⟨_, ((a0.toList == ([46, 46] : List UInt8))), sI, H', ⟨by first | omega | exact Nat.le_refl _⟩, by repeat (first | exact Drawn0.refl _ | apply Drawn0.step)⟩
 case rest =>
  clear HC2
  obtain ⟨kq, x20_1, rfl, HA, HJ1, ⟨mc1, rfl⟩⟩ := hcut
  cases kq with
  | zero => exact absurd HA.out (by simp [potsherdref12_Name.j0])
  | succ kj1 =>
   have H := HA.out; clear HA; simp only [potsherdref12_Name.j0] at H
   by_cases c6 : x20_1 = true
   ·
    subst c6
    have H1 : (some false) = some r := by rw [if_pos rfl] at H; exact H
    clear H; have H := H1; clear H1; obtain rfl := Option.some.inj H
    go_wp2
    go_ret
    exact ⟨sI, by repeat (first | exact Drawn0.refl _ | apply Drawn0.step)⟩
   ·
    replace c6 := Bool.eq_false_iff.mpr c6; subst c6
    have H1 : (potsherdref12_Name.l0 kj1 a0 (a0.size : Int) 0) = some r := by rw [if_neg (show ¬ (false = true) by decide)] at H; exact H
    clear H; have H := H1; clear H1; have H' := Aside0.mk H; clear H
    go_wp2
    go_loopg [23] kj1 (fun kq v23 w' => ∃ (x23_2 : Int), v23 = .int .i64 x23_2 ∧ Aside0 (potsherdref12_Name.l0 kq a0 (a0.size : Int) x23_2 = some r) ∧ Aside0 (kq ≤ kj1) ∧ Drawn0 w w')
    case atStart => exact ⟨(0), sI, H', ⟨Nat.le_refl _⟩, by repeat (first | exact Drawn0.refl _ | apply Drawn0.step)⟩
    case round =>
     clear H'
     (try clear c6)
     obtain ⟨x23_2, rfl, HA, HK2, ⟨m2, rfl⟩⟩ := hrel
     cases gk with
     | zero => exact absurd HA.out (by simp [potsherdref12_Name.l0])
     | succ k2 =>
      have H := HA.out; clear HA; simp only [potsherdref12_Name.l0] at H
      by_cases c7 : x23_2 < (a0.size : Int)
      ·
       rw [if_pos c7] at H; have c7b0 := decide_eq_true c7; clear c7
       replace H := nP H; obtain ⟨c8, H⟩ := H; have c8b0 := decide_eq_true c8; clear c8
       replace H := nP H; obtain ⟨c9, H⟩ := H; have c9b0 := decide_eq_true c9; clear c9
       by_cases c11 : (bt a0 x23_2) < 97
       ·
        rw [if_pos c11] at H; have c11b0 := decide_eq_true c11; clear c11
        by_cases c12 : (bt a0 x23_2) < 48
        ·
         rw [if_pos c12] at H; have c12b0 := decide_eq_true c12; clear c12
         by_cases c13 : (bt a0 x23_2) = 46
         ·
          rw [if_pos c13] at H; obtain ⟨c13b0, c13b1⟩ := eP c13; clear c13; have H' := Aside0.mk H; clear H; have p10 : 0 ≤ (x23_2 : Int) := dT; have q10 : x23_2 < (a0.size : Int) := dT; have hx10 := bt_at a0 x23_2; replace p10 := eq_true p10; replace q10 := eq_true q10
          go_wp2
          go_roundg k2
          case measure => have := HJ1.out; have := HK2.out; omega
          case rel => exact ⟨(wrap64 (x23_2 + 1)), sI, H', ⟨oM HJ1 HK2⟩, by repeat (first | exact Drawn0.refl _ | apply Drawn0.step)⟩
         ·
          rw [if_neg c13] at H; obtain ⟨c13b0, c13b1⟩ := eN c13
          by_cases c14 : (bt a0 x23_2) = 95
          ·
           rw [if_pos c14] at H; obtain ⟨c14b0, c14b1⟩ := eP c14; clear c14; have H' := Aside0.mk H; clear H; have p10 : 0 ≤ (x23_2 : Int) := dT; have q10 : x23_2 < (a0.size : Int) := dT; have hx10 := bt_at a0 x23_2; replace p10 := eq_true p10; replace q10 := eq_true q10
           go_wp2
           go_roundg k2
           case measure => have := HJ1.out; have := HK2.out; omega
           case rel => exact ⟨(wrap64 (x23_2 + 1)), sI, H', ⟨oM HJ1 HK2⟩, by repeat (first | exact Drawn0.refl _ | apply Drawn0.step)⟩
          ·
           rw [if_neg c14] at H; obtain ⟨c14b0, c14b1⟩ := eN c14
           by_cases c15 : (bt a0 x23_2) = 45
           ·
            rw [if_pos c15] at H; obtain ⟨c15b0, c15b1⟩ := eP c15; clear c15; have H' := Aside0.mk H; clear H; have p10 : 0 ≤ (x23_2 : Int) := dT; have q10 : x23_2 < (a0.size : Int) := dT; have hx10 := bt_at a0 x23_2; replace p10 := eq_true p10; replace q10 := eq_true q10
            go_wp2
            go_roundg k2
            case measure => have := HJ1.out; have := HK2.out; omega
            case rel => exact ⟨(wrap64 (x23_2 + 1)), sI, H', ⟨oM HJ1 HK2⟩, by repeat (first | exact Drawn0.refl _ | apply Drawn0.step)⟩
           ·
            rw [if_neg c15] at H; obtain ⟨c15b0, c15b1⟩ := eN c15; obtain rfl := Option.some.inj H; have p10 : 0 ≤ (x23_2 : Int) := dT; have q10 : x23_2 < (a0.size : Int) := dT; have hx10 := bt_at a0 x23_2; replace p10 := eq_true p10; replace q10 := eq_true q10
            go_wp2
            go_ret
            exact ⟨sI, by repeat (first | exact Drawn0.refl _ | apply Drawn0.step)⟩
        ·
         rw [if_neg c12] at H; have c12b0 := decide_eq_false c12; clear c12
         by_cases c16 : (bt a0 x23_2) > 57
         ·
          rw [if_pos c16] at H; have c16b0 : decide (57 < (bt a0 x23_2)) = true := decide_eq_true c16; clear c16
          by_cases c17 : (bt a0 x23_2) = 46
          ·
           rw [if_pos c17] at H; obtain ⟨c17b0, c17b1⟩ := eP c17; clear c17; have H' := Aside0.mk H; clear H; have p10 : 0 ≤ (x23_2 : Int) := dT; have q10 : x23_2 < (a0.size : Int) := dT; have hx10 := bt_at a0 x23_2; replace p10 := eq_true p10; replace q10 := eq_true q10
           go_wp2
           go_roundg k2
           case measure => have := HJ1.out; have := HK2.out; omega
           case rel => exact ⟨(wrap64 (x23_2 + 1)), sI, H', ⟨oM HJ1 HK2⟩, by repeat (first | exact Drawn0.refl _ | apply Drawn0.step)⟩
          ·
           rw [if_neg c17] at H; obtain ⟨c17b0, c17b1⟩ := eN c17
           by_cases c18 : (bt a0 x23_2) = 95
           ·
            rw [if_pos c18] at H; obtain ⟨c18b0, c18b1⟩ := eP c18; clear c18; have H' := Aside0.mk H; clear H; have p10 : 0 ≤ (x23_2 : Int) := dT; have q10 : x23_2 < (a0.size : Int) := dT; have hx10 := bt_at a0 x23_2; replace p10 := eq_true p10; replace q10 := eq_true q10
            go_wp2
            go_roundg k2
            case measure => have := HJ1.out; have := HK2.out; omega
            case rel => exact ⟨(wrap64 (x23_2 + 1)), sI, H', ⟨oM HJ1 HK2⟩, by repeat (first | exact Drawn0.refl _ | apply Drawn0.step)⟩
           ·
            rw [if_neg c18] at H; obtain ⟨c18b0, c18b1⟩ := eN c18
            by_cases c19 : (bt a0 x23_2) = 45
            ·
             rw [if_pos c19] at H; obtain ⟨c19b0, c19b1⟩ := eP c19; clear c19; have H' := Aside0.mk H; clear H; have p10 : 0 ≤ (x23_2 : Int) := dT; have q10 : x23_2 < (a0.size : Int) := dT; have hx10 := bt_at a0 x23_2; replace p10 := eq_true p10; replace q10 := eq_true q10
             go_wp2
             go_roundg k2
             case measure => have := HJ1.out; have := HK2.out; omega
             case rel => exact ⟨(wrap64 (x23_2 + 1)), sI, H', ⟨oM HJ1 HK2⟩, by repeat (first | exact Drawn0.refl _ | apply Drawn0.step)⟩
            ·
             rw [if_neg c19] at H; obtain ⟨c19b0, c19b1⟩ := eN c19; obtain rfl := Option.some.inj H; have p10 : 0 ≤ (x23_2 : Int) := dT; have q10 : x23_2 < (a0.size : Int) := dT; have hx10 := bt_at a0 x23_2; replace p10 := eq_true p10; replace q10 := eq_true q10
             go_wp2
             go_ret
             exact ⟨sI, by repeat (first | exact Drawn0.refl _ | apply Drawn0.step)⟩
         ·
          rw [if_neg c16] at H; have c16b0 : decide (57 < (bt a0 x23_2)) = false := decide_eq_false c16; clear c16; have H' := Aside0.mk H; clear H; have p10 : 0 ≤ (x23_2 : Int) := dT; have q10 : x23_2 < (a0.size : Int) := dT; have hx10 := bt_at a0 x23_2; replace p10 := eq_true p10; replace q10 := eq_true q10
          go_wp2
          go_roundg k2
          case measure => have := HJ1.out; have := HK2.out; omega
          case rel => exact ⟨(wrap64 (x23_2 + 1)), sI, H', ⟨oM HJ1 HK2⟩, by repeat (first | exact Drawn0.refl _ | apply Drawn0.step)⟩
       ·
        rw [if_neg c11] at H; have c11b0 := decide_eq_false c11; clear c11
        by_cases c20 : (bt a0 x23_2) > 122
        ·
         rw [if_pos c20] at H; have c20b0 : decide (122 < (bt a0 x23_2)) = true := decide_eq_true c20; clear c20
         by_cases c21 : (bt a0 x23_2) < 48
         ·
          rw [if_pos c21] at H; have c21b0 := decide_eq_true c21; clear c21
          by_cases c22 : (bt a0 x23_2) = 46
          ·
           rw [if_pos c22] at H; obtain ⟨c22b0, c22b1⟩ := eP c22; clear c22; have H' := Aside0.mk H; clear H; have p10 : 0 ≤ (x23_2 : Int) := dT; have q10 : x23_2 < (a0.size : Int) := dT; have hx10 := bt_at a0 x23_2; replace p10 := eq_true p10; replace q10 := eq_true q10
           go_wp2
           go_roundg k2
           case measure => have := HJ1.out; have := HK2.out; omega
           case rel => exact ⟨(wrap64 (x23_2 + 1)), sI, H', ⟨oM HJ1 HK2⟩, by repeat (first | exact Drawn0.refl _ | apply Drawn0.step)⟩
          ·
           rw [if_neg c22] at H; obtain ⟨c22b0, c22b1⟩ := eN c22
           by_cases c23 : (bt a0 x23_2) = 95
           ·
            rw [if_pos c23] at H; obtain ⟨c23b0, c23b1⟩ := eP c23; clear c23; have H' := Aside0.mk H; clear H; have p10 : 0 ≤ (x23_2 : Int) := dT; have q10 : x23_2 < (a0.size : Int) := dT; have hx10 := bt_at a0 x23_2; replace p10 := eq_true p10; replace q10 := eq_true q10
            go_wp2
            go_roundg k2
            case measure => have := HJ1.out; have := HK2.out; omega
            case rel => exact ⟨(wrap64 (x23_2 + 1)), sI, H', ⟨oM HJ1 HK2⟩, by repeat (first | exact Drawn0.refl _ | apply Drawn0.step)⟩
           ·
            rw [if_neg c23] at H; obtain ⟨c23b0, c23b1⟩ := eN c23
            by_cases c24 : (bt a0 x23_2) = 45
            ·
             rw [if_pos c24] at H; obtain ⟨c24b0, c24b1⟩ := eP c24; clear c24; have H' := Aside0.mk H; clear H; have p10 : 0 ≤ (x23_2 : Int) := dT; have q10 : x23_2 < (a0.size : Int) := dT; have hx10 := bt_at a0 x23_2; replace p10 := eq_true p10; replace q10 := eq_true q10
             go_wp2
             go_roundg k2
             case measure => have := HJ1.out; have := HK2.out; omega
             case rel => exact ⟨(wrap64 (x23_2 + 1)), sI, H', ⟨oM HJ1 HK2⟩, by repeat (first | exact Drawn0.refl _ | apply Drawn0.step)⟩
            ·
             rw [if_neg c24] at H; obtain ⟨c24b0, c24b1⟩ := eN c24; obtain rfl := Option.some.inj H; have p10 : 0 ≤ (x23_2 : Int) := dT; have q10 : x23_2 < (a0.size : Int) := dT; have hx10 := bt_at a0 x23_2; replace p10 := eq_true p10; replace q10 := eq_true q10
             go_wp2
             go_ret
             exact ⟨sI, by repeat (first | exact Drawn0.refl _ | apply Drawn0.step)⟩
         ·
          rw [if_neg c21] at H; have c21b0 := decide_eq_false c21; clear c21
          by_cases c25 : (bt a0 x23_2) > 57
          ·
           rw [if_pos c25] at H; have c25b0 : decide (57 < (bt a0 x23_2)) = true := decide_eq_true c25; clear c25
           by_cases c26 : (bt a0 x23_2) = 46
           ·
            rw [if_pos c26] at H; obtain ⟨c26b0, c26b1⟩ := eP c26; clear c26; have H' := Aside0.mk H; clear H; have p10 : 0 ≤ (x23_2 : Int) := dT; have q10 : x23_2 < (a0.size : Int) := dT; have hx10 := bt_at a0 x23_2; replace p10 := eq_true p10; replace q10 := eq_true q10
            go_wp2
            go_roundg k2
            case measure => have := HJ1.out; have := HK2.out; omega
            case rel => exact ⟨(wrap64 (x23_2 + 1)), sI, H', ⟨oM HJ1 HK2⟩, by repeat (first | exact Drawn0.refl _ | apply Drawn0.step)⟩
           ·
            rw [if_neg c26] at H; obtain ⟨c26b0, c26b1⟩ := eN c26
            by_cases c27 : (bt a0 x23_2) = 95
            ·
             rw [if_pos c27] at H; obtain ⟨c27b0, c27b1⟩ := eP c27; clear c27; have H' := Aside0.mk H; clear H; have p10 : 0 ≤ (x23_2 : Int) := dT; have q10 : x23_2 < (a0.size : Int) := dT; have hx10 := bt_at a0 x23_2; replace p10 := eq_true p10; replace q10 := eq_true q10
             go_wp2
             go_roundg k2
             case measure => have := HJ1.out; have := HK2.out; omega
             case rel => exact ⟨(wrap64 (x23_2 + 1)), sI, H', ⟨oM HJ1 HK2⟩, by repeat (first | exact Drawn0.refl _ | apply Drawn0.step)⟩
            ·
             rw [if_neg c27] at H; obtain ⟨c27b0, c27b1⟩ := eN c27
             by_cases c28 : (bt a0 x23_2) = 45
             ·
              rw [if_pos c28] at H; obtain ⟨c28b0, c28b1⟩ := eP c28; clear c28; have H' := Aside0.mk H; clear H; have p10 : 0 ≤ (x23_2 : Int) := dT; have q10 : x23_2 < (a0.size : Int) := dT; have hx10 := bt_at a0 x23_2; replace p10 := eq_true p10; replace q10 := eq_true q10
              go_wp2
              go_roundg k2
              case measure => have := HJ1.out; have := HK2.out; omega
              case rel => exact ⟨(wrap64 (x23_2 + 1)), sI, H', ⟨oM HJ1 HK2⟩, by repeat (first | exact Drawn0.refl _ | apply Drawn0.step)⟩
             ·
              rw [if_neg c28] at H; obtain ⟨c28b0, c28b1⟩ := eN c28; obtain rfl := Option.some.inj H; have p10 : 0 ≤ (x23_2 : Int) := dT; have q10 : x23_2 < (a0.size : Int) := dT; have hx10 := bt_at a0 x23_2; replace p10 := eq_true p10; replace q10 := eq_true q10
              go_wp2
              go_ret
              exact ⟨sI, by repeat (first | exact Drawn0.refl _ | apply Drawn0.step)⟩
          ·
           rw [if_neg c25] at H; have c25b0 : decide (57 < (bt a0 x23_2)) = false := decide_eq_false c25; clear c25; have H' := Aside0.mk H; clear H; have p10 : 0 ≤ (x23_2 : Int) := dT; have q10 : x23_2 < (a0.size : Int) := dT; have hx10 := bt_at a0 x23_2; replace p10 := eq_true p10; replace q10 := eq_true q10
           go_wp2
           go_roundg k2
           case measure => have := HJ1.out; have := HK2.out; omega
           case rel => exact ⟨(wrap64 (x23_2 + 1)), sI, H', ⟨oM HJ1 HK2⟩, by repeat (first | exact Drawn0.refl _ | apply Drawn0.step)⟩
        ·
         rw [if_neg c20] at H; have c20b0 : decide (122 < (bt a0 x23_2)) = false := decide_eq_false c20; clear c20; have H' := Aside0.mk H; clear H; have p10 : 0 ≤ (x23_2 : Int) := dT; have q10 : x23_2 < (a0.size : Int) := dT; have hx10 := bt_at a0 x23_2; replace p10 := eq_true p10; replace q10 := eq_true q10
         go_wp2
         go_roundg k2
         case measure => have := HJ1.out; have := HK2.out; omega
         case rel => exact ⟨(wrap64 (x23_2 + 1)), sI, H', ⟨oM HJ1 HK2⟩, by repeat (first | exact Drawn0.refl _ | apply Drawn0.step)⟩
      ·
       rw [if_neg c7] at H; have c7b0 := decide_eq_false c7; clear c7; obtain rfl := Option.some.inj H
       go_wp2
       go_ret
       exact ⟨sI, by repeat (first | exact Drawn0.refl _ | apply Drawn0.step)⟩
def potsherdref12_MayEntries.l0 : Nat → List (S78) → List (S78) → Int → Int → Option (Bool)
 | 0, _, _, _, _ => none
 | k + 1, x0, x8, x9, x10 => if x10 < x9 then (if 0 ≤ x10 then (if x10 < (x8.length : Int) then ((potsherdref12_Name.f k ((rd_T78 x8 x10).f0)).bind fun t111 => (if t111 = true then (if x10 > 0 then (if 0 ≤ (wrap64 (x10 - 1)) then (if (wrap64 (x10 - 1)) < (x0.length : Int) then (if ((Op.bytesLess (((rd_T78 x0 (wrap64 (x10 - 1))).f0).toList) (((rd_T78 x8 x10).f0).toList)) = true) then (if ((rd_T78 x8 x10).f1) < 1 then (some false) else (if ((rd_T78 x8 x10).f1) ≥ 12 then (some false) else (potsherdref12_MayEntries.l0 k x0 x8 x9 (wrap64 (x10 + 1))))) else (some false)) else (none)) else (none)) else (if ((rd_T78 x8 x10).f1) < 1 then (some false) else (if ((rd_T78 x8 x10).f1) ≥ 12 then (some false) else (potsherdref12_MayEntries.l0 k x0 x8 x9 (wrap64 (x10 + 1)))))) else (some false))) else (none)) else (none)) else (some true)
def potsherdref12_MayEntries.f (k : Nat) (l0 : List (S78)) : Option (Bool) := if (l0.length : Int) > 10 then (some false) else (potsherdref12_MayEntries.l0 k l0 l0 (l0.length : Int) 0)
theorem potsherdref12_MayEntries.mono_l : ∀ k, (∀ y0 y1 y2 y3, LeO (potsherdref12_MayEntries.l0 k y0 y1 y2 y3) (potsherdref12_MayEntries.l0 (k + 1) y0 y1 y2 y3))
 | 0 => fun _ _ _ _ r h => by simp [potsherdref12_MayEntries.l0] at h
 | k + 1 => by
  have ih0 := potsherdref12_MayEntries.mono_l k
  ·
   intro y0 y1 y2 y3
   unfold potsherdref12_MayEntries.l0
   repeat' with_reducible first | apply ih0 | apply potsherdref12_Name.mono | exact LeO.refl _ | exact LeO.none _ | refine LeO.ite ?_ ?_ | refine LeO.bind ?_ (fun _ => ?_)
theorem potsherdref12_MayEntries.mono : ∀ a0 k, LeO (potsherdref12_MayEntries.f k a0) (potsherdref12_MayEntries.f (k + 1) a0) := by
 intro a0 k; have ih0 := potsherdref12_MayEntries.mono_l k
 unfold potsherdref12_MayEntries.f
 repeat' with_reducible first | apply ih0 | apply potsherdref12_Name.mono | exact LeO.refl _ | exact LeO.none _ | refine LeO.ite ?_ ?_ | refine LeO.bind ?_ (fun _ => ?_)
set_option maxHeartbeats 8000000 in
set_option maxRecDepth 100000 in
theorem potsherdref12_MayEntries.calls (k : Nat) (A0 : Option Addr) (c0 : Nat) (l0 : List (S78)) (r : Bool) (w : World) (hr0 : Kd.C k78 w A0 l0.length l0) (hc0 : l0.length ≤ c0) (h : potsherdref12_MayEntries.f k l0 = some r) :
 Calls Try.prog 50 #[.slice A0 l0.length c0] w fun e w' => e = .returned (.bool r) ∧ Below w.heap.size w w' := by
 have hu78 := Try.underlying78; have HR0 := Aside0.mk hr0; have HC0 := Aside0.mk hc0; clear hr0 hc0; have HB := Aside0.mk (Below.refl w.heap.size w); have H : (if (l0.length : Int) > 10 then (some false) else (potsherdref12_MayEntries.l0 k l0 l0 (l0.length : Int) 0)) = some r := h; clear h
 by_cases c2 : (l0.length : Int) > 10
 ·
  rw [if_pos c2] at H; have c2b0 : decide (10 < (l0.length : Int)) = true := decide_eq_true c2; have c2b1 : decide (10 < l0.length) = true := decide_eq_true (by omega); clear c2; obtain rfl := Option.some.inj H
  go_enter Try.func50, Try.ntmps50
  go_wp2
  repeat (go_quiet (fail); try go_wp2)
  go_ret
  exact ⟨rT, mH HB⟩
 ·
  rw [if_neg c2] at H; have c2b0 : decide (10 < (l0.length : Int)) = false := decide_eq_false c2; have c2b1 : decide (10 < l0.length) = false := decide_eq_false (by omega); clear c2; have H' := Aside0.mk H; clear H
  go_enter Try.func50, Try.ntmps50
  go_wp2
  repeat (go_quiet (fail); try go_wp2)
  go_loopg [10] k (fun kq v10 w' => ∃ (x10_1 : Int), v10 = .int .i64 x10_1 ∧ Aside0 (potsherdref12_MayEntries.l0 kq l0 l0 (l0.length : Int) x10_1 = some r) ∧ Aside0 (kq ≤ k) ∧ Aside0 (Below w.heap.size w w'))
  case atStart => exact ⟨(0), sI, H', ⟨Nat.le_refl _⟩, ⟨mH HB⟩⟩
  case round =>
   clear H'
   (try clear c2); (try clear c2b0); (try clear c2b1)
   obtain ⟨x10_1, rfl, HA, HK1, HB⟩ := hrel
   cases gk with
   | zero => exact absurd HA.out (by simp [potsherdref12_MayEntries.l0])
   | succ k1 =>
    have H := HA.out; clear HA; simp only [potsherdref12_MayEntries.l0] at H
    by_cases c3 : x10_1 < (l0.length : Int)
    ·
     rw [if_pos c3] at H; have c3b0 := decide_eq_true c3; clear c3
     replace H := nP H; obtain ⟨c4, H⟩ := H; have c4b0 := decide_eq_true c4; clear c4
     replace H := nP H; obtain ⟨c5, H⟩ := H; have c5b0 := decide_eq_true c5; clear c5; replace H := Option.bind_eq_some_iff.mp H; obtain ⟨t111, A60, H⟩ := H; have A6 := Aside0.mk A60; clear A60
     by_cases c7 : t111 = true
     ·
      subst c7
      have H1 : (if x10_1 > 0 then (if 0 ≤ (wrap64 (x10_1 - 1)) then (if (wrap64 (x10_1 - 1)) < (l0.length : Int) then (if ((Op.bytesLess (((rd_T78 l0 (wrap64 (x10_1 - 1))).f0).toList) (((rd_T78 l0 x10_1).f0).toList)) = true) then (if ((rd_T78 l0 x10_1).f1) < 1 then (some false) else (if ((rd_T78 l0 x10_1).f1) ≥ 12 then (some false) else (potsherdref12_MayEntries.l0 k1 l0 l0 (l0.length : Int) (wrap64 (x10_1 + 1))))) else (some false)) else (none)) else (none)) else (if ((rd_T78 l0 x10_1).f1) < 1 then (some false) else (if ((rd_T78 l0 x10_1).f1) ≥ 12 then (some false) else (potsherdref12_MayEntries.l0 k1 l0 l0 (l0.length : Int) (wrap64 (x10_1 + 1)))))) = some r := by rw [if_pos rfl] at H; exact H
      clear H; have H := H1; clear H1
      by_cases c8 : x10_1 > 0
      ·
       rw [if_pos c8] at H; have c8b0 : decide (0 < x10_1) = true := decide_eq_true c8; clear c8; obtain ⟨ji9, hji9⟩ : ∃ j_ : Int, (wrap64 (x10_1 - 1)) = j_ := ⟨_, rfl⟩
       replace H : (if 0 ≤ (ji9) then (if (ji9) < (l0.length : Int) then (if ((Op.bytesLess (((rd_T78 l0 (ji9)).f0).toList) (((rd_T78 l0 x10_1).f0).toList)) = true) then (if ((rd_T78 l0 x10_1).f1) < 1 then (some false) else (if ((rd_T78 l0 x10_1).f1) ≥ 12 then (some false) else (potsherdref12_MayEntries.l0 k1 l0 l0 (l0.length : Int) (wrap64 (x10_1 + 1))))) else (some false)) else (none)) else (none)) = some r := by first | (rw [hji9] at H; exact H) | (simp only [hji9] at H ⊢; exact H)
       (try rw [hji9] at A6)
       have hji9w : (IntKind.i64.wrap (x10_1 - 1)) = ji9 := (i64_w _).trans hji9
       replace H := nP H; obtain ⟨c10, H⟩ := H; have c10b0 := decide_eq_true c10; clear c10
       replace H := nP H; obtain ⟨c11, H⟩ := H; have c11b0 := decide_eq_true c11; clear c11
       by_cases c12 : ((Op.bytesLess (((rd_T78 l0 (ji9)).f0).toList) (((rd_T78 l0 x10_1).f0).toList)) = true)
       ·
        rw [if_pos c12] at H; have c12b0 : (Op.bytesLess (((rd_T78 l0 (ji9)).f0).toList) (((rd_T78 l0 x10_1).f0).toList)) = true := c12; clear c12
        by_cases c13 : ((rd_T78 l0 x10_1).f1) < 1
        ·
         rw [if_pos c13] at H; have c13b0 := decide_eq_true c13; clear c13; obtain rfl := Option.some.inj H; have p109 : 0 ≤ (x10_1 : Int) := dT; have q109 : x10_1 < (l0.length : Int) := dT; obtain ⟨ad109, e109, hx109_0, hx109_1⟩ := at_T78 HR0.out x10_1 p109 q109
         cases e109
         replace hx109_0 := xC HB hx109_0; replace hx109_1 := xC HB hx109_1; replace p109 := eq_true p109; replace q109 := eq_true q109
         go_wp2_with (first | ((with_reducible refine gate_dst (N := 4) rfl ?_); refine bxE 78 (cs := #[.string (⟨#[]⟩ : ByteArray), .int .i64 0]) ?_; intro gb110 hg w14 hbox hb; have BK110 := Aside0.mk hbox; have GW110 := kG HB hg; have GE110 := kG HB hg; replace HB := kH HB hb; clear hb hbox hg; obtain ⟨hcz15_0, hfz15_0⟩ := cY0 BK110; obtain ⟨hcz15_1, hfz15_1⟩ := cY1 BK110) | (go_at_call 69; (with_reducible refine (potsherdref12_Name.calls k1 ((rd_T78 l0 x10_1).f0) true _ A6.out).mono ?_); rintro e w' ⟨rfl, ⟨nd, rfl⟩⟩; (try first | exact ⟨rfl, _, World.drewN_drewN _ _ _⟩ | exact ⟨rfl, _, Eq.trans (World.drewN_drewN _ _ _) (congrArg (World.drewN _) (Nat.add_assoc _ _ _))⟩); have p112 : 0 ≤ ((ji9) : Int) := dT; have q112 : (ji9) < (l0.length : Int) := dT; obtain ⟨ad112, e112, hx112_0, hx112_1⟩ := at_T78 HR0.out (ji9) p112 q112; obtain rfl : ad109 = ad112 := (by injection e112); have hn112_0 : ad109.block ≠ gb110 := Nat.ne_of_lt (Nat.lt_of_lt_of_le (by have := World.block_lt_of_cell? _ _ hx112_0; first | rwa [add_block] at this | exact this) GW110.out); have hn112_1 : ad109.block ≠ gb110 := Nat.ne_of_lt (Nat.lt_of_lt_of_le (by have := World.block_lt_of_cell? _ _ hx112_0; first | rwa [add_block] at this | exact this) GW110.out); replace hx112_0 := xC HB hx112_0; replace hx112_1 := xC HB hx112_1; replace hx112_0 := cF hn112_0 0 (.string ((rd_T78 l0 x10_1).f0)) hx112_0; replace hx112_1 := cF hn112_0 0 (.string ((rd_T78 l0 x10_1).f0)) hx112_1; replace hx112_0 := cF hn112_1 1 (.int .i64 ((rd_T78 l0 x10_1).f1)) hx112_0; replace hx112_1 := cF hn112_1 1 (.int .i64 ((rd_T78 l0 x10_1).f1)) hx112_1; (try have hy112_0 := fun (n_ : Nat) => (show ((((w14.drewN n_).setCell ⟨gb110, 0, none⟩ (.string ((rd_T78 l0 x10_1).f0))).setCell ⟨gb110, 1, none⟩ (.int .i64 ((rd_T78 l0 x10_1).f1)))).cell? _ = some _ from hx112_0)); (try have hy112_1 := fun (n_ : Nat) => (show ((((w14.drewN n_).setCell ⟨gb110, 0, none⟩ (.string ((rd_T78 l0 x10_1).f0))).setCell ⟨gb110, 1, none⟩ (.int .i64 ((rd_T78 l0 x10_1).f1)))).cell? _ = some _ from hx112_1)); clear hn112_0; clear hn112_1; replace p112 := eq_true p112; replace q112 := eq_true q112))
         repeat (go_quiet (first | ((with_reducible refine gate_dst (N := 4) rfl ?_); refine bxE 78 (cs := #[.string (⟨#[]⟩ : ByteArray), .int .i64 0]) ?_; intro gb110 hg w14 hbox hb; have BK110 := Aside0.mk hbox; have GW110 := kG HB hg; have GE110 := kG HB hg; replace HB := kH HB hb; clear hb hbox hg; obtain ⟨hcz15_0, hfz15_0⟩ := cY0 BK110; obtain ⟨hcz15_1, hfz15_1⟩ := cY1 BK110) | (go_at_call 69; (with_reducible refine (potsherdref12_Name.calls k1 ((rd_T78 l0 x10_1).f0) true _ A6.out).mono ?_); rintro e w' ⟨rfl, ⟨nd, rfl⟩⟩; (try first | exact ⟨rfl, _, World.drewN_drewN _ _ _⟩ | exact ⟨rfl, _, Eq.trans (World.drewN_drewN _ _ _) (congrArg (World.drewN _) (Nat.add_assoc _ _ _))⟩); have p112 : 0 ≤ ((ji9) : Int) := dT; have q112 : (ji9) < (l0.length : Int) := dT; obtain ⟨ad112, e112, hx112_0, hx112_1⟩ := at_T78 HR0.out (ji9) p112 q112; obtain rfl : ad109 = ad112 := (by injection e112); have hn112_0 : ad109.block ≠ gb110 := Nat.ne_of_lt (Nat.lt_of_lt_of_le (by have := World.block_lt_of_cell? _ _ hx112_0; first | rwa [add_block] at this | exact this) GW110.out); have hn112_1 : ad109.block ≠ gb110 := Nat.ne_of_lt (Nat.lt_of_lt_of_le (by have := World.block_lt_of_cell? _ _ hx112_0; first | rwa [add_block] at this | exact this) GW110.out); replace hx112_0 := xC HB hx112_0; replace hx112_1 := xC HB hx112_1; replace hx112_0 := cF hn112_0 0 (.string ((rd_T78 l0 x10_1).f0)) hx112_0; replace hx112_1 := cF hn112_0 0 (.string ((rd_T78 l0 x10_1).f0)) hx112_1; replace hx112_0 := cF hn112_1 1 (.int .i64 ((rd_T78 l0 x10_1).f1)) hx112_0; replace hx112_1 := cF hn112_1 1 (.int .i64 ((rd_T78 l0 x10_1).f1)) hx112_1; (try have hy112_0 := fun (n_ : Nat) => (show ((((w14.drewN n_).setCell ⟨gb110, 0, none⟩ (.string ((rd_T78 l0 x10_1).f0))).setCell ⟨gb110, 1, none⟩ (.int .i64 ((rd_T78 l0 x10_1).f1)))).cell? _ = some _ from hx112_0)); (try have hy112_1 := fun (n_ : Nat) => (show ((((w14.drewN n_).setCell ⟨gb110, 0, none⟩ (.string ((rd_T78 l0 x10_1).f0))).setCell ⟨gb110, 1, none⟩ (.int .i64 ((rd_T78 l0 x10_1).f1)))).cell? _ = some _ from hx112_1)); clear hn112_0; clear hn112_1; replace p112 := eq_true p112; replace q112 := eq_true q112)); try go_wp2_with (first | ((with_reducible refine gate_dst (N := 4) rfl ?_); refine bxE 78 (cs := #[.string (⟨#[]⟩ : ByteArray), .int .i64 0]) ?_; intro gb110 hg w14 hbox hb; have BK110 := Aside0.mk hbox; have GW110 := kG HB hg; have GE110 := kG HB hg; replace HB := kH HB hb; clear hb hbox hg; obtain ⟨hcz15_0, hfz15_0⟩ := cY0 BK110; obtain ⟨hcz15_1, hfz15_1⟩ := cY1 BK110) | (go_at_call 69; (with_reducible refine (potsherdref12_Name.calls k1 ((rd_T78 l0 x10_1).f0) true _ A6.out).mono ?_); rintro e w' ⟨rfl, ⟨nd, rfl⟩⟩; (try first | exact ⟨rfl, _, World.drewN_drewN _ _ _⟩ | exact ⟨rfl, _, Eq.trans (World.drewN_drewN _ _ _) (congrArg (World.drewN _) (Nat.add_assoc _ _ _))⟩); have p112 : 0 ≤ ((ji9) : Int) := dT; have q112 : (ji9) < (l0.length : Int) := dT; obtain ⟨ad112, e112, hx112_0, hx112_1⟩ := at_T78 HR0.out (ji9) p112 q112; obtain rfl : ad109 = ad112 := (by injection e112); have hn112_0 : ad109.block ≠ gb110 := Nat.ne_of_lt (Nat.lt_of_lt_of_le (by have := World.block_lt_of_cell? _ _ hx112_0; first | rwa [add_block] at this | exact this) GW110.out); have hn112_1 : ad109.block ≠ gb110 := Nat.ne_of_lt (Nat.lt_of_lt_of_le (by have := World.block_lt_of_cell? _ _ hx112_0; first | rwa [add_block] at this | exact this) GW110.out); replace hx112_0 := xC HB hx112_0; replace hx112_1 := xC HB hx112_1; replace hx112_0 := cF hn112_0 0 (.string ((rd_T78 l0 x10_1).f0)) hx112_0; replace hx112_1 := cF hn112_0 0 (.string ((rd_T78 l0 x10_1).f0)) hx112_1; replace hx112_0 := cF hn112_1 1 (.int .i64 ((rd_T78 l0 x10_1).f1)) hx112_0; replace hx112_1 := cF hn112_1 1 (.int .i64 ((rd_T78 l0 x10_1).f1)) hx112_1; (try have hy112_0 := fun (n_ : Nat) => (show ((((w14.drewN n_).setCell ⟨gb110, 0, none⟩ (.string ((rd_T78 l0 x10_1).f0))).setCell ⟨gb110, 1, none⟩ (.int .i64 ((rd_T78 l0 x10_1).f1)))).cell? _ = some _ from hx112_0)); (try have hy112_1 := fun (n_ : Nat) => (show ((((w14.drewN n_).setCell ⟨gb110, 0, none⟩ (.string ((rd_T78 l0 x10_1).f0))).setCell ⟨gb110, 1, none⟩ (.int .i64 ((rd_T78 l0 x10_1).f1)))).cell? _ = some _ from hx112_1)); clear hn112_0; clear hn112_1; replace p112 := eq_true p112; replace q112 := eq_true q112)))
         go_ret
         exact ⟨by first | rfl | exact congrArg (fun b_ => Ending.returned (Value.bool b_)) HRET.out | (rw [HRET.out]) | (simp [errW_none, errW_some] <;> rfl) | (simp only [← hji9]; first | rfl | (simp [errW_none, errW_some] <;> rfl)) | (simp [*, errW_none, errW_some] <;> rfl), mH HB⟩
        ·
         rw [if_neg c13] at H; have c13b0 := decide_eq_false c13; clear c13
         by_cases c16 : ((rd_T78 l0 x10_1).f1) ≥ 12
         ·
          rw [if_pos c16] at H; have c16b0 : decide (12 ≤ ((rd_T78 l0 x10_1).f1)) = true := decide_eq_true c16; clear c16; obtain rfl := Option.some.inj H; have p109 : 0 ≤ (x10_1 : Int) := dT; have q109 : x10_1 < (l0.length : Int) := dT; obtain ⟨ad109, e109, hx109_0, hx109_1⟩ := at_T78 HR0.out x10_1 p109 q109
          cases e109
          replace hx109_0 := xC HB hx109_0; replace hx109_1 := xC HB hx109_1; replace p109 := eq_true p109; replace q109 := eq_true q109
          go_wp2_with (first | ((with_reducible refine gate_dst (N := 4) rfl ?_); refine bxE 78 (cs := #[.string (⟨#[]⟩ : ByteArray), .int .i64 0]) ?_; intro gb110 hg w17 hbox hb; have BK110 := Aside0.mk hbox; have GW110 := kG HB hg; have GE110 := kG HB hg; replace HB := kH HB hb; clear hb hbox hg; obtain ⟨hcz18_0, hfz18_0⟩ := cY0 BK110; obtain ⟨hcz18_1, hfz18_1⟩ := cY1 BK110) | (go_at_call 69; (with_reducible refine (potsherdref12_Name.calls k1 ((rd_T78 l0 x10_1).f0) true _ A6.out).mono ?_); rintro e w' ⟨rfl, ⟨nd, rfl⟩⟩; (try first | exact ⟨rfl, _, World.drewN_drewN _ _ _⟩ | exact ⟨rfl, _, Eq.trans (World.drewN_drewN _ _ _) (congrArg (World.drewN _) (Nat.add_assoc _ _ _))⟩); have p112 : 0 ≤ ((ji9) : Int) := dT; have q112 : (ji9) < (l0.length : Int) := dT; obtain ⟨ad112, e112, hx112_0, hx112_1⟩ := at_T78 HR0.out (ji9) p112 q112; obtain rfl : ad109 = ad112 := (by injection e112); have hn112_0 : ad109.block ≠ gb110 := Nat.ne_of_lt (Nat.lt_of_lt_of_le (by have := World.block_lt_of_cell? _ _ hx112_0; first | rwa [add_block] at this | exact this) GW110.out); have hn112_1 : ad109.block ≠ gb110 := Nat.ne_of_lt (Nat.lt_of_lt_of_le (by have := World.block_lt_of_cell? _ _ hx112_0; first | rwa [add_block] at this | exact this) GW110.out); replace hx112_0 := xC HB hx112_0; replace hx112_1 := xC HB hx112_1; replace hx112_0 := cF hn112_0 0 (.string ((rd_T78 l0 x10_1).f0)) hx112_0; replace hx112_1 := cF hn112_0 0 (.string ((rd_T78 l0 x10_1).f0)) hx112_1; replace hx112_0 := cF hn112_1 1 (.int .i64 ((rd_T78 l0 x10_1).f1)) hx112_0; replace hx112_1 := cF hn112_1 1 (.int .i64 ((rd_T78 l0 x10_1).f1)) hx112_1; (try have hy112_0 := fun (n_ : Nat) => (show ((((w17.drewN n_).setCell ⟨gb110, 0, none⟩ (.string ((rd_T78 l0 x10_1).f0))).setCell ⟨gb110, 1, none⟩ (.int .i64 ((rd_T78 l0 x10_1).f1)))).cell? _ = some _ from hx112_0)); (try have hy112_1 := fun (n_ : Nat) => (show ((((w17.drewN n_).setCell ⟨gb110, 0, none⟩ (.string ((rd_T78 l0 x10_1).f0))).setCell ⟨gb110, 1, none⟩ (.int .i64 ((rd_T78 l0 x10_1).f1)))).cell? _ = some _ from hx112_1)); clear hn112_0; clear hn112_1; replace p112 := eq_true p112; replace q112 := eq_true q112))
          repeat (go_quiet (first | ((with_reducible refine gate_dst (N := 4) rfl ?_); refine bxE 78 (cs := #[.string (⟨#[]⟩ : ByteArray), .int .i64 0]) ?_; intro gb110 hg w17 hbox hb; have BK110 := Aside0.mk hbox; have GW110 := kG HB hg; have GE110 := kG HB hg; replace HB := kH HB hb; clear hb hbox hg; obtain ⟨hcz18_0, hfz18_0⟩ := cY0 BK110; obtain ⟨hcz18_1, hfz18_1⟩ := cY1 BK110) | (go_at_call 69; (with_reducible refine (potsherdref12_Name.calls k1 ((rd_T78 l0 x10_1).f0) true _ A6.out).mono ?_); rintro e w' ⟨rfl, ⟨nd, rfl⟩⟩; (try first | exact ⟨rfl, _, World.drewN_drewN _ _ _⟩ | exact ⟨rfl, _, Eq.trans (World.drewN_drewN _ _ _) (congrArg (World.drewN _) (Nat.add_assoc _ _ _))⟩); have p112 : 0 ≤ ((ji9) : Int) := dT; have q112 : (ji9) < (l0.length : Int) := dT; obtain ⟨ad112, e112, hx112_0, hx112_1⟩ := at_T78 HR0.out (ji9) p112 q112; obtain rfl : ad109 = ad112 := (by injection e112); have hn112_0 : ad109.block ≠ gb110 := Nat.ne_of_lt (Nat.lt_of_lt_of_le (by have := World.block_lt_of_cell? _ _ hx112_0; first | rwa [add_block] at this | exact this) GW110.out); have hn112_1 : ad109.block ≠ gb110 := Nat.ne_of_lt (Nat.lt_of_lt_of_le (by have := World.block_lt_of_cell? _ _ hx112_0; first | rwa [add_block] at this | exact this) GW110.out); replace hx112_0 := xC HB hx112_0; replace hx112_1 := xC HB hx112_1; replace hx112_0 := cF hn112_0 0 (.string ((rd_T78 l0 x10_1).f0)) hx112_0; replace hx112_1 := cF hn112_0 0 (.string ((rd_T78 l0 x10_1).f0)) hx112_1; replace hx112_0 := cF hn112_1 1 (.int .i64 ((rd_T78 l0 x10_1).f1)) hx112_0; replace hx112_1 := cF hn112_1 1 (.int .i64 ((rd_T78 l0 x10_1).f1)) hx112_1; (try have hy112_0 := fun (n_ : Nat) => (show ((((w17.drewN n_).setCell ⟨gb110, 0, none⟩ (.string ((rd_T78 l0 x10_1).f0))).setCell ⟨gb110, 1, none⟩ (.int .i64 ((rd_T78 l0 x10_1).f1)))).cell? _ = some _ from hx112_0)); (try have hy112_1 := fun (n_ : Nat) => (show ((((w17.drewN n_).setCell ⟨gb110, 0, none⟩ (.string ((rd_T78 l0 x10_1).f0))).setCell ⟨gb110, 1, none⟩ (.int .i64 ((rd_T78 l0 x10_1).f1)))).cell? _ = some _ from hx112_1)); clear hn112_0; clear hn112_1; replace p112 := eq_true p112; replace q112 := eq_true q112)); try go_wp2_with (first | ((with_reducible refine gate_dst (N := 4) rfl ?_); refine bxE 78 (cs := #[.string (⟨#[]⟩ : ByteArray), .int .i64 0]) ?_; intro gb110 hg w17 hbox hb; have BK110 := Aside0.mk hbox; have GW110 := kG HB hg; have GE110 := kG HB hg; replace HB := kH HB hb; clear hb hbox hg; obtain ⟨hcz18_0, hfz18_0⟩ := cY0 BK110; obtain ⟨hcz18_1, hfz18_1⟩ := cY1 BK110) | (go_at_call 69; (with_reducible refine (potsherdref12_Name.calls k1 ((rd_T78 l0 x10_1).f0) true _ A6.out).mono ?_); rintro e w' ⟨rfl, ⟨nd, rfl⟩⟩; (try first | exact ⟨rfl, _, World.drewN_drewN _ _ _⟩ | exact ⟨rfl, _, Eq.trans (World.drewN_drewN _ _ _) (congrArg (World.drewN _) (Nat.add_assoc _ _ _))⟩); have p112 : 0 ≤ ((ji9) : Int) := dT; have q112 : (ji9) < (l0.length : Int) := dT; obtain ⟨ad112, e112, hx112_0, hx112_1⟩ := at_T78 HR0.out (ji9) p112 q112; obtain rfl : ad109 = ad112 := (by injection e112); have hn112_0 : ad109.block ≠ gb110 := Nat.ne_of_lt (Nat.lt_of_lt_of_le (by have := World.block_lt_of_cell? _ _ hx112_0; first | rwa [add_block] at this | exact this) GW110.out); have hn112_1 : ad109.block ≠ gb110 := Nat.ne_of_lt (Nat.lt_of_lt_of_le (by have := World.block_lt_of_cell? _ _ hx112_0; first | rwa [add_block] at this | exact this) GW110.out); replace hx112_0 := xC HB hx112_0; replace hx112_1 := xC HB hx112_1; replace hx112_0 := cF hn112_0 0 (.string ((rd_T78 l0 x10_1).f0)) hx112_0; replace hx112_1 := cF hn112_0 0 (.string ((rd_T78 l0 x10_1).f0)) hx112_1; replace hx112_0 := cF hn112_1 1 (.int .i64 ((rd_T78 l0 x10_1).f1)) hx112_0; replace hx112_1 := cF hn112_1 1 (.int .i64 ((rd_T78 l0 x10_1).f1)) hx112_1; (try have hy112_0 := fun (n_ : Nat) => (show ((((w17.drewN n_).setCell ⟨gb110, 0, none⟩ (.string ((rd_T78 l0 x10_1).f0))).setCell ⟨gb110, 1, none⟩ (.int .i64 ((rd_T78 l0 x10_1).f1)))).cell? _ = some _ from hx112_0)); (try have hy112_1 := fun (n_ : Nat) => (show ((((w17.drewN n_).setCell ⟨gb110, 0, none⟩ (.string ((rd_T78 l0 x10_1).f0))).setCell ⟨gb110, 1, none⟩ (.int .i64 ((rd_T78 l0 x10_1).f1)))).cell? _ = some _ from hx112_1)); clear hn112_0; clear hn112_1; replace p112 := eq_true p112; replace q112 := eq_true q112)))
          go_ret
          exact ⟨by first | rfl | exact congrArg (fun b_ => Ending.returned (Value.bool b_)) HRET.out | (rw [HRET.out]) | (simp [errW_none, errW_some] <;> rfl) | (simp only [← hji9]; first | rfl | (simp [errW_none, errW_some] <;> rfl)) | (simp [*, errW_none, errW_some] <;> rfl), mH HB⟩
         ·
          rw [if_neg c16] at H; have c16b0 : decide (12 ≤ ((rd_T78 l0 x10_1).f1)) = false := decide_eq_false c16; clear c16; have H' := Aside0.mk H; clear H; have p109 : 0 ≤ (x10_1 : Int) := dT; have q109 : x10_1 < (l0.length : Int) := dT; obtain ⟨ad109, e109, hx109_0, hx109_1⟩ := at_T78 HR0.out x10_1 p109 q109
          cases e109
          replace hx109_0 := xC HB hx109_0; replace hx109_1 := xC HB hx109_1; replace p109 := eq_true p109; replace q109 := eq_true q109
          go_wp2_with (first | ((with_reducible refine gate_dst (N := 4) rfl ?_); refine bxE 78 (cs := #[.string (⟨#[]⟩ : ByteArray), .int .i64 0]) ?_; intro gb110 hg w19 hbox hb; have BK110 := Aside0.mk hbox; have GW110 := kG HB hg; have GE110 := kG HB hg; replace HB := kH HB hb; clear hb hbox hg; obtain ⟨hcz20_0, hfz20_0⟩ := cY0 BK110; obtain ⟨hcz20_1, hfz20_1⟩ := cY1 BK110) | (go_at_call 69; (with_reducible refine (potsherdref12_Name.calls k1 ((rd_T78 l0 x10_1).f0) true _ A6.out).mono ?_); rintro e w' ⟨rfl, ⟨nd, rfl⟩⟩; (try first | exact ⟨rfl, _, World.drewN_drewN _ _ _⟩ | exact ⟨rfl, _, Eq.trans (World.drewN_drewN _ _ _) (congrArg (World.drewN _) (Nat.add_assoc _ _ _))⟩); have p112 : 0 ≤ ((ji9) : Int) := dT; have q112 : (ji9) < (l0.length : Int) := dT; obtain ⟨ad112, e112, hx112_0, hx112_1⟩ := at_T78 HR0.out (ji9) p112 q112; obtain rfl : ad109 = ad112 := (by injection e112); have hn112_0 : ad109.block ≠ gb110 := Nat.ne_of_lt (Nat.lt_of_lt_of_le (by have := World.block_lt_of_cell? _ _ hx112_0; first | rwa [add_block] at this | exact this) GW110.out); have hn112_1 : ad109.block ≠ gb110 := Nat.ne_of_lt (Nat.lt_of_lt_of_le (by have := World.block_lt_of_cell? _ _ hx112_0; first | rwa [add_block] at this | exact this) GW110.out); replace hx112_0 := xC HB hx112_0; replace hx112_1 := xC HB hx112_1; replace hx112_0 := cF hn112_0 0 (.string ((rd_T78 l0 x10_1).f0)) hx112_0; replace hx112_1 := cF hn112_0 0 (.string ((rd_T78 l0 x10_1).f0)) hx112_1; replace hx112_0 := cF hn112_1 1 (.int .i64 ((rd_T78 l0 x10_1).f1)) hx112_0; replace hx112_1 := cF hn112_1 1 (.int .i64 ((rd_T78 l0 x10_1).f1)) hx112_1; (try have hy112_0 := fun (n_ : Nat) => (show ((((w19.drewN n_).setCell ⟨gb110, 0, none⟩ (.string ((rd_T78 l0 x10_1).f0))).setCell ⟨gb110, 1, none⟩ (.int .i64 ((rd_T78 l0 x10_1).f1)))).cell? _ = some _ from hx112_0)); (try have hy112_1 := fun (n_ : Nat) => (show ((((w19.drewN n_).setCell ⟨gb110, 0, none⟩ (.string ((rd_T78 l0 x10_1).f0))).setCell ⟨gb110, 1, none⟩ (.int .i64 ((rd_T78 l0 x10_1).f1)))).cell? _ = some _ from hx112_1)); clear hn112_0; clear hn112_1; replace p112 := eq_true p112; replace q112 := eq_true q112))
          repeat (go_quiet (first | ((with_reducible refine gate_dst (N := 4) rfl ?_); refine bxE 78 (cs := #[.string (⟨#[]⟩ : ByteArray), .int .i64 0]) ?_; intro gb110 hg w19 hbox hb; have BK110 := Aside0.mk hbox; have GW110 := kG HB hg; have GE110 := kG HB hg; replace HB := kH HB hb; clear hb hbox hg; obtain ⟨hcz20_0, hfz20_0⟩ := cY0 BK110; obtain ⟨hcz20_1, hfz20_1⟩ := cY1 BK110) | (go_at_call 69; (with_reducible refine (potsherdref12_Name.calls k1 ((rd_T78 l0 x10_1).f0) true _ A6.out).mono ?_); rintro e w' ⟨rfl, ⟨nd, rfl⟩⟩; (try first | exact ⟨rfl, _, World.drewN_drewN _ _ _⟩ | exact ⟨rfl, _, Eq.trans (World.drewN_drewN _ _ _) (congrArg (World.drewN _) (Nat.add_assoc _ _ _))⟩); have p112 : 0 ≤ ((ji9) : Int) := dT; have q112 : (ji9) < (l0.length : Int) := dT; obtain ⟨ad112, e112, hx112_0, hx112_1⟩ := at_T78 HR0.out (ji9) p112 q112; obtain rfl : ad109 = ad112 := (by injection e112); have hn112_0 : ad109.block ≠ gb110 := Nat.ne_of_lt (Nat.lt_of_lt_of_le (by have := World.block_lt_of_cell? _ _ hx112_0; first | rwa [add_block] at this | exact this) GW110.out); have hn112_1 : ad109.block ≠ gb110 := Nat.ne_of_lt (Nat.lt_of_lt_of_le (by have := World.block_lt_of_cell? _ _ hx112_0; first | rwa [add_block] at this | exact this) GW110.out); replace hx112_0 := xC HB hx112_0; replace hx112_1 := xC HB hx112_1; replace hx112_0 := cF hn112_0 0 (.string ((rd_T78 l0 x10_1).f0)) hx112_0; replace hx112_1 := cF hn112_0 0 (.string ((rd_T78 l0 x10_1).f0)) hx112_1; replace hx112_0 := cF hn112_1 1 (.int .i64 ((rd_T78 l0 x10_1).f1)) hx112_0; replace hx112_1 := cF hn112_1 1 (.int .i64 ((rd_T78 l0 x10_1).f1)) hx112_1; (try have hy112_0 := fun (n_ : Nat) => (show ((((w19.drewN n_).setCell ⟨gb110, 0, none⟩ (.string ((rd_T78 l0 x10_1).f0))).setCell ⟨gb110, 1, none⟩ (.int .i64 ((rd_T78 l0 x10_1).f1)))).cell? _ = some _ from hx112_0)); (try have hy112_1 := fun (n_ : Nat) => (show ((((w19.drewN n_).setCell ⟨gb110, 0, none⟩ (.string ((rd_T78 l0 x10_1).f0))).setCell ⟨gb110, 1, none⟩ (.int .i64 ((rd_T78 l0 x10_1).f1)))).cell? _ = some _ from hx112_1)); clear hn112_0; clear hn112_1; replace p112 := eq_true p112; replace q112 := eq_true q112)); try go_wp2_with (first | ((with_reducible refine gate_dst (N := 4) rfl ?_); refine bxE 78 (cs := #[.string (⟨#[]⟩ : ByteArray), .int .i64 0]) ?_; intro gb110 hg w19 hbox hb; have BK110 := Aside0.mk hbox; have GW110 := kG HB hg; have GE110 := kG HB hg; replace HB := kH HB hb; clear hb hbox hg; obtain ⟨hcz20_0, hfz20_0⟩ := cY0 BK110; obtain ⟨hcz20_1, hfz20_1⟩ := cY1 BK110) | (go_at_call 69; (with_reducible refine (potsherdref12_Name.calls k1 ((rd_T78 l0 x10_1).f0) true _ A6.out).mono ?_); rintro e w' ⟨rfl, ⟨nd, rfl⟩⟩; (try first | exact ⟨rfl, _, World.drewN_drewN _ _ _⟩ | exact ⟨rfl, _, Eq.trans (World.drewN_drewN _ _ _) (congrArg (World.drewN _) (Nat.add_assoc _ _ _))⟩); have p112 : 0 ≤ ((ji9) : Int) := dT; have q112 : (ji9) < (l0.length : Int) := dT; obtain ⟨ad112, e112, hx112_0, hx112_1⟩ := at_T78 HR0.out (ji9) p112 q112; obtain rfl : ad109 = ad112 := (by injection e112); have hn112_0 : ad109.block ≠ gb110 := Nat.ne_of_lt (Nat.lt_of_lt_of_le (by have := World.block_lt_of_cell? _ _ hx112_0; first | rwa [add_block] at this | exact this) GW110.out); have hn112_1 : ad109.block ≠ gb110 := Nat.ne_of_lt (Nat.lt_of_lt_of_le (by have := World.block_lt_of_cell? _ _ hx112_0; first | rwa [add_block] at this | exact this) GW110.out); replace hx112_0 := xC HB hx112_0; replace hx112_1 := xC HB hx112_1; replace hx112_0 := cF hn112_0 0 (.string ((rd_T78 l0 x10_1).f0)) hx112_0; replace hx112_1 := cF hn112_0 0 (.string ((rd_T78 l0 x10_1).f0)) hx112_1; replace hx112_0 := cF hn112_1 1 (.int .i64 ((rd_T78 l0 x10_1).f1)) hx112_0; replace hx112_1 := cF hn112_1 1 (.int .i64 ((rd_T78 l0 x10_1).f1)) hx112_1; (try have hy112_0 := fun (n_ : Nat) => (show ((((w19.drewN n_).setCell ⟨gb110, 0, none⟩ (.string ((rd_T78 l0 x10_1).f0))).setCell ⟨gb110, 1, none⟩ (.int .i64 ((rd_T78 l0 x10_1).f1)))).cell? _ = some _ from hx112_0)); (try have hy112_1 := fun (n_ : Nat) => (show ((((w19.drewN n_).setCell ⟨gb110, 0, none⟩ (.string ((rd_T78 l0 x10_1).f0))).setCell ⟨gb110, 1, none⟩ (.int .i64 ((rd_T78 l0 x10_1).f1)))).cell? _ = some _ from hx112_1)); clear hn112_0; clear hn112_1; replace p112 := eq_true p112; replace q112 := eq_true q112)))
          go_roundg k1
          case measure => have := HK1.out; omega
          case rel => exact ⟨(wrap64 (x10_1 + 1)), sI, H', ⟨oK HK1⟩, ⟨mH HB⟩⟩
       ·
        rw [if_neg c12] at H
        have c12b0 : (Op.bytesLess (((rd_T78 l0 (ji9)).f0).toList) (((rd_T78 l0 x10_1).f0).toList)) = false := by simpa using c12
        clear c12; obtain rfl := Option.some.inj H; have p109 : 0 ≤ (x10_1 : Int) := dT; have q109 : x10_1 < (l0.length : Int) := dT; obtain ⟨ad109, e109, hx109_0, hx109_1⟩ := at_T78 HR0.out x10_1 p109 q109
        cases e109
        replace hx109_0 := xC HB hx109_0; replace hx109_1 := xC HB hx109_1; replace p109 := eq_true p109; replace q109 := eq_true q109
        go_wp2_with (first | ((with_reducible refine gate_dst (N := 4) rfl ?_); refine bxE 78 (cs := #[.string (⟨#[]⟩ : ByteArray), .int .i64 0]) ?_; intro gb110 hg w21 hbox hb; have BK110 := Aside0.mk hbox; have GW110 := kG HB hg; have GE110 := kG HB hg; replace HB := kH HB hb; clear hb hbox hg; obtain ⟨hcz22_0, hfz22_0⟩ := cY0 BK110; obtain ⟨hcz22_1, hfz22_1⟩ := cY1 BK110) | (go_at_call 69; (with_reducible refine (potsherdref12_Name.calls k1 ((rd_T78 l0 x10_1).f0) true _ A6.out).mono ?_); rintro e w' ⟨rfl, ⟨nd, rfl⟩⟩; (try first | exact ⟨rfl, _, World.drewN_drewN _ _ _⟩ | exact ⟨rfl, _, Eq.trans (World.drewN_drewN _ _ _) (congrArg (World.drewN _) (Nat.add_assoc _ _ _))⟩); have p112 : 0 ≤ ((ji9) : Int) := dT; have q112 : (ji9) < (l0.length : Int) := dT; obtain ⟨ad112, e112, hx112_0, hx112_1⟩ := at_T78 HR0.out (ji9) p112 q112; obtain rfl : ad109 = ad112 := (by injection e112); have hn112_0 : ad109.block ≠ gb110 := Nat.ne_of_lt (Nat.lt_of_lt_of_le (by have := World.block_lt_of_cell? _ _ hx112_0; first | rwa [add_block] at this | exact this) GW110.out); have hn112_1 : ad109.block ≠ gb110 := Nat.ne_of_lt (Nat.lt_of_lt_of_le (by have := World.block_lt_of_cell? _ _ hx112_0; first | rwa [add_block] at this | exact this) GW110.out); replace hx112_0 := xC HB hx112_0; replace hx112_1 := xC HB hx112_1; replace hx112_0 := cF hn112_0 0 (.string ((rd_T78 l0 x10_1).f0)) hx112_0; replace hx112_1 := cF hn112_0 0 (.string ((rd_T78 l0 x10_1).f0)) hx112_1; replace hx112_0 := cF hn112_1 1 (.int .i64 ((rd_T78 l0 x10_1).f1)) hx112_0; replace hx112_1 := cF hn112_1 1 (.int .i64 ((rd_T78 l0 x10_1).f1)) hx112_1; (try have hy112_0 := fun (n_ : Nat) => (show ((((w21.drewN n_).setCell ⟨gb110, 0, none⟩ (.string ((rd_T78 l0 x10_1).f0))).setCell ⟨gb110, 1, none⟩ (.int .i64 ((rd_T78 l0 x10_1).f1)))).cell? _ = some _ from hx112_0)); (try have hy112_1 := fun (n_ : Nat) => (show ((((w21.drewN n_).setCell ⟨gb110, 0, none⟩ (.string ((rd_T78 l0 x10_1).f0))).setCell ⟨gb110, 1, none⟩ (.int .i64 ((rd_T78 l0 x10_1).f1)))).cell? _ = some _ from hx112_1)); clear hn112_0; clear hn112_1; replace p112 := eq_true p112; replace q112 := eq_true q112))
        repeat (go_quiet (first | ((with_reducible refine gate_dst (N := 4) rfl ?_); refine bxE 78 (cs := #[.string (⟨#[]⟩ : ByteArray), .int .i64 0]) ?_; intro gb110 hg w21 hbox hb; have BK110 := Aside0.mk hbox; have GW110 := kG HB hg; have GE110 := kG HB hg; replace HB := kH HB hb; clear hb hbox hg; obtain ⟨hcz22_0, hfz22_0⟩ := cY0 BK110; obtain ⟨hcz22_1, hfz22_1⟩ := cY1 BK110) | (go_at_call 69; (with_reducible refine (potsherdref12_Name.calls k1 ((rd_T78 l0 x10_1).f0) true _ A6.out).mono ?_); rintro e w' ⟨rfl, ⟨nd, rfl⟩⟩; (try first | exact ⟨rfl, _, World.drewN_drewN _ _ _⟩ | exact ⟨rfl, _, Eq.trans (World.drewN_drewN _ _ _) (congrArg (World.drewN _) (Nat.add_assoc _ _ _))⟩); have p112 : 0 ≤ ((ji9) : Int) := dT; have q112 : (ji9) < (l0.length : Int) := dT; obtain ⟨ad112, e112, hx112_0, hx112_1⟩ := at_T78 HR0.out (ji9) p112 q112; obtain rfl : ad109 = ad112 := (by injection e112); have hn112_0 : ad109.block ≠ gb110 := Nat.ne_of_lt (Nat.lt_of_lt_of_le (by have := World.block_lt_of_cell? _ _ hx112_0; first | rwa [add_block] at this | exact this) GW110.out); have hn112_1 : ad109.block ≠ gb110 := Nat.ne_of_lt (Nat.lt_of_lt_of_le (by have := World.block_lt_of_cell? _ _ hx112_0; first | rwa [add_block] at this | exact this) GW110.out); replace hx112_0 := xC HB hx112_0; replace hx112_1 := xC HB hx112_1; replace hx112_0 := cF hn112_0 0 (.string ((rd_T78 l0 x10_1).f0)) hx112_0; replace hx112_1 := cF hn112_0 0 (.string ((rd_T78 l0 x10_1).f0)) hx112_1; replace hx112_0 := cF hn112_1 1 (.int .i64 ((rd_T78 l0 x10_1).f1)) hx112_0; replace hx112_1 := cF hn112_1 1 (.int .i64 ((rd_T78 l0 x10_1).f1)) hx112_1; (try have hy112_0 := fun (n_ : Nat) => (show ((((w21.drewN n_).setCell ⟨gb110, 0, none⟩ (.string ((rd_T78 l0 x10_1).f0))).setCell ⟨gb110, 1, none⟩ (.int .i64 ((rd_T78 l0 x10_1).f1)))).cell? _ = some _ from hx112_0)); (try have hy112_1 := fun (n_ : Nat) => (show ((((w21.drewN n_).setCell ⟨gb110, 0, none⟩ (.string ((rd_T78 l0 x10_1).f0))).setCell ⟨gb110, 1, none⟩ (.int .i64 ((rd_T78 l0 x10_1).f1)))).cell? _ = some _ from hx112_1)); clear hn112_0; clear hn112_1; replace p112 := eq_true p112; replace q112 := eq_true q112)); try go_wp2_with (first | ((with_reducible refine gate_dst (N := 4) rfl ?_); refine bxE 78 (cs := #[.string (⟨#[]⟩ : ByteArray), .int .i64 0]) ?_; intro gb110 hg w21 hbox hb; have BK110 := Aside0.mk hbox; have GW110 := kG HB hg; have GE110 := kG HB hg; replace HB := kH HB hb; clear hb hbox hg; obtain ⟨hcz22_0, hfz22_0⟩ := cY0 BK110; obtain ⟨hcz22_1, hfz22_1⟩ := cY1 BK110) | (go_at_call 69; (with_reducible refine (potsherdref12_Name.calls k1 ((rd_T78 l0 x10_1).f0) true _ A6.out).mono ?_); rintro e w' ⟨rfl, ⟨nd, rfl⟩⟩; (try first | exact ⟨rfl, _, World.drewN_drewN _ _ _⟩ | exact ⟨rfl, _, Eq.trans (World.drewN_drewN _ _ _) (congrArg (World.drewN _) (Nat.add_assoc _ _ _))⟩); have p112 : 0 ≤ ((ji9) : Int) := dT; have q112 : (ji9) < (l0.length : Int) := dT; obtain ⟨ad112, e112, hx112_0, hx112_1⟩ := at_T78 HR0.out (ji9) p112 q112; obtain rfl : ad109 = ad112 := (by injection e112); have hn112_0 : ad109.block ≠ gb110 := Nat.ne_of_lt (Nat.lt_of_lt_of_le (by have := World.block_lt_of_cell? _ _ hx112_0; first | rwa [add_block] at this | exact this) GW110.out); have hn112_1 : ad109.block ≠ gb110 := Nat.ne_of_lt (Nat.lt_of_lt_of_le (by have := World.block_lt_of_cell? _ _ hx112_0; first | rwa [add_block] at this | exact this) GW110.out); replace hx112_0 := xC HB hx112_0; replace hx112_1 := xC HB hx112_1; replace hx112_0 := cF hn112_0 0 (.string ((rd_T78 l0 x10_1).f0)) hx112_0; replace hx112_1 := cF hn112_0 0 (.string ((rd_T78 l0 x10_1).f0)) hx112_1; replace hx112_0 := cF hn112_1 1 (.int .i64 ((rd_T78 l0 x10_1).f1)) hx112_0; replace hx112_1 := cF hn112_1 1 (.int .i64 ((rd_T78 l0 x10_1).f1)) hx112_1; (try have hy112_0 := fun (n_ : Nat) => (show ((((w21.drewN n_).setCell ⟨gb110, 0, none⟩ (.string ((rd_T78 l0 x10_1).f0))).setCell ⟨gb110, 1, none⟩ (.int .i64 ((rd_T78 l0 x10_1).f1)))).cell? _ = some _ from hx112_0)); (try have hy112_1 := fun (n_ : Nat) => (show ((((w21.drewN n_).setCell ⟨gb110, 0, none⟩ (.string ((rd_T78 l0 x10_1).f0))).setCell ⟨gb110, 1, none⟩ (.int .i64 ((rd_T78 l0 x10_1).f1)))).cell? _ = some _ from hx112_1)); clear hn112_0; clear hn112_1; replace p112 := eq_true p112; replace q112 := eq_true q112)))
        go_ret
        exact ⟨by first | rfl | exact congrArg (fun b_ => Ending.returned (Value.bool b_)) HRET.out | (rw [HRET.out]) | (simp [errW_none, errW_some] <;> rfl) | (simp only [← hji9]; first | rfl | (simp [errW_none, errW_some] <;> rfl)) | (simp [*, errW_none, errW_some] <;> rfl), mH HB⟩
      ·
       rw [if_neg c8] at H; have c8b0 : decide (0 < x10_1) = false := decide_eq_false c8; clear c8
       by_cases c23 : ((rd_T78 l0 x10_1).f1) < 1
       ·
        rw [if_pos c23] at H; have c23b0 := decide_eq_true c23; clear c23; obtain rfl := Option.some.inj H; have p109 : 0 ≤ (x10_1 : Int) := dT; have q109 : x10_1 < (l0.length : Int) := dT; obtain ⟨ad109, e109, hx109_0, hx109_1⟩ := at_T78 HR0.out x10_1 p109 q109
        cases e109
        replace hx109_0 := xC HB hx109_0; replace hx109_1 := xC HB hx109_1; replace p109 := eq_true p109; replace q109 := eq_true q109
        go_wp2_with (first | ((with_reducible refine gate_dst (N := 4) rfl ?_); refine bxE 78 (cs := #[.string (⟨#[]⟩ : ByteArray), .int .i64 0]) ?_; intro gb110 hg w24 hbox hb; have BK110 := Aside0.mk hbox; have GW110 := kG HB hg; have GE110 := kG HB hg; replace HB := kH HB hb; clear hb hbox hg; obtain ⟨hcz25_0, hfz25_0⟩ := cY0 BK110; obtain ⟨hcz25_1, hfz25_1⟩ := cY1 BK110) | (go_at_call 69; (with_reducible refine (potsherdref12_Name.calls k1 ((rd_T78 l0 x10_1).f0) true _ A6.out).mono ?_); rintro e w' ⟨rfl, ⟨nd, rfl⟩⟩; (try first | exact ⟨rfl, _, World.drewN_drewN _ _ _⟩ | exact ⟨rfl, _, Eq.trans (World.drewN_drewN _ _ _) (congrArg (World.drewN _) (Nat.add_assoc _ _ _))⟩)))
        repeat (go_quiet (first | ((with_reducible refine gate_dst (N := 4) rfl ?_); refine bxE 78 (cs := #[.string (⟨#[]⟩ : ByteArray), .int .i64 0]) ?_; intro gb110 hg w24 hbox hb; have BK110 := Aside0.mk hbox; have GW110 := kG HB hg; have GE110 := kG HB hg; replace HB := kH HB hb; clear hb hbox hg; obtain ⟨hcz25_0, hfz25_0⟩ := cY0 BK110; obtain ⟨hcz25_1, hfz25_1⟩ := cY1 BK110) | (go_at_call 69; (with_reducible refine (potsherdref12_Name.calls k1 ((rd_T78 l0 x10_1).f0) true _ A6.out).mono ?_); rintro e w' ⟨rfl, ⟨nd, rfl⟩⟩; (try first | exact ⟨rfl, _, World.drewN_drewN _ _ _⟩ | exact ⟨rfl, _, Eq.trans (World.drewN_drewN _ _ _) (congrArg (World.drewN _) (Nat.add_assoc _ _ _))⟩))); try go_wp2_with (first | ((with_reducible refine gate_dst (N := 4) rfl ?_); refine bxE 78 (cs := #[.string (⟨#[]⟩ : ByteArray), .int .i64 0]) ?_; intro gb110 hg w24 hbox hb; have BK110 := Aside0.mk hbox; have GW110 := kG HB hg; have GE110 := kG HB hg; replace HB := kH HB hb; clear hb hbox hg; obtain ⟨hcz25_0, hfz25_0⟩ := cY0 BK110; obtain ⟨hcz25_1, hfz25_1⟩ := cY1 BK110) | (go_at_call 69; (with_reducible refine (potsherdref12_Name.calls k1 ((rd_T78 l0 x10_1).f0) true _ A6.out).mono ?_); rintro e w' ⟨rfl, ⟨nd, rfl⟩⟩; (try first | exact ⟨rfl, _, World.drewN_drewN _ _ _⟩ | exact ⟨rfl, _, Eq.trans (World.drewN_drewN _ _ _) (congrArg (World.drewN _) (Nat.add_assoc _ _ _))⟩))))
        go_ret
        exact ⟨rT, mH HB⟩
       ·
        rw [if_neg c23] at H; have c23b0 := decide_eq_false c23; clear c23
        by_cases c26 : ((rd_T78 l0 x10_1).f1) ≥ 12
        ·
         rw [if_pos c26] at H; have c26b0 : decide (12 ≤ ((rd_T78 l0 x10_1).f1)) = true := decide_eq_true c26; clear c26; obtain rfl := Option.some.inj H; have p109 : 0 ≤ (x10_1 : Int) := dT; have q109 : x10_1 < (l0.length : Int) := dT; obtain ⟨ad109, e109, hx109_0, hx109_1⟩ := at_T78 HR0.out x10_1 p109 q109
         cases e109
         replace hx109_0 := xC HB hx109_0; replace hx109_1 := xC HB hx109_1; replace p109 := eq_true p109; replace q109 := eq_true q109
         go_wp2_with (first | ((with_reducible refine gate_dst (N := 4) rfl ?_); refine bxE 78 (cs := #[.string (⟨#[]⟩ : ByteArray), .int .i64 0]) ?_; intro gb110 hg w27 hbox hb; have BK110 := Aside0.mk hbox; have GW110 := kG HB hg; have GE110 := kG HB hg; replace HB := kH HB hb; clear hb hbox hg; obtain ⟨hcz28_0, hfz28_0⟩ := cY0 BK110; obtain ⟨hcz28_1, hfz28_1⟩ := cY1 BK110) | (go_at_call 69; (with_reducible refine (potsherdref12_Name.calls k1 ((rd_T78 l0 x10_1).f0) true _ A6.out).mono ?_); rintro e w' ⟨rfl, ⟨nd, rfl⟩⟩; (try first | exact ⟨rfl, _, World.drewN_drewN _ _ _⟩ | exact ⟨rfl, _, Eq.trans (World.drewN_drewN _ _ _) (congrArg (World.drewN _) (Nat.add_assoc _ _ _))⟩)))
         repeat (go_quiet (first | ((with_reducible refine gate_dst (N := 4) rfl ?_); refine bxE 78 (cs := #[.string (⟨#[]⟩ : ByteArray), .int .i64 0]) ?_; intro gb110 hg w27 hbox hb; have BK110 := Aside0.mk hbox; have GW110 := kG HB hg; have GE110 := kG HB hg; replace HB := kH HB hb; clear hb hbox hg; obtain ⟨hcz28_0, hfz28_0⟩ := cY0 BK110; obtain ⟨hcz28_1, hfz28_1⟩ := cY1 BK110) | (go_at_call 69; (with_reducible refine (potsherdref12_Name.calls k1 ((rd_T78 l0 x10_1).f0) true _ A6.out).mono ?_); rintro e w' ⟨rfl, ⟨nd, rfl⟩⟩; (try first | exact ⟨rfl, _, World.drewN_drewN _ _ _⟩ | exact ⟨rfl, _, Eq.trans (World.drewN_drewN _ _ _) (congrArg (World.drewN _) (Nat.add_assoc _ _ _))⟩))); try go_wp2_with (first | ((with_reducible refine gate_dst (N := 4) rfl ?_); refine bxE 78 (cs := #[.string (⟨#[]⟩ : ByteArray), .int .i64 0]) ?_; intro gb110 hg w27 hbox hb; have BK110 := Aside0.mk hbox; have GW110 := kG HB hg; have GE110 := kG HB hg; replace HB := kH HB hb; clear hb hbox hg; obtain ⟨hcz28_0, hfz28_0⟩ := cY0 BK110; obtain ⟨hcz28_1, hfz28_1⟩ := cY1 BK110) | (go_at_call 69; (with_reducible refine (potsherdref12_Name.calls k1 ((rd_T78 l0 x10_1).f0) true _ A6.out).mono ?_); rintro e w' ⟨rfl, ⟨nd, rfl⟩⟩; (try first | exact ⟨rfl, _, World.drewN_drewN _ _ _⟩ | exact ⟨rfl, _, Eq.trans (World.drewN_drewN _ _ _) (congrArg (World.drewN _) (Nat.add_assoc _ _ _))⟩))))
         go_ret
         exact ⟨rT, mH HB⟩
        ·
         rw [if_neg c26] at H; have c26b0 : decide (12 ≤ ((rd_T78 l0 x10_1).f1)) = false := decide_eq_false c26; clear c26; have H' := Aside0.mk H; clear H; have p109 : 0 ≤ (x10_1 : Int) := dT; have q109 : x10_1 < (l0.length : Int) := dT; obtain ⟨ad109, e109, hx109_0, hx109_1⟩ := at_T78 HR0.out x10_1 p109 q109
         cases e109
         replace hx109_0 := xC HB hx109_0; replace hx109_1 := xC HB hx109_1; replace p109 := eq_true p109; replace q109 := eq_true q109
         go_wp2_with (first | ((with_reducible refine gate_dst (N := 4) rfl ?_); refine bxE 78 (cs := #[.string (⟨#[]⟩ : ByteArray), .int .i64 0]) ?_; intro gb110 hg w29 hbox hb; have BK110 := Aside0.mk hbox; have GW110 := kG HB hg; have GE110 := kG HB hg; replace HB := kH HB hb; clear hb hbox hg; obtain ⟨hcz30_0, hfz30_0⟩ := cY0 BK110; obtain ⟨hcz30_1, hfz30_1⟩ := cY1 BK110) | (go_at_call 69; (with_reducible refine (potsherdref12_Name.calls k1 ((rd_T78 l0 x10_1).f0) true _ A6.out).mono ?_); rintro e w' ⟨rfl, ⟨nd, rfl⟩⟩; (try first | exact ⟨rfl, _, World.drewN_drewN _ _ _⟩ | exact ⟨rfl, _, Eq.trans (World.drewN_drewN _ _ _) (congrArg (World.drewN _) (Nat.add_assoc _ _ _))⟩)))
         repeat (go_quiet (first | ((with_reducible refine gate_dst (N := 4) rfl ?_); refine bxE 78 (cs := #[.string (⟨#[]⟩ : ByteArray), .int .i64 0]) ?_; intro gb110 hg w29 hbox hb; have BK110 := Aside0.mk hbox; have GW110 := kG HB hg; have GE110 := kG HB hg; replace HB := kH HB hb; clear hb hbox hg; obtain ⟨hcz30_0, hfz30_0⟩ := cY0 BK110; obtain ⟨hcz30_1, hfz30_1⟩ := cY1 BK110) | (go_at_call 69; (with_reducible refine (potsherdref12_Name.calls k1 ((rd_T78 l0 x10_1).f0) true _ A6.out).mono ?_); rintro e w' ⟨rfl, ⟨nd, rfl⟩⟩; (try first | exact ⟨rfl, _, World.drewN_drewN _ _ _⟩ | exact ⟨rfl, _, Eq.trans (World.drewN_drewN _ _ _) (congrArg (World.drewN _) (Nat.add_assoc _ _ _))⟩))); try go_wp2_with (first | ((with_reducible refine gate_dst (N := 4) rfl ?_); refine bxE 78 (cs := #[.string (⟨#[]⟩ : ByteArray), .int .i64 0]) ?_; intro gb110 hg w29 hbox hb; have BK110 := Aside0.mk hbox; have GW110 := kG HB hg; have GE110 := kG HB hg; replace HB := kH HB hb; clear hb hbox hg; obtain ⟨hcz30_0, hfz30_0⟩ := cY0 BK110; obtain ⟨hcz30_1, hfz30_1⟩ := cY1 BK110) | (go_at_call 69; (with_reducible refine (potsherdref12_Name.calls k1 ((rd_T78 l0 x10_1).f0) true _ A6.out).mono ?_); rintro e w' ⟨rfl, ⟨nd, rfl⟩⟩; (try first | exact ⟨rfl, _, World.drewN_drewN _ _ _⟩ | exact ⟨rfl, _, Eq.trans (World.drewN_drewN _ _ _) (congrArg (World.drewN _) (Nat.add_assoc _ _ _))⟩))))
         go_roundg k1
         case measure => have := HK1.out; omega
         case rel => exact ⟨(wrap64 (x10_1 + 1)), sI, H', ⟨oK HK1⟩, ⟨mH HB⟩⟩
     ·
      replace c7 := Bool.eq_false_iff.mpr c7; subst c7
      have H1 : (some false) = some r := by rw [if_neg (show ¬ (false = true) by decide)] at H; exact H
      clear H; have H := H1; clear H1; obtain rfl := Option.some.inj H; have p109 : 0 ≤ (x10_1 : Int) := dT; have q109 : x10_1 < (l0.length : Int) := dT; obtain ⟨ad109, e109, hx109_0, hx109_1⟩ := at_T78 HR0.out x10_1 p109 q109
      cases e109
      replace hx109_0 := xC HB hx109_0; replace hx109_1 := xC HB hx109_1; replace p109 := eq_true p109; replace q109 := eq_true q109
      go_wp2_with (first | ((with_reducible refine gate_dst (N := 4) rfl ?_); refine bxE 78 (cs := #[.string (⟨#[]⟩ : ByteArray), .int .i64 0]) ?_; intro gb110 hg w31 hbox hb; have BK110 := Aside0.mk hbox; have GW110 := kG HB hg; have GE110 := kG HB hg; replace HB := kH HB hb; clear hb hbox hg; obtain ⟨hcz32_0, hfz32_0⟩ := cY0 BK110; obtain ⟨hcz32_1, hfz32_1⟩ := cY1 BK110) | (go_at_call 69; (with_reducible refine (potsherdref12_Name.calls k1 ((rd_T78 l0 x10_1).f0) false _ A6.out).mono ?_); rintro e w' ⟨rfl, ⟨nd, rfl⟩⟩; (try first | exact ⟨rfl, _, World.drewN_drewN _ _ _⟩ | exact ⟨rfl, _, Eq.trans (World.drewN_drewN _ _ _) (congrArg (World.drewN _) (Nat.add_assoc _ _ _))⟩)))
      repeat (go_quiet (first | ((with_reducible refine gate_dst (N := 4) rfl ?_); refine bxE 78 (cs := #[.string (⟨#[]⟩ : ByteArray), .int .i64 0]) ?_; intro gb110 hg w31 hbox hb; have BK110 := Aside0.mk hbox; have GW110 := kG HB hg; have GE110 := kG HB hg; replace HB := kH HB hb; clear hb hbox hg; obtain ⟨hcz32_0, hfz32_0⟩ := cY0 BK110; obtain ⟨hcz32_1, hfz32_1⟩ := cY1 BK110) | (go_at_call 69; (with_reducible refine (potsherdref12_Name.calls k1 ((rd_T78 l0 x10_1).f0) false _ A6.out).mono ?_); rintro e w' ⟨rfl, ⟨nd, rfl⟩⟩; (try first | exact ⟨rfl, _, World.drewN_drewN _ _ _⟩ | exact ⟨rfl, _, Eq.trans (World.drewN_drewN _ _ _) (congrArg (World.drewN _) (Nat.add_assoc _ _ _))⟩))); try go_wp2_with (first | ((with_reducible refine gate_dst (N := 4) rfl ?_); refine bxE 78 (cs := #[.string (⟨#[]⟩ : ByteArray), .int .i64 0]) ?_; intro gb110 hg w31 hbox hb; have BK110 := Aside0.mk hbox; have GW110 := kG HB hg; have GE110 := kG HB hg; replace HB := kH HB hb; clear hb hbox hg; obtain ⟨hcz32_0, hfz32_0⟩ := cY0 BK110; obtain ⟨hcz32_1, hfz32_1⟩ := cY1 BK110) | (go_at_call 69; (with_reducible refine (potsherdref12_Name.calls k1 ((rd_T78 l0 x10_1).f0) false _ A6.out).mono ?_); rintro e w' ⟨rfl, ⟨nd, rfl⟩⟩; (try first | exact ⟨rfl, _, World.drewN_drewN _ _ _⟩ | exact ⟨rfl, _, Eq.trans (World.drewN_drewN _ _ _) (congrArg (World.drewN _) (Nat.add_assoc _ _ _))⟩))))
      go_ret
      exact ⟨rT, mH HB⟩
    ·
     rw [if_neg c3] at H; have c3b0 := decide_eq_false c3; clear c3; obtain rfl := Option.some.inj H
     go_wp2
     repeat (go_quiet (fail); try go_wp2)
     go_ret
     exact ⟨rT, mH HB⟩
mutual
def potsherdref12_MayNode.j0 : Nat → Bool → Int → Int → Int → List Int → List (S78) → Option (Bool)
 | 0, _, _, _, _, _, _ => none
 | k + 1, x81, x114000, x114001, x114002, x114003, x114004 => if x81 = true then (some false) else (potsherdref12_MayNode.l0 k x114003 (x114003.length : Int) 0 x114000 x114001 x114002 x114003 x114004)
def potsherdref12_MayNode.l0 : Nat → List Int → Int → Int → Int → Int → Int → List Int → List (S78) → Option (Bool)
 | 0, _, _, _, _, _, _, _, _ => none
 | k + 1, x83, x84, x85, x114000, x114001, x114002, x114003, x114004 => if x85 < x84 then (if 0 ≤ x85 then (if x85 < (x83.length : Int) then (if (rd x83 x85) < 0 then (some false) else (if (rd x83 x85) > 1099511627776 then (some false) else (if (rd x83 x85) = 0 then (potsherdref12_MayNode.l0 k x83 x84 (wrap64 (x85 + 1)) x114000 x114001 x114002 x114003 x114004) else (if (wrap64 (x85 * 16)) ≥ x114002 then (some false) else (potsherdref12_MayNode.l0 k x83 x84 (wrap64 (x85 + 1)) x114000 x114001 x114002 x114003 x114004))))) else (none)) else (none)) else (some true)
end
def potsherdref12_MayNode.f (k : Nat) (a0_0 : Int) (a0_1 : Int) (a0_2 : Int) (l0_3 : List Int) (l0_4 : List (S78)) : Option (Bool) := if a0_0 = 0 then (if a0_1 = 0 then (if a0_2 = 0 then (if (l0_3.length : Int) = 0 then (some ((l0_4.length : Int) == 0)) else (some false)) else (some false)) else (some false)) else (if a0_0 = 2 then (if a0_1 = 1 then (if a0_2 = 0 then (if (l0_3.length : Int) = 0 then ((potsherdref12_MayEntries.f k l0_4).bind fun t114 => (some t114)) else (some false)) else (some false)) else (some false)) else (if a0_0 = 1 then (if a0_1 < 0 then (potsherdref12_MayNode.j0 k true a0_0 a0_1 a0_2 l0_3 l0_4) else (if a0_1 > 120 then (potsherdref12_MayNode.j0 k true a0_0 a0_1 a0_2 l0_3 l0_4) else (if a0_2 < 0 then (potsherdref12_MayNode.j0 k true a0_0 a0_1 a0_2 l0_3 l0_4) else (if a0_2 > 80 then (potsherdref12_MayNode.j0 k true a0_0 a0_1 a0_2 l0_3 l0_4) else (if (l0_3.length : Int) = 5 then (potsherdref12_MayNode.j0 k ((l0_4.length : Int) != 0) a0_0 a0_1 a0_2 l0_3 l0_4) else (potsherdref12_MayNode.j0 k true a0_0 a0_1 a0_2 l0_3 l0_4)))))) else (some false)))
theorem potsherdref12_MayNode.mono_l : ∀ k, (∀ y0 y1 y2 y3 y4 y5, LeO (potsherdref12_MayNode.j0 k y0 y1 y2 y3 y4 y5) (potsherdref12_MayNode.j0 (k + 1) y0 y1 y2 y3 y4 y5)) ∧ (∀ y0 y1 y2 y3 y4 y5 y6 y7, LeO (potsherdref12_MayNode.l0 k y0 y1 y2 y3 y4 y5 y6 y7) (potsherdref12_MayNode.l0 (k + 1) y0 y1 y2 y3 y4 y5 y6 y7))
 | 0 => ⟨fun _ _ _ _ _ _ r h => by simp [potsherdref12_MayNode.j0] at h, fun _ _ _ _ _ _ _ _ r h => by simp [potsherdref12_MayNode.l0] at h⟩
 | k + 1 => by
  obtain ⟨ih0, ih1⟩ := potsherdref12_MayNode.mono_l k; refine ⟨?_, ?_⟩
  ·
   intro y0 y1 y2 y3 y4 y5
   unfold potsherdref12_MayNode.j0
   repeat' with_reducible first | apply ih0 | apply ih1 | apply potsherdref12_MayEntries.mono | exact LeO.refl _ | exact LeO.none _ | refine LeO.ite ?_ ?_ | refine LeO.bind ?_ (fun _ => ?_)
  ·
   intro y0 y1 y2 y3 y4 y5 y6 y7
   unfold potsherdref12_MayNode.l0
   repeat' with_reducible first | apply ih0 | apply ih1 | apply potsherdref12_MayEntries.mono | exact LeO.refl _ | exact LeO.none _ | refine LeO.ite ?_ ?_ | refine LeO.bind ?_ (fun _ => ?_)
theorem potsherdref12_MayNode.mono : ∀ a0 a1 a2 a3 a4 k, LeO (potsherdref12_MayNode.f k a0 a1 a2 a3 a4) (potsherdref12_MayNode.f (k + 1) a0 a1 a2 a3 a4) := by
 intro a0 a1 a2 a3 a4 k; obtain ⟨ih0, ih1⟩ := potsherdref12_MayNode.mono_l k
 unfold potsherdref12_MayNode.f
 repeat' with_reducible first | apply ih0 | apply ih1 | apply potsherdref12_MayEntries.mono | exact LeO.refl _ | exact LeO.none _ | refine LeO.ite ?_ ?_ | refine LeO.bind ?_ (fun _ => ?_)
set_option maxHeartbeats 8000000 in
set_option maxRecDepth 100000 in
theorem potsherdref12_MayNode.calls (k : Nat) (a0_0 : Int) (a0_1 : Int) (a0_2 : Int) (A0_3 : Option Addr) (c0_3 : Nat) (l0_3 : List Int) (A0_4 : Option Addr) (c0_4 : Nat) (l0_4 : List (S78)) (r : Bool) (w : World) (hr0_3 : Kd.C (Kd.int .i64) w A0_3 l0_3.length l0_3) (hc0_3 : l0_3.length ≤ c0_3) (hr0_4 : Kd.C k78 w A0_4 l0_4.length l0_4) (hc0_4 : l0_4.length ≤ c0_4) (h : potsherdref12_MayNode.f k a0_0 a0_1 a0_2 l0_3 l0_4 = some r) :
 Calls Try.prog 24 #[.agg #[.int .i64 a0_0, .int .i64 a0_1, .int .i64 a0_2, .slice A0_3 l0_3.length c0_3, .slice A0_4 l0_4.length c0_4]] w fun e w' => e = .returned (.bool r) ∧ Below w.heap.size w w' := by
 have hu28 := Try.underlying28; have HR0_3 := Aside0.mk hr0_3; have HC0_3 := Aside0.mk hc0_3; clear hr0_3 hc0_3; have HR0_4 := Aside0.mk hr0_4; have HC0_4 := Aside0.mk hc0_4; clear hr0_4 hc0_4; have HB := Aside0.mk (Below.refl w.heap.size w); have H : (if a0_0 = 0 then (if a0_1 = 0 then (if a0_2 = 0 then (if (l0_3.length : Int) = 0 then (some ((l0_4.length : Int) == 0)) else (some false)) else (some false)) else (some false)) else (if a0_0 = 2 then (if a0_1 = 1 then (if a0_2 = 0 then (if (l0_3.length : Int) = 0 then ((potsherdref12_MayEntries.f k l0_4).bind fun t114 => (some t114)) else (some false)) else (some false)) else (some false)) else (if a0_0 = 1 then (if a0_1 < 0 then (potsherdref12_MayNode.j0 k true a0_0 a0_1 a0_2 l0_3 l0_4) else (if a0_1 > 120 then (potsherdref12_MayNode.j0 k true a0_0 a0_1 a0_2 l0_3 l0_4) else (if a0_2 < 0 then (potsherdref12_MayNode.j0 k true a0_0 a0_1 a0_2 l0_3 l0_4) else (if a0_2 > 80 then (potsherdref12_MayNode.j0 k true a0_0 a0_1 a0_2 l0_3 l0_4) else (if (l0_3.length : Int) = 5 then (potsherdref12_MayNode.j0 k ((l0_4.length : Int) != 0) a0_0 a0_1 a0_2 l0_3 l0_4) else (potsherdref12_MayNode.j0 k true a0_0 a0_1 a0_2 l0_3 l0_4)))))) else (some false)))) = some r := h; clear h
 by_cases c2 : a0_0 = 0
 ·
  rw [if_pos c2] at H; obtain ⟨c2b0, c2b1⟩ := eP c2; clear c2
  by_cases c3 : a0_1 = 0
  ·
   rw [if_pos c3] at H; obtain ⟨c3b0, c3b1⟩ := eP c3; clear c3
   by_cases c4 : a0_2 = 0
   ·
    rw [if_pos c4] at H; obtain ⟨c4b0, c4b1⟩ := eP c4; clear c4
    by_cases c5 : (l0_3.length : Int) = 0
    ·
     rw [if_pos c5] at H; obtain ⟨c5b0, c5b1⟩ := eP c5; clear c5; obtain rfl := Option.some.inj H
     go_enter Try.func24, Try.ntmps24
     go_wp2_with (first | ((with_reducible refine gate_dst (N := 1) rfl ?_); (try (refine gate_guard (by rfl) ?_; dsimp only)); refine bxE 28 (cs := #[.int .i64 a0_0, .int .i64 a0_1, .int .i64 a0_2, .slice A0_3 l0_3.length c0_3, .slice A0_4 l0_4.length c0_4]) ?_; intro gb113 hg w6 hbox hb; have BK113 := Aside0.mk hbox; have GW113 := kG HB hg; have GE113 := kG HB hg; replace HB := kH HB hb; clear hb hbox hg; obtain ⟨hcz7_0, hfz7_0⟩ := cY0 BK113; obtain ⟨hcz7_1, hfz7_1⟩ := cY1 BK113; obtain ⟨hcz7_2, hfz7_2⟩ := cY2 BK113; obtain ⟨hcz7_3, hfz7_3⟩ := cY3 BK113; obtain ⟨hcz7_4, hfz7_4⟩ := cY4 BK113))
     go_ret
     exact ⟨rT, mH HB⟩
    ·
     rw [if_neg c5] at H; obtain ⟨c5b0, c5b1⟩ := eN c5
     have c5b2 : ¬ (l0_3 = []) := fun h_ => c5 (by rw [h_]; rfl)
     obtain rfl := Option.some.inj H
     go_enter Try.func24, Try.ntmps24
     go_wp2_with (first | ((with_reducible refine gate_dst (N := 1) rfl ?_); (try (refine gate_guard (by rfl) ?_; dsimp only)); refine bxE 28 (cs := #[.int .i64 a0_0, .int .i64 a0_1, .int .i64 a0_2, .slice A0_3 l0_3.length c0_3, .slice A0_4 l0_4.length c0_4]) ?_; intro gb113 hg w8 hbox hb; have BK113 := Aside0.mk hbox; have GW113 := kG HB hg; have GE113 := kG HB hg; replace HB := kH HB hb; clear hb hbox hg; obtain ⟨hcz9_0, hfz9_0⟩ := cY0 BK113; obtain ⟨hcz9_1, hfz9_1⟩ := cY1 BK113; obtain ⟨hcz9_2, hfz9_2⟩ := cY2 BK113; obtain ⟨hcz9_3, hfz9_3⟩ := cY3 BK113; obtain ⟨hcz9_4, hfz9_4⟩ := cY4 BK113))
     go_ret
     exact ⟨rT, mH HB⟩
   ·
    rw [if_neg c4] at H; obtain ⟨c4b0, c4b1⟩ := eN c4; obtain rfl := Option.some.inj H
    go_enter Try.func24, Try.ntmps24
    go_wp2_with (first | ((with_reducible refine gate_dst (N := 1) rfl ?_); (try (refine gate_guard (by rfl) ?_; dsimp only)); refine bxE 28 (cs := #[.int .i64 a0_0, .int .i64 a0_1, .int .i64 a0_2, .slice A0_3 l0_3.length c0_3, .slice A0_4 l0_4.length c0_4]) ?_; intro gb113 hg w10 hbox hb; have BK113 := Aside0.mk hbox; have GW113 := kG HB hg; have GE113 := kG HB hg; replace HB := kH HB hb; clear hb hbox hg; obtain ⟨hcz11_0, hfz11_0⟩ := cY0 BK113; obtain ⟨hcz11_1, hfz11_1⟩ := cY1 BK113; obtain ⟨hcz11_2, hfz11_2⟩ := cY2 BK113; obtain ⟨hcz11_3, hfz11_3⟩ := cY3 BK113; obtain ⟨hcz11_4, hfz11_4⟩ := cY4 BK113))
    go_ret
    exact ⟨rT, mH HB⟩
  ·
   rw [if_neg c3] at H; obtain ⟨c3b0, c3b1⟩ := eN c3; obtain rfl := Option.some.inj H
   go_enter Try.func24, Try.ntmps24
   go_wp2_with (first | ((with_reducible refine gate_dst (N := 1) rfl ?_); (try (refine gate_guard (by rfl) ?_; dsimp only)); refine bxE 28 (cs := #[.int .i64 a0_0, .int .i64 a0_1, .int .i64 a0_2, .slice A0_3 l0_3.length c0_3, .slice A0_4 l0_4.length c0_4]) ?_; intro gb113 hg w12 hbox hb; have BK113 := Aside0.mk hbox; have GW113 := kG HB hg; have GE113 := kG HB hg; replace HB := kH HB hb; clear hb hbox hg; obtain ⟨hcz13_0, hfz13_0⟩ := cY0 BK113; obtain ⟨hcz13_1, hfz13_1⟩ := cY1 BK113; obtain ⟨hcz13_2, hfz13_2⟩ := cY2 BK113; obtain ⟨hcz13_3, hfz13_3⟩ := cY3 BK113; obtain ⟨hcz13_4, hfz13_4⟩ := cY4 BK113))
   go_ret
   exact ⟨rT, mH HB⟩
 ·
  rw [if_neg c2] at H; obtain ⟨c2b0, c2b1⟩ := eN c2
  by_cases c14 : a0_0 = 2
  ·
   rw [if_pos c14] at H; obtain ⟨c14b0, c14b1⟩ := eP c14; clear c14
   by_cases c15 : a0_1 = 1
   ·
    rw [if_pos c15] at H; obtain ⟨c15b0, c15b1⟩ := eP c15; clear c15
    by_cases c16 : a0_2 = 0
    ·
     rw [if_pos c16] at H; obtain ⟨c16b0, c16b1⟩ := eP c16; clear c16
     by_cases c17 : (l0_3.length : Int) = 0
     ·
      rw [if_pos c17] at H; obtain ⟨c17b0, c17b1⟩ := eP c17; clear c17; replace H := Option.bind_eq_some_iff.mp H; obtain ⟨t114, A180, H⟩ := H; have A18 := Aside0.mk A180; clear A180; obtain rfl := Option.some.inj H
      go_enter Try.func24, Try.ntmps24
      go_wp2_with (first | ((with_reducible refine gate_dst (N := 1) rfl ?_); (try (refine gate_guard (by rfl) ?_; dsimp only)); refine bxE 28 (cs := #[.int .i64 a0_0, .int .i64 a0_1, .int .i64 a0_2, .slice A0_3 l0_3.length c0_3, .slice A0_4 l0_4.length c0_4]) ?_; intro gb113 hg w19 hbox hb; have BK113 := Aside0.mk hbox; have GW113 := kG HB hg; have GE113 := kG HB hg; replace HB := kH HB hb; clear hb hbox hg; obtain ⟨hcz20_0, hfz20_0⟩ := cY0 BK113; obtain ⟨hcz20_1, hfz20_1⟩ := cY1 BK113; obtain ⟨hcz20_2, hfz20_2⟩ := cY2 BK113; obtain ⟨hcz20_3, hfz20_3⟩ := cY3 BK113; obtain ⟨hcz20_4, hfz20_4⟩ := cY4 BK113) | (go_at_call 50; (with_reducible refine (potsherdref12_MayEntries.calls k _ _ l0_4 t114 _ ?side1 ?side2 A18.out).mono ?_); (case side1 => exact mC HR0_4 HB); (case side2 => exact HC0_4.out); rintro e w21 ⟨rfl, hb⟩; replace BK113 := kB BK113 hb; replace HB := kH HB hb; (try clear hb)))
      go_ret
      exact ⟨rT, mH HB⟩
     ·
      rw [if_neg c17] at H; obtain ⟨c17b0, c17b1⟩ := eN c17
      have c17b2 : ¬ (l0_3 = []) := fun h_ => c17 (by rw [h_]; rfl)
      obtain rfl := Option.some.inj H
      go_enter Try.func24, Try.ntmps24
      go_wp2_with (first | ((with_reducible refine gate_dst (N := 1) rfl ?_); (try (refine gate_guard (by rfl) ?_; dsimp only)); refine bxE 28 (cs := #[.int .i64 a0_0, .int .i64 a0_1, .int .i64 a0_2, .slice A0_3 l0_3.length c0_3, .slice A0_4 l0_4.length c0_4]) ?_; intro gb113 hg w22 hbox hb; have BK113 := Aside0.mk hbox; have GW113 := kG HB hg; have GE113 := kG HB hg; replace HB := kH HB hb; clear hb hbox hg; obtain ⟨hcz23_0, hfz23_0⟩ := cY0 BK113; obtain ⟨hcz23_1, hfz23_1⟩ := cY1 BK113; obtain ⟨hcz23_2, hfz23_2⟩ := cY2 BK113; obtain ⟨hcz23_3, hfz23_3⟩ := cY3 BK113; obtain ⟨hcz23_4, hfz23_4⟩ := cY4 BK113))
      go_ret
      exact ⟨rT, mH HB⟩
    ·
     rw [if_neg c16] at H; obtain ⟨c16b0, c16b1⟩ := eN c16; obtain rfl := Option.some.inj H
     go_enter Try.func24, Try.ntmps24
     go_wp2_with (first | ((with_reducible refine gate_dst (N := 1) rfl ?_); (try (refine gate_guard (by rfl) ?_; dsimp only)); refine bxE 28 (cs := #[.int .i64 a0_0, .int .i64 a0_1, .int .i64 a0_2, .slice A0_3 l0_3.length c0_3, .slice A0_4 l0_4.length c0_4]) ?_; intro gb113 hg w24 hbox hb; have BK113 := Aside0.mk hbox; have GW113 := kG HB hg; have GE113 := kG HB hg; replace HB := kH HB hb; clear hb hbox hg; obtain ⟨hcz25_0, hfz25_0⟩ := cY0 BK113; obtain ⟨hcz25_1, hfz25_1⟩ := cY1 BK113; obtain ⟨hcz25_2, hfz25_2⟩ := cY2 BK113; obtain ⟨hcz25_3, hfz25_3⟩ := cY3 BK113; obtain ⟨hcz25_4, hfz25_4⟩ := cY4 BK113))
     go_ret
     exact ⟨rT, mH HB⟩
   ·
    rw [if_neg c15] at H; obtain ⟨c15b0, c15b1⟩ := eN c15; obtain rfl := Option.some.inj H
    go_enter Try.func24, Try.ntmps24
    go_wp2_with (first | ((with_reducible refine gate_dst (N := 1) rfl ?_); (try (refine gate_guard (by rfl) ?_; dsimp only)); refine bxE 28 (cs := #[.int .i64 a0_0, .int .i64 a0_1, .int .i64 a0_2, .slice A0_3 l0_3.length c0_3, .slice A0_4 l0_4.length c0_4]) ?_; intro gb113 hg w26 hbox hb; have BK113 := Aside0.mk hbox; have GW113 := kG HB hg; have GE113 := kG HB hg; replace HB := kH HB hb; clear hb hbox hg; obtain ⟨hcz27_0, hfz27_0⟩ := cY0 BK113; obtain ⟨hcz27_1, hfz27_1⟩ := cY1 BK113; obtain ⟨hcz27_2, hfz27_2⟩ := cY2 BK113; obtain ⟨hcz27_3, hfz27_3⟩ := cY3 BK113; obtain ⟨hcz27_4, hfz27_4⟩ := cY4 BK113))
    go_ret
    exact ⟨rT, mH HB⟩
  ·
   rw [if_neg c14] at H; obtain ⟨c14b0, c14b1⟩ := eN c14
   by_cases c28 : a0_0 = 1
   ·
    rw [if_pos c28] at H; obtain ⟨c28b0, c28b1⟩ := eP c28; clear c28; have HC29 := Aside0.mk H; clear H
    go_enter Try.func24, Try.ntmps24
    go_upto_region 8 with (first | ((with_reducible refine gate_dst (N := 1) rfl ?_); (try (refine gate_guard (by rfl) ?_; dsimp only)); refine bxE 28 (cs := #[.int .i64 a0_0, .int .i64 a0_1, .int .i64 a0_2, .slice A0_3 l0_3.length c0_3, .slice A0_4 l0_4.length c0_4]) ?_; intro gb113 hg w30 hbox hb; have BK113 := Aside0.mk hbox; have GW113 := kG HB hg; have GE113 := kG HB hg; replace HB := kH HB hb; clear hb hbox hg; obtain ⟨hcz31_0, hfz31_0⟩ := cY0 BK113; obtain ⟨hcz31_1, hfz31_1⟩ := cY1 BK113; obtain ⟨hcz31_2, hfz31_2⟩ := cY2 BK113; obtain ⟨hcz31_3, hfz31_3⟩ := cY3 BK113; obtain ⟨hcz31_4, hfz31_4⟩ := cY4 BK113))
    (try simp only [Act.put, lT, l0_, lS])
    go_cut [81] (fun v81 wc => ∃ (kq : Nat) (x81_28 : Bool), v81 = .bool x81_28 ∧ Aside0 (potsherdref12_MayNode.j0 kq x81_28 a0_0 a0_1 a0_2 l0_3 l0_4 = some r) ∧ Aside0 (kq ≤ k) ∧ Aside0 (wc.heap[gb113]? = some (.cells #[.int .i64 a0_0, .int .i64 a0_1, .int .i64 a0_2, (.slice A0_3 l0_3.length c0_3), (.slice A0_4 l0_4.length c0_4)] 28 (0, 0))) ∧ Aside0 (Below w.heap.size w wc))
    case first =>
     have H := HC29.out; clear HC29
     by_cases c32 : a0_1 < 0
     ·
      rw [if_pos c32] at H; have c32b0 := decide_eq_true c32; clear c32
      (first | rw [c32b0] | (simp only [i64_w, i32_w]; rw [c32b0]) | skip)
      have H' := Aside0.mk H; clear H; obtain ⟨hcz33_0, hfz33_0⟩ := cY0 BK113; obtain ⟨hcz33_1, hfz33_1⟩ := cY1 BK113; obtain ⟨hcz33_2, hfz33_2⟩ := cY2 BK113; obtain ⟨hcz33_3, hfz33_3⟩ := cY3 BK113; obtain ⟨hcz33_4, hfz33_4⟩ := cY4 BK113
      go_wp2
      go_meet
      case rel => exact ⟨_, (true), sI, H', ⟨by first | omega | exact Nat.le_refl _⟩, ⟨mB BK113⟩, ⟨mH HB⟩⟩
     ·
      rw [if_neg c32] at H; have c32b0 := decide_eq_false c32; clear c32
      (first | rw [c32b0] | (simp only [i64_w, i32_w]; rw [c32b0]) | skip)
      by_cases c34 : a0_1 > 120
      ·
       rw [if_pos c34] at H; have c34b0 : decide (120 < a0_1) = true := decide_eq_true c34; clear c34; have H' := Aside0.mk H; clear H; obtain ⟨hcz35_0, hfz35_0⟩ := cY0 BK113; obtain ⟨hcz35_1, hfz35_1⟩ := cY1 BK113; obtain ⟨hcz35_2, hfz35_2⟩ := cY2 BK113; obtain ⟨hcz35_3, hfz35_3⟩ := cY3 BK113; obtain ⟨hcz35_4, hfz35_4⟩ := cY4 BK113
       go_wp2
       go_meet
       case rel => exact ⟨_, (true), sI, H', ⟨by first | omega | exact Nat.le_refl _⟩, ⟨mB BK113⟩, ⟨mH HB⟩⟩
      ·
       rw [if_neg c34] at H; have c34b0 : decide (120 < a0_1) = false := decide_eq_false c34; clear c34
       by_cases c36 : a0_2 < 0
       ·
        rw [if_pos c36] at H; have c36b0 := decide_eq_true c36; clear c36; have H' := Aside0.mk H; clear H; obtain ⟨hcz37_0, hfz37_0⟩ := cY0 BK113; obtain ⟨hcz37_1, hfz37_1⟩ := cY1 BK113; obtain ⟨hcz37_2, hfz37_2⟩ := cY2 BK113; obtain ⟨hcz37_3, hfz37_3⟩ := cY3 BK113; obtain ⟨hcz37_4, hfz37_4⟩ := cY4 BK113
        go_wp2
        go_meet
        case rel => exact ⟨_, (true), sI, H', ⟨by first | omega | exact Nat.le_refl _⟩, ⟨mB BK113⟩, ⟨mH HB⟩⟩
       ·
        rw [if_neg c36] at H; have c36b0 := decide_eq_false c36; clear c36
        by_cases c38 : a0_2 > 80
        ·
         rw [if_pos c38] at H; have c38b0 : decide (80 < a0_2) = true := decide_eq_true c38; clear c38; have H' := Aside0.mk H; clear H; obtain ⟨hcz39_0, hfz39_0⟩ := cY0 BK113; obtain ⟨hcz39_1, hfz39_1⟩ := cY1 BK113; obtain ⟨hcz39_2, hfz39_2⟩ := cY2 BK113; obtain ⟨hcz39_3, hfz39_3⟩ := cY3 BK113; obtain ⟨hcz39_4, hfz39_4⟩ := cY4 BK113
         go_wp2
         go_meet
         case rel => exact ⟨_, (true), sI, H', ⟨by first | omega | exact Nat.le_refl _⟩, ⟨mB BK113⟩, ⟨mH HB⟩⟩
        ·
         rw [if_neg c38] at H; have c38b0 : decide (80 < a0_2) = false := decide_eq_false c38; clear c38
         by_cases c40 : (l0_3.length : Int) = 5
         ·
          rw [if_pos c40] at H; obtain ⟨c40b0, c40b1⟩ := eP c40; clear c40; have H' := Aside0.mk H; clear H; obtain ⟨hcz41_0, hfz41_0⟩ := cY0 BK113; obtain ⟨hcz41_1, hfz41_1⟩ := cY1 BK113; obtain ⟨hcz41_2, hfz41_2⟩ := cY2 BK113; obtain ⟨hcz41_3, hfz41_3⟩ := cY3 BK113; obtain ⟨hcz41_4, hfz41_4⟩ := cY4 BK113
          go_wp2
          go_meet
          case rel => exact ⟨_, (((l0_4.length : Int) != 0)), sI, H', ⟨by first | omega | exact Nat.le_refl _⟩, ⟨mB BK113⟩, ⟨mH HB⟩⟩
         ·
          rw [if_neg c40] at H; obtain ⟨c40b0, c40b1⟩ := eN c40; have H' := Aside0.mk H; clear H; obtain ⟨hcz42_0, hfz42_0⟩ := cY0 BK113; obtain ⟨hcz42_1, hfz42_1⟩ := cY1 BK113; obtain ⟨hcz42_2, hfz42_2⟩ := cY2 BK113; obtain ⟨hcz42_3, hfz42_3⟩ := cY3 BK113; obtain ⟨hcz42_4, hfz42_4⟩ := cY4 BK113
          go_wp2
          go_meet
          case rel => exact ⟨_, (true), sI, H', ⟨by first | omega | exact Nat.le_refl _⟩, ⟨mB BK113⟩, ⟨mH HB⟩⟩
    case rest =>
     clear HC29
     (try clear c2); (try clear c2b0); (try clear c2b1); (try clear c14); (try clear c14b0); (try clear c14b1); (try clear c28); (try clear c28b0); (try clear c28b1); (try clear hcz31_0); (try clear hcz31_1); (try clear hcz31_2); (try clear hcz31_3); (try clear hcz31_4); (try clear hfz31_0); (try clear hfz31_1); (try clear hfz31_2); (try clear hfz31_3); (try clear hfz31_4)
     obtain ⟨kq, x81_28, rfl, HA, HJ28, BK113, HB⟩ := hcut
     cases kq with
     | zero => exact absurd HA.out (by simp [potsherdref12_MayNode.j0])
     | succ kj28 =>
      have H := HA.out; clear HA; simp only [potsherdref12_MayNode.j0] at H
      by_cases c43 : x81_28 = true
      ·
       subst c43
       have H1 : (some false) = some r := by rw [if_pos rfl] at H; exact H
       clear H; have H := H1; clear H1; obtain rfl := Option.some.inj H
       go_wp2
       go_ret
       exact ⟨rT, mH HB⟩
      ·
       replace c43 := Bool.eq_false_iff.mpr c43; subst c43
       have H1 : (potsherdref12_MayNode.l0 kj28 l0_3 (l0_3.length : Int) 0 a0_0 a0_1 a0_2 l0_3 l0_4) = some r := by rw [if_neg (show ¬ (false = true) by decide)] at H; exact H
       clear H; have H := H1; clear H1; have H' := Aside0.mk H; clear H; obtain ⟨hcz44_0, hfz44_0⟩ := cY0 BK113; obtain ⟨hcz44_1, hfz44_1⟩ := cY1 BK113; obtain ⟨hcz44_2, hfz44_2⟩ := cY2 BK113; obtain ⟨hcz44_3, hfz44_3⟩ := cY3 BK113; obtain ⟨hcz44_4, hfz44_4⟩ := cY4 BK113
       go_wp2
       go_loopg [85] kj28 (fun kq v85 w' => ∃ (x85_2 : Int), v85 = .int .i64 x85_2 ∧ Aside0 (potsherdref12_MayNode.l0 kq l0_3 (l0_3.length : Int) x85_2 a0_0 a0_1 a0_2 l0_3 l0_4 = some r) ∧ Aside0 (kq ≤ kj28) ∧ Aside0 (w'.heap[gb113]? = some (.cells #[.int .i64 a0_0, .int .i64 a0_1, .int .i64 a0_2, (.slice A0_3 l0_3.length c0_3), (.slice A0_4 l0_4.length c0_4)] 28 (0, 0))) ∧ Aside0 (Below w.heap.size w w'))
       case atStart => exact ⟨(0), sI, H', ⟨Nat.le_refl _⟩, ⟨mB BK113⟩, ⟨mH HB⟩⟩
       case round =>
        clear H'
        (try clear c2); (try clear c2b0); (try clear c2b1); (try clear c14); (try clear c14b0); (try clear c14b1); (try clear c28); (try clear c28b0); (try clear c28b1); (try clear c43); (try clear hcz31_0); (try clear hcz31_1); (try clear hcz31_2); (try clear hcz31_3); (try clear hcz31_4); (try clear hcz44_0); (try clear hcz44_1); (try clear hcz44_2); (try clear hcz44_3); (try clear hcz44_4); (try clear hfz31_0); (try clear hfz31_1); (try clear hfz31_2); (try clear hfz31_3); (try clear hfz31_4); (try clear hfz44_0); (try clear hfz44_1); (try clear hfz44_2); (try clear hfz44_3); (try clear hfz44_4)
        obtain ⟨x85_2, rfl, HA, HK2, BK113, HB⟩ := hrel
        cases gk with
        | zero => exact absurd HA.out (by simp [potsherdref12_MayNode.l0])
        | succ k2 =>
         have H := HA.out; clear HA; simp only [potsherdref12_MayNode.l0] at H
         by_cases c45 : x85_2 < (l0_3.length : Int)
         ·
          rw [if_pos c45] at H; have c45b0 := decide_eq_true c45; clear c45
          replace H := nP H; obtain ⟨c46, H⟩ := H; have c46b0 := decide_eq_true c46; clear c46
          replace H := nP H; obtain ⟨c47, H⟩ := H; have c47b0 := decide_eq_true c47; clear c47
          by_cases c48 : (rd l0_3 x85_2) < 0
          ·
           rw [if_pos c48] at H; have c48b0 := decide_eq_true c48; clear c48; obtain rfl := Option.some.inj H; have p115 : 0 ≤ (x85_2 : Int) := dT; have q115 : x85_2 < (l0_3.length : Int) := dT; obtain ⟨ad115, e115, hx115_0⟩ := Kd.at_int HR0_3.out x85_2 p115 q115
           cases e115
           replace hx115_0 := xC HB hx115_0; replace p115 := eq_true p115; replace q115 := eq_true q115
           go_wp2
           go_ret
           exact ⟨rT, mH HB⟩
          ·
           rw [if_neg c48] at H; have c48b0 := decide_eq_false c48; clear c48
           by_cases c49 : (rd l0_3 x85_2) > 1099511627776
           ·
            rw [if_pos c49] at H; have c49b0 : decide (1099511627776 < (rd l0_3 x85_2)) = true := decide_eq_true c49; clear c49; obtain rfl := Option.some.inj H; have p115 : 0 ≤ (x85_2 : Int) := dT; have q115 : x85_2 < (l0_3.length : Int) := dT; obtain ⟨ad115, e115, hx115_0⟩ := Kd.at_int HR0_3.out x85_2 p115 q115
            cases e115
            replace hx115_0 := xC HB hx115_0; replace p115 := eq_true p115; replace q115 := eq_true q115
            go_wp2
            go_ret
            exact ⟨rT, mH HB⟩
           ·
            rw [if_neg c49] at H; have c49b0 : decide (1099511627776 < (rd l0_3 x85_2)) = false := decide_eq_false c49; clear c49
            by_cases c50 : (rd l0_3 x85_2) = 0
            ·
             rw [if_pos c50] at H; obtain ⟨c50b0, c50b1⟩ := eP c50; clear c50; have H' := Aside0.mk H; clear H; have p115 : 0 ≤ (x85_2 : Int) := dT; have q115 : x85_2 < (l0_3.length : Int) := dT; obtain ⟨ad115, e115, hx115_0⟩ := Kd.at_int HR0_3.out x85_2 p115 q115
             cases e115
             replace hx115_0 := xC HB hx115_0; replace p115 := eq_true p115; replace q115 := eq_true q115
             go_wp2
             go_roundg k2
             case measure => have := HJ28.out; have := HK2.out; omega
             case rel => exact ⟨(wrap64 (x85_2 + 1)), sI, H', ⟨oM HJ28 HK2⟩, ⟨mB BK113⟩, ⟨mH HB⟩⟩
            ·
             rw [if_neg c50] at H; obtain ⟨c50b0, c50b1⟩ := eN c50
             by_cases c51 : (wrap64 (x85_2 * 16)) ≥ a0_2
             ·
              rw [if_pos c51] at H; have c51b0 : decide (a0_2 ≤ (wrap64 (x85_2 * 16))) = true := decide_eq_true c51; clear c51; obtain rfl := Option.some.inj H; have p115 : 0 ≤ (x85_2 : Int) := dT; have q115 : x85_2 < (l0_3.length : Int) := dT; obtain ⟨ad115, e115, hx115_0⟩ := Kd.at_int HR0_3.out x85_2 p115 q115
              cases e115
              replace hx115_0 := xC HB hx115_0; replace p115 := eq_true p115; replace q115 := eq_true q115; obtain ⟨hcz52_0, hfz52_0⟩ := cY0 BK113; obtain ⟨hcz52_1, hfz52_1⟩ := cY1 BK113; obtain ⟨hcz52_2, hfz52_2⟩ := cY2 BK113; obtain ⟨hcz52_3, hfz52_3⟩ := cY3 BK113; obtain ⟨hcz52_4, hfz52_4⟩ := cY4 BK113
              go_wp2
              go_ret
              exact ⟨rT, mH HB⟩
             ·
              rw [if_neg c51] at H; have c51b0 : decide (a0_2 ≤ (wrap64 (x85_2 * 16))) = false := decide_eq_false c51; clear c51; have H' := Aside0.mk H; clear H; have p115 : 0 ≤ (x85_2 : Int) := dT; have q115 : x85_2 < (l0_3.length : Int) := dT; obtain ⟨ad115, e115, hx115_0⟩ := Kd.at_int HR0_3.out x85_2 p115 q115
              cases e115
              replace hx115_0 := xC HB hx115_0; replace p115 := eq_true p115; replace q115 := eq_true q115; obtain ⟨hcz53_0, hfz53_0⟩ := cY0 BK113; obtain ⟨hcz53_1, hfz53_1⟩ := cY1 BK113; obtain ⟨hcz53_2, hfz53_2⟩ := cY2 BK113; obtain ⟨hcz53_3, hfz53_3⟩ := cY3 BK113; obtain ⟨hcz53_4, hfz53_4⟩ := cY4 BK113
              go_wp2
              go_roundg k2
              case measure => have := HJ28.out; have := HK2.out; omega
              case rel => exact ⟨(wrap64 (x85_2 + 1)), sI, H', ⟨oM HJ28 HK2⟩, ⟨mB BK113⟩, ⟨mH HB⟩⟩
         ·
          rw [if_neg c45] at H; have c45b0 := decide_eq_false c45; clear c45; obtain rfl := Option.some.inj H
          go_wp2
          go_ret
          exact ⟨rT, mH HB⟩
   ·
    rw [if_neg c28] at H; obtain ⟨c28b0, c28b1⟩ := eN c28; obtain rfl := Option.some.inj H
    go_enter Try.func24, Try.ntmps24
    go_wp2_with (first | ((with_reducible refine gate_dst (N := 1) rfl ?_); (try (refine gate_guard (by rfl) ?_; dsimp only)); refine bxE 28 (cs := #[.int .i64 a0_0, .int .i64 a0_1, .int .i64 a0_2, .slice A0_3 l0_3.length c0_3, .slice A0_4 l0_4.length c0_4]) ?_; intro gb113 hg w54 hbox hb; have BK113 := Aside0.mk hbox; have GW113 := kG HB hg; have GE113 := kG HB hg; replace HB := kH HB hb; clear hb hbox hg; obtain ⟨hcz55_0, hfz55_0⟩ := cY0 BK113; obtain ⟨hcz55_1, hfz55_1⟩ := cY1 BK113; obtain ⟨hcz55_2, hfz55_2⟩ := cY2 BK113; obtain ⟨hcz55_3, hfz55_3⟩ := cY3 BK113; obtain ⟨hcz55_4, hfz55_4⟩ := cY4 BK113))
    go_ret
    exact ⟨rT, mH HB⟩
end Go.Proofs.Ytkigiehkckjlhaa.PDone
