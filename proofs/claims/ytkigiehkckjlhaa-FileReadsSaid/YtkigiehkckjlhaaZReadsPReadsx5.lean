/- The Go functions that these laws reach, each as a Lean function with the same answers (a law itself where it answers true), and the proof that the code comes to them; conditions: those of each theorem. Laid by a program of this session over the print. -/
import Derived.Test.YtkigiehkckjlhaaZReadsPReadsShort
import Derived.Test.YtkigiehkckjlhaaZReadsPReadsx0
import Derived.Test.YtkigiehkckjlhaaZReadsPReadsx1
import Derived.Maps.OwnSet
import Derived.Maps.OwnOps
import Derived.Maps.Views
namespace Go.Proofs.Ytkigiehkckjlhaa.PReads
open Go.RowKit Go.Proofs.YtkigiehkckjlhaaW.PrintWords Go.Proofs.YtkigiehkckjlhaaW.PrintLast Go.Proofs.YtkigiehkckjlhaaW.PrintMore
attribute [local go_sem] max2_int min2_int max_two min_two max_three min_three max_four min_four   -- for this text's walks alone
set_option linter.unusedVariables false
set_option linter.unusedSimpArgs false
open Go.Proofs.YtkigiehkckjlhaaW.PrintWords renaming blk_drewN → bN, blk_drew → bD, blk_alloc → bA, below_set → wS, below_alloc → wA, pw_below_drewN → wN, below_drew1 → wD, blk_below → bB, blk_far → bF, blk_cell → bC, blk_frozen → bZ
open List renaming setIfInBounds_toArray → lT, set_cons_zero → l0_, set_cons_succ → lS
def potsherdref12_Used.l0 : Nat → Int → List (S28) → Int → Int → Option (Int)
 | 0, _, _, _, _ => none
 | k + 1, x3, x10, x11, x12 => if x12 < x11 then (if 0 ≤ x12 then (if x12 < (x10.length : Int) then ((potsherdref12_Pages.f k ((rU x10 x12).f0) ((rU x10 x12).f1) ((rU x10 x12).f2) ((rU x10 x12).f3) ((rU x10 x12).f4)).bind fun t119 => (potsherdref12_Used.l0 k (wrap64 (x3 + t119)) x10 x11 (wrap64 (x12 + 1)))) else (none)) else (none)) else (some x3)
def potsherdref12_Used.f (k : Nat) (l0_0 : List (S28)) : Option (Int) := (potsherdref12_sound.f k l0_0).bind fun t116 => (if t116 = true then (potsherdref12_Used.l0 k 0 l0_0 (l0_0.length : Int) 0) else (some 0))
theorem potsherdref12_Used.mono_l : ∀ k, (∀ y0 y1 y2 y3, LeO (potsherdref12_Used.l0 k y0 y1 y2 y3) (potsherdref12_Used.l0 (k + 1) y0 y1 y2 y3))
 | 0 => fun _ _ _ _ r h => by simp [potsherdref12_Used.l0] at h
 | k + 1 => by
  have ih0 := potsherdref12_Used.mono_l k
  ·
   intro y0 y1 y2 y3
   unfold potsherdref12_Used.l0
   repeat' with_reducible first | apply ih0 | apply potsherdref12_Pages.mono | apply potsherdref12_sound.mono | exact LeO.refl _ | exact LeO.none _ | refine LeO.ite ?_ ?_ | refine LeO.bind ?_ (fun _ => ?_)
theorem potsherdref12_Used.mono : ∀ a0 k, LeO (potsherdref12_Used.f k a0) (potsherdref12_Used.f (k + 1) a0) := by
 intro a0 k; have ih0 := potsherdref12_Used.mono_l k
 unfold potsherdref12_Used.f
 repeat' with_reducible first | apply ih0 | apply potsherdref12_Pages.mono | apply potsherdref12_sound.mono | exact LeO.refl _ | exact LeO.none _ | refine LeO.ite ?_ ?_ | refine LeO.bind ?_ (fun _ => ?_)
set_option maxHeartbeats 8000000 in
set_option maxRecDepth 100000 in
theorem potsherdref12_Used.calls (k : Nat) (A0_0 : Option Addr) (c0_0 : Nat) (l0_0 : List (S28)) (r : Int) (w : World) (hr0_0 : Kd.C k28 w A0_0 l0_0.length l0_0) (hc0_0 : l0_0.length ≤ c0_0) (h : potsherdref12_Used.f k l0_0 = some r) :
 Calls Try.prog 17 #[.agg #[.slice A0_0 l0_0.length c0_0]] w fun e w' => e = .returned (.int .i64 r) ∧ Below w.heap.size w w' := by
 have hu24 := Try.underlying24; have hu28 := Try.underlying28; have HR0_0 := kA hr0_0; have HC0_0 := kA hc0_0; clear hr0_0 hc0_0; have HB := kA (Below.refl w.heap.size w); have H : ((potsherdref12_sound.f k l0_0).bind fun t116 => (if t116 = true then (potsherdref12_Used.l0 k 0 l0_0 (l0_0.length : Int) 0) else (some 0))) = some r := h; clear h; replace H := qB H; obtain ⟨t116, A20, H⟩ := H; have A2 := kA A20; clear A20
 by_cases c3 : t116 = true
 ·
  subst c3
  have H1 : (potsherdref12_Used.l0 k 0 l0_0 (l0_0.length : Int) 0) = some r := by rw [if_pos rfl] at H; exact H
  clear H; have H := H1; clear H1; have H' := kA H; clear H
  go_enter Try.func17, Try.ntmps17
  go_wp2_with (first | ((with_reducible refine gate_dst (N := 1) rfl ?_); refine bxE 24 (cs := #[.slice A0_0 l0_0.length c0_0]) ?_; intro gb115 hg w4 hbox hb; have BK115 := kA hbox; have GW115 := kG HB hg; have GE115 := kG HB hg; replace HB := kH HB hb; clear hb hbox hg; obtain ⟨hcz5_0, hfz5_0⟩ := cY0 BK115) | ((with_reducible refine gate_callee (f := 47) rfl ?_); refine goesK (some 7) Try.func47 #[.agg #[.slice A0_0 l0_0.length c0_0]] ?_; (with_reducible refine (potsherdref12_sound.calls k _ _ l0_0 true _ ?side1 ?side2 A2.out).mono ?_); (case side1 => exact mC HR0_0 HB); (case side2 => exact HC0_0.out); rintro e w6 ⟨rfl, hb⟩; refine ⟨_, rfl, ?_⟩; replace BK115 := kB BK115 hb; replace HB := kH HB hb; (try clear hb); obtain ⟨hcz7_0, hfz7_0⟩ := cY0 BK115))
  go_loopg [3, 12] k (fun kq v3 v12 w' => ∃ (x3_1 : Int) (x12_1 : Int), v3 = .int .i64 x3_1 ∧ v12 = .int .i64 x12_1 ∧ Aside0 (potsherdref12_Used.l0 kq x3_1 l0_0 (l0_0.length : Int) x12_1 = some r) ∧ Aside0 (kq ≤ k) ∧ Aside0 (w'.heap[gb115]? = some (.cells #[(.slice A0_0 l0_0.length c0_0)] 24 (0, 0))) ∧ Aside0 (Below w.heap.size w w'))
  case atStart => exact ⟨(0), (0), sI, sI, H', ⟨Nat.le_refl _⟩, ⟨mB BK115⟩, ⟨mH HB⟩⟩
  case round =>
   clear H'
   (try clear c3); (try clear hcz5_0); (try clear hcz7_0); (try clear hfz5_0); (try clear hfz7_0)
   obtain ⟨x3_1, x12_1, rfl, rfl, HA, HK1, BK115, HB⟩ := hrel
   cases gk with
   | zero => exact absurd HA.out (by simp [potsherdref12_Used.l0])
   | succ k1 =>
    have H := HA.out; clear HA; simp only [potsherdref12_Used.l0] at H
    by_cases c8 : x12_1 < (l0_0.length : Int)
    ·
     rw [if_pos c8] at H; have c8b0 := qT c8; clear c8
     replace H := nP H; obtain ⟨c9, H⟩ := H; have c9b0 := qT c9; clear c9
     replace H := nP H; obtain ⟨c10, H⟩ := H; have c10b0 := qT c10; clear c10; replace H := qB H; obtain ⟨t119, A110, H⟩ := H; have A11 := kA A110; clear A110; have H' := kA H; clear H; have p117 : 0 ≤ (x12_1 : Int) := dT; have q117 : x12_1 < (l0_0.length : Int) := dT; obtain ⟨ad117, A117_3, c117_3, A117_4, c117_4, e117, hx117_0, hx117_1, hx117_2, hx117_3, hx117_4, hl117_3, hi117_3, hl117_4, hi117_4⟩ := at_T28 HR0_0.out x12_1 p117 q117
     cases e117
     replace hx117_0 := xC HB hx117_0; replace hx117_1 := xC HB hx117_1; replace hx117_2 := xC HB hx117_2; replace hx117_3 := xC HB hx117_3; replace hx117_4 := xC HB hx117_4; have HR117_3 := kA hi117_3; have HC117_3 := kA hl117_3; clear hi117_3 hl117_3; have HR117_4 := kA hi117_4; have HC117_4 := kA hl117_4; clear hi117_4 hl117_4; replace p117 := eq_true p117; replace q117 := eq_true q117
     go_wp2_with (first | ((with_reducible refine gate_dst (N := 5) rfl ?_); refine bxE 28 (cs := #[.int .i64 0, .int .i64 0, .int .i64 0, .slice none 0 0, .slice none 0 0]) ?_; intro gb118 hg w12 hbox hb; have BK118 := kA hbox; have GW118 := kG HB hg; have GE118 := kG HB hg; replace HB := kH HB hb; have NB115_118 := kL BK115 hg; have NB118_115 := kQ BK115 hg; replace BK115 := kB BK115 hb; clear hb hbox hg; have hnb13 := NB118_115.out; have hnc13 := NB115_118.out; obtain ⟨hcz14_0, hfz14_0⟩ := cY0 BK118; obtain ⟨hcz14_1, hfz14_1⟩ := cY1 BK118; obtain ⟨hcz14_2, hfz14_2⟩ := cY2 BK118; obtain ⟨hcz14_3, hfz14_3⟩ := cY3 BK118; obtain ⟨hcz14_4, hfz14_4⟩ := cY4 BK118) | ((with_reducible refine gate_callee (f := 28) rfl ?_); refine goesK (some 18) Try.func28 #[.agg #[.int .i64 ((rU l0_0 x12_1).f0), .int .i64 ((rU l0_0 x12_1).f1), .int .i64 ((rU l0_0 x12_1).f2), .slice A117_3 ((rU l0_0 x12_1).f3).length c117_3, .slice A117_4 ((rU l0_0 x12_1).f4).length c117_4]] ?_; (with_reducible refine (potsherdref12_Pages.calls k1 ((rU l0_0 x12_1).f0) ((rU l0_0 x12_1).f1) ((rU l0_0 x12_1).f2) _ _ ((rU l0_0 x12_1).f3) _ _ ((rU l0_0 x12_1).f4) t119 _ ?side1 ?side2 ?side3 ?side4 A11.out).mono ?_); (case side1 => exact Kd.C_below HR117_3.out (mH HB)); (case side2 => exact HC117_3.out); (case side3 => exact Kd.C_below HR117_4.out (mH HB)); (case side4 => exact HC117_4.out); rintro e w15 ⟨rfl, hb⟩; refine ⟨_, rfl, ?_⟩; replace BK115 := kA (bB (mF BK115) hb); replace BK118 := kA (bB (g := gb118) (o := .cells #[.int .i64 ((rU l0_0 x12_1).f0), .int .i64 ((rU l0_0 x12_1).f1), .int .i64 ((rU l0_0 x12_1).f2), .slice A117_3 ((rU l0_0 x12_1).f3).length c117_3, .slice A117_4 ((rU l0_0 x12_1).f4).length c117_4] 28 (0, 0)) (pP BK118) hb); replace HB := kH HB hb; (try clear hb)))
     go_roundg k1
     case measure => have := HK1.out; omega
     case rel => exact ⟨(wrap64 (x3_1 + t119)), (wrap64 (x12_1 + 1)), sI, sI, H', ⟨oK HK1⟩, ⟨mB BK115⟩, ⟨mH HB⟩⟩
    ·
     rw [if_neg c8] at H; have c8b0 := qF c8; clear c8; obtain rfl := qI H
     go_wp2
     go_ret
     exact ⟨rT, mH HB⟩
 ·
  replace c3 := Bool.eq_false_iff.mpr c3; subst c3
  have H1 : (some 0) = some r := by rw [if_neg (show ¬ (false = true) by decide)] at H; exact H
  clear H; have H := H1; clear H1; obtain rfl := qI H
  go_enter Try.func17, Try.ntmps17
  go_wp2_with (first | ((with_reducible refine gate_dst (N := 1) rfl ?_); refine bxE 24 (cs := #[.slice A0_0 l0_0.length c0_0]) ?_; intro gb115 hg w16 hbox hb; have BK115 := kA hbox; have GW115 := kG HB hg; have GE115 := kG HB hg; replace HB := kH HB hb; clear hb hbox hg; obtain ⟨hcz17_0, hfz17_0⟩ := cY0 BK115) | ((with_reducible refine gate_callee (f := 47) rfl ?_); refine goesK (some 7) Try.func47 #[.agg #[.slice A0_0 l0_0.length c0_0]] ?_; (with_reducible refine (potsherdref12_sound.calls k _ _ l0_0 false _ ?side1 ?side2 A2.out).mono ?_); (case side1 => exact mC HR0_0 HB); (case side2 => exact HC0_0.out); rintro e w18 ⟨rfl, hb⟩; refine ⟨_, rfl, ?_⟩; replace BK115 := kB BK115 hb; replace HB := kH HB hb; (try clear hb)))
  go_ret
  exact ⟨rT, mH HB⟩
mutual
def potsherdref12_reached.j0 : Nat → Int → List Bool → Bool → List (S28) → Option (List Bool)
 | 0, _, _, _, _ => none
 | k + 1, x1, x5, x30, x121000 => if x30 = true then (some x5) else (if 0 ≤ x1 then (if x1 < (x5.length : Int) then (potsherdref12_reached.l0 k (x5.set (x1 : Int).toNat true) (x5.length : Int) 0 x121000) else (none)) else (none))
def potsherdref12_reached.l0 : Nat → List Bool → Int → Int → List (S28) → Option (List Bool)
 | 0, _, _, _, _ => none
 | k + 1, x5, x36, x37, x121000 => if x37 < x36 then (potsherdref12_reached.l1 k x5 x36 x37 x121000 (x121000.length : Int) 0 x121000) else (some x5)
def potsherdref12_reached.l1 : Nat → List Bool → Int → Int → List (S28) → Int → Int → List (S28) → Option (List Bool)
 | 0, _, _, _, _, _, _, _ => none
 | k + 1, x5, x36, x37, x40, x41, x42, x121000 => if x42 < x41 then (if 0 ≤ x42 then (if x42 < (x40.length : Int) then (if x42 < (x5.length : Int) then (if rdOf false x5 x42 = true then (potsherdref12_reached.l2 k x5 x36 x37 x40 x41 x42 ((rU x40 x42).f4) (((rU x40 x42).f4).length : Int) 0 x121000) else (potsherdref12_reached.l1 k x5 x36 x37 x40 x41 (wrap64 (x42 + 1)) x121000)) else (none)) else (none)) else (none)) else (potsherdref12_reached.l0 k x5 x36 (wrap64 (x37 + 1)) x121000)
def potsherdref12_reached.l2 : Nat → List Bool → Int → Int → List (S28) → Int → Int → List (S78) → Int → Int → List (S28) → Option (List Bool)
 | 0, _, _, _, _, _, _, _, _, _, _ => none
 | k + 1, x5, x36, x37, x40, x41, x42, x53, x54, x55, x121000 => if x55 < x54 then (if 0 ≤ x55 then (if x55 < (x53.length : Int) then (if ((rV x53 x55).f1) ≥ 0 then (if ((rV x53 x55).f1) < (x5.length : Int) then (if 0 ≤ ((rV x53 x55).f1) then (if ((rV x53 x55).f1) < (x121000.length : Int) then (if ((rU x121000 ((rV x53 x55).f1)).f0) = 2 then (potsherdref12_reached.l2 k (x5.set (((rV x53 x55).f1) : Int).toNat true) x36 x37 x40 x41 x42 x53 x54 (wrap64 (x55 + 1)) x121000) else (potsherdref12_reached.l2 k x5 x36 x37 x40 x41 x42 x53 x54 (wrap64 (x55 + 1)) x121000)) else (none)) else (none)) else (potsherdref12_reached.l2 k x5 x36 x37 x40 x41 x42 x53 x54 (wrap64 (x55 + 1)) x121000)) else (potsherdref12_reached.l2 k x5 x36 x37 x40 x41 x42 x53 x54 (wrap64 (x55 + 1)) x121000)) else (none)) else (none)) else (potsherdref12_reached.l1 k x5 x36 x37 x40 x41 (wrap64 (x42 + 1)) x121000)
end
def potsherdref12_reached.f (k : Nat) (l0_0 : List (S28)) (a1 : Int) : Option (List Bool) := if 0 ≤ (l0_0.length : Int) then (if ((l0_0.length : Int) : Int).toNat ≤ 281474976710656 then ((some (List.replicate ((l0_0.length : Int) : Int).toNat false : List Bool)).bind fun y121 => (if a1 < 0 then (potsherdref12_reached.j0 k a1 y121 true l0_0) else (if a1 ≥ (y121.length : Int) then (potsherdref12_reached.j0 k a1 y121 true l0_0) else (if 0 ≤ a1 then (if a1 < (l0_0.length : Int) then (potsherdref12_reached.j0 k a1 y121 (((rU l0_0 a1).f0) != 2) l0_0) else (none)) else (none))))) else (none)) else (none)
theorem potsherdref12_reached.mono_l : ∀ k, (∀ y0 y1 y2 y3, LeO (potsherdref12_reached.j0 k y0 y1 y2 y3) (potsherdref12_reached.j0 (k + 1) y0 y1 y2 y3)) ∧ (∀ y0 y1 y2 y3, LeO (potsherdref12_reached.l0 k y0 y1 y2 y3) (potsherdref12_reached.l0 (k + 1) y0 y1 y2 y3)) ∧ (∀ y0 y1 y2 y3 y4 y5 y6, LeO (potsherdref12_reached.l1 k y0 y1 y2 y3 y4 y5 y6) (potsherdref12_reached.l1 (k + 1) y0 y1 y2 y3 y4 y5 y6)) ∧ (∀ y0 y1 y2 y3 y4 y5 y6 y7 y8 y9, LeO (potsherdref12_reached.l2 k y0 y1 y2 y3 y4 y5 y6 y7 y8 y9) (potsherdref12_reached.l2 (k + 1) y0 y1 y2 y3 y4 y5 y6 y7 y8 y9))
 | 0 => ⟨fun _ _ _ _ r h => by simp [potsherdref12_reached.j0] at h, fun _ _ _ _ r h => by simp [potsherdref12_reached.l0] at h, fun _ _ _ _ _ _ _ r h => by simp [potsherdref12_reached.l1] at h, fun _ _ _ _ _ _ _ _ _ _ r h => by simp [potsherdref12_reached.l2] at h⟩
 | k + 1 => by
  obtain ⟨ih0, ih1, ih2, ih3⟩ := potsherdref12_reached.mono_l k; refine ⟨?_, ?_, ?_, ?_⟩
  ·
   intro y0 y1 y2 y3
   unfold potsherdref12_reached.j0
   repeat' with_reducible first | apply ih0 | apply ih1 | apply ih2 | apply ih3 | exact LeO.refl _ | exact LeO.none _ | refine LeO.ite ?_ ?_ | refine LeO.bind ?_ (fun _ => ?_)
  ·
   intro y0 y1 y2 y3
   unfold potsherdref12_reached.l0
   repeat' with_reducible first | apply ih0 | apply ih1 | apply ih2 | apply ih3 | exact LeO.refl _ | exact LeO.none _ | refine LeO.ite ?_ ?_ | refine LeO.bind ?_ (fun _ => ?_)
  ·
   intro y0 y1 y2 y3 y4 y5 y6
   unfold potsherdref12_reached.l1
   repeat' with_reducible first | apply ih0 | apply ih1 | apply ih2 | apply ih3 | exact LeO.refl _ | exact LeO.none _ | refine LeO.ite ?_ ?_ | refine LeO.bind ?_ (fun _ => ?_)
  ·
   intro y0 y1 y2 y3 y4 y5 y6 y7 y8 y9
   unfold potsherdref12_reached.l2
   repeat' with_reducible first | apply ih0 | apply ih1 | apply ih2 | apply ih3 | exact LeO.refl _ | exact LeO.none _ | refine LeO.ite ?_ ?_ | refine LeO.bind ?_ (fun _ => ?_)
theorem potsherdref12_reached.mono : ∀ a0 a1 k, LeO (potsherdref12_reached.f k a0 a1) (potsherdref12_reached.f (k + 1) a0 a1) := by
 intro a0 a1 k; obtain ⟨ih0, ih1, ih2, ih3⟩ := potsherdref12_reached.mono_l k
 unfold potsherdref12_reached.f
 repeat' with_reducible first | apply ih0 | apply ih1 | apply ih2 | apply ih3 | exact LeO.refl _ | exact LeO.none _ | refine LeO.ite ?_ ?_ | refine LeO.bind ?_ (fun _ => ?_)
set_option maxHeartbeats 8000000 in
set_option maxRecDepth 100000 in
theorem potsherdref12_reached.calls (k : Nat) (A0_0 : Option Addr) (c0_0 : Nat) (l0_0 : List (S28)) (a1 : Int) (r : List Bool) (w : World) (hr0_0 : Kd.C k28 w A0_0 l0_0.length l0_0) (hc0_0 : l0_0.length ≤ c0_0) (h : potsherdref12_reached.f k l0_0 a1 = some r) :
 Calls Try.prog 51 #[.agg #[.slice A0_0 l0_0.length c0_0], .int .i64 a1] w fun e w' => ∃ v0_ : Value, e = .returned (v0_) ∧ Kd.R Kd.bool 4 w' w.heap.size (fun _ => True) v0_ r ∧ Below w.heap.size w w' := by
 have hu24 := Try.underlying24; have hu28 := Try.underlying28; have hu78 := Try.underlying78; have HR0_0 := kA hr0_0; have HC0_0 := kA hc0_0; clear hr0_0 hc0_0; have HB := kA (Below.refl w.heap.size w); have H : (if 0 ≤ (l0_0.length : Int) then (if ((l0_0.length : Int) : Int).toNat ≤ 281474976710656 then ((some (List.replicate ((l0_0.length : Int) : Int).toNat false : List Bool)).bind fun y121 => (if a1 < 0 then (potsherdref12_reached.j0 k a1 y121 true l0_0) else (if a1 ≥ (y121.length : Int) then (potsherdref12_reached.j0 k a1 y121 true l0_0) else (if 0 ≤ a1 then (if a1 < (l0_0.length : Int) then (potsherdref12_reached.j0 k a1 y121 (((rU l0_0 a1).f0) != 2) l0_0) else (none)) else (none))))) else (none)) else (none)) = some r := h; clear h
 replace H := nP H; obtain ⟨c3, H⟩ := H; have c3b0 := eq_true c3; have c3b1 := qT c3; clear c3
 replace H := nP H; obtain ⟨c4, H⟩ := H; have c4b0 := eq_true c4; have c4b1 := qT c4; clear c4; obtain ⟨y121, hy121⟩ : ∃ y_ : List Bool, y_ = (List.replicate ((l0_0.length : Int) : Int).toNat false) := ⟨_, rfl⟩
 replace H : (if a1 < 0 then (potsherdref12_reached.j0 k a1 y121 true l0_0) else (if a1 ≥ (y121.length : Int) then (potsherdref12_reached.j0 k a1 y121 true l0_0) else (if 0 ≤ a1 then (if a1 < (l0_0.length : Int) then (potsherdref12_reached.j0 k a1 y121 (((rU l0_0 a1).f0) != 2) l0_0) else (none)) else (none)))) = some r := rH H hy121
 have Ny121 := kA hy121; clear hy121; have HC5 := kA H; clear H
 go_enter Try.func51, Try.ntmps51
 go_upto_region 2 with (first | ((with_reducible refine gate_dst (N := 2) rfl ?_); (try (refine gate_guard (by rfl) ?_; dsimp only)); refine bxE 24 (cs := #[.slice A0_0 l0_0.length c0_0]) ?_; intro gb120 hg w6 hbox hb; have BK120 := kA hbox; have GW120 := kG HB hg; have GE120 := kG HB hg; replace HB := kH HB hb; clear hb hbox hg; obtain ⟨hcz7_0, hfz7_0⟩ := cY0 BK120) | ((with_reducible refine gate_dst (N := 13) rfl ?_); (try (refine gate_guard (by rfl) ?_; dsimp only)); refine Kd.R_make Kd.bool _ 4 rfl (N := 13) rfl 79 _ _ rfl (l0_0.length : Int) rfl rfl Try.underlying79 (.bool false) 1 info4 rfl (by decide) (by omega) false (ok := fun _ => True) (okp := fun _ => True) rfl (fun _ hk => hk) trivial (dT) (Nat.le_trans (Nat.mul_le_mul_right _ (dT : (l0_0.length : Int).toNat ≤ 281474976710656)) (by omega)) (Below.refl _ _) (Nat.le_refl _) ?_; intro v122 w8 ho9 hb hg_ hnew_; clear hg_ hnew_; (first | rw [← Ny121.out] at ho9 | (simp only [Int.reduceToNat] at ho9; rw [← Ny121.out] at ho9)); have HO123 := kA (Kd.R_lower ho9 (below_size (mH HB))); replace BK120 := kB BK120 hb; replace HB := kH HB hb; clear hb ho9))
 (try simp only [Act.put, lT, l0_, lS])
 go_cut [30] (fun v30 wc => ∃ (kq : Nat) (x30_4 : Bool), v30 = .bool x30_4 ∧ Aside0 (potsherdref12_reached.j0 kq a1 y121 x30_4 l0_0 = some r) ∧ Aside0 (kq ≤ k) ∧ Aside0 (Kd.R Kd.bool 4 wc w.heap.size (fun _ => True) v122 y121) ∧ Aside0 (wc.heap[gb120]? = some (.cells #[(.slice A0_0 l0_0.length c0_0)] 24 (0, 0))) ∧ Aside0 (Below w.heap.size w wc))
 case first =>
  have H := HC5.out; clear HC5
  by_cases c10 : a1 < 0
  ·
   rw [if_pos c10] at H; have c10b0 := qT c10; clear c10
   (first | rw [c10b0] | (simp only [i64_w, i32_w]; rw [c10b0]) | skip)
   have H' := kA H; clear H
   go_wp2
   go_meet
   case rel => exact ⟨_, (true), sI, H', ⟨by first | omega | exact Nat.le_refl _⟩, ⟨mR HO123⟩, ⟨mB BK120⟩, ⟨mH HB⟩⟩
  ·
   rw [if_neg c10] at H; have c10b0 := qF c10; clear c10
   (first | rw [c10b0] | (simp only [i64_w, i32_w]; rw [c10b0]) | skip)
   by_cases c11 : a1 ≥ (y121.length : Int)
   ·
    rw [if_pos c11] at H; have c11b0 : decide ((y121.length : Int) ≤ a1) = true := qT c11; clear c11; have H' := kA H; clear H; obtain ⟨Ao12, co12, eo12⟩ := Kd.R_slice HO123.out; subst eo12
    go_wp2
    go_meet
    case rel => exact ⟨_, (true), sI, H', ⟨by first | omega | exact Nat.le_refl _⟩, ⟨mR HO123⟩, ⟨mB BK120⟩, ⟨mH HB⟩⟩
   ·
    rw [if_neg c11] at H; have c11b0 : decide ((y121.length : Int) ≤ a1) = false := qF c11; clear c11
    replace H := nP H; obtain ⟨c13, H⟩ := H; have c13b0 := qT c13; clear c13
    replace H := nP H; obtain ⟨c14, H⟩ := H; have c14b0 := qT c14; clear c14; have H' := kA H; clear H; obtain ⟨Ao15, co15, eo15⟩ := Kd.R_slice HO123.out; subst eo15; obtain ⟨hcz16_0, hfz16_0⟩ := cY0 BK120; have p124 : 0 ≤ (a1 : Int) := dT; have q124 : a1 < (l0_0.length : Int) := dT; obtain ⟨ad124, A124_3, c124_3, A124_4, c124_4, e124, hx124_0, hx124_1, hx124_2, hx124_3, hx124_4, hl124_3, hi124_3, hl124_4, hi124_4⟩ := at_T28 HR0_0.out a1 p124 q124
    cases e124
    replace hx124_0 := xC HB hx124_0; replace hx124_1 := xC HB hx124_1; replace hx124_2 := xC HB hx124_2; replace hx124_3 := xC HB hx124_3; replace hx124_4 := xC HB hx124_4; have HR124_3 := kA hi124_3; have HC124_3 := kA hl124_3; clear hi124_3 hl124_3; have HR124_4 := kA hi124_4; have HC124_4 := kA hl124_4; clear hi124_4 hl124_4; replace p124 := eq_true p124; replace q124 := eq_true q124
    go_wp2
    go_meet
    case rel => exact ⟨_, ((((rU l0_0 a1).f0) != 2)), sI, H', ⟨by first | omega | exact Nat.le_refl _⟩, ⟨mR HO123⟩, ⟨mB BK120⟩, ⟨mH HB⟩⟩
 case rest =>
  clear HC5
  (try clear c3); (try clear c3b0); (try clear c3b1); (try clear c4); (try clear c4b0); (try clear c4b1); (try clear hcz7_0); (try clear hfz7_0)
  obtain ⟨kq, x30_4, rfl, HA, HJ4, HO_5, BK120, HB⟩ := hcut
  cases kq with
  | zero => exact absurd HA.out (by simp [potsherdref12_reached.j0])
  | succ kj4 =>
   have H := HA.out; clear HA; simp only [potsherdref12_reached.j0] at H
   by_cases c17 : x30_4 = true
   ·
    subst c17
    have H1 : (some y121) = some r := by rw [if_pos rfl] at H; exact H
    clear H; have H := H1; clear H1; obtain rfl := qI H
    go_wp2
    go_ret
    exact ⟨_, rT, mR HO_5, mH HB⟩
   ·
    replace c17 := Bool.eq_false_iff.mpr c17; subst c17
    have H1 : (if 0 ≤ a1 then (if a1 < (y121.length : Int) then (potsherdref12_reached.l0 kj4 (y121.set (a1 : Int).toNat true) (y121.length : Int) 0 l0_0) else (none)) else (none)) = some r := by rw [if_neg (show ¬ (false = true) by decide)] at H; exact H
    clear H; have H := H1; clear H1
    replace H := nP H; obtain ⟨c18, H⟩ := H; have c18b0 := qT c18; clear c18
    replace H := nP H; obtain ⟨c19, H⟩ := H; have c19b0 := qT c19; clear c19; obtain ⟨y125, hy125⟩ : ∃ y_ : List Bool, y_ = (y121.set (a1 : Int).toNat true) := ⟨_, rfl⟩
    replace H : (potsherdref12_reached.l0 kj4 y125 (y121.length : Int) 0 l0_0) = some r := rH H hy125
    have Ny125 := kA hy125; clear hy125; have H' := kA H; clear H; have p20 : 0 ≤ (a1 : Int) := dT; have q20 : (a1 : Int) < ((y121.length : Int) : Int) := dT; obtain ⟨go20, co20, eo20, gb20, gl20, cl20, HG20⟩ := Kd.R_form HO_5.out (by omega)
    (first | cases eo20 | (injection eo20 with ea_ en_ ec_; (first | subst ea_ | (injection ea_ with ea_; subst ea_)); subst ec_; clear en_))
    have GB20 := kA gb20; have GG20 := kA HG20; clear gb20 gl20 HG20; obtain ⟨hx20_0, hf20_0⟩ := Kd.R_celln false HO_5.out (a1 : Int) p20 q20; replace p20 := eq_true p20; replace q20 := eq_true q20; have HP21 := Kd.R_putg HO_5.out (a1 : Int) true
    go_wp2_with (first | ((with_reducible refine gate_store (t := 4) (p := 34) rfl ?_); refine store_event (t := 4) (p := 34) (v := ?vo_w22) (w1 := (wc.setCell ⟨go20, (a1 : Int).toNat, none⟩ (.bool true))) ?hg ?ho ?hn ?hr ?_; (case ho => rfl); (case hg => rfl); (case hn => rfl); (case hr => first | (go_simp; done) | (go_simp; rfl)); intro w22 hw; have hg : wc.grownBy w22 (some go20) := (by rw [hw]; exact HP21.2); have hp_ : Kd.R Kd.bool 4 w22 w.heap.size (fun _ => True) (.slice (some ⟨go20, 0, none⟩) y121.length co20) y125 := (by rw [hw, Ny125.out]; exact HP21.1); clear HP21; replace BK120 := kA (blk_grown (g := gb120) (o := .cells #[.slice A0_0 l0_0.length c0_0] 24 (0, 0)) (mB BK120) hg (Kd.R_ne HO_5.out BK120.out (by decide))); replace HO_5 := kA (hp_); replace HB := kA ((by rw [hw]; exact wS (HB.out) GB20.out : Below w.heap.size w w22)); clear hg hw hp_))
    go_loopg [37] kj4 (fun kq v37 w' => ∃ (x5_2 : List Bool) (x37_2 : Int), v37 = .int .i64 x37_2 ∧ Aside0 (potsherdref12_reached.l0 kq x5_2 (y121.length : Int) x37_2 l0_0 = some r) ∧ Aside0 (kq ≤ kj4) ∧ Aside0 (Kd.R Kd.bool 4 w' w.heap.size (fun _ => True) (.slice (some ⟨go20, 0, none⟩) y121.length co20) x5_2) ∧ Aside0 (w'.heap[gb120]? = some (.cells #[(.slice A0_0 l0_0.length c0_0)] 24 (0, 0))) ∧ Aside0 (Below w.heap.size w w'))
    case atStart => exact ⟨(y125), (0), sI, H', ⟨Nat.le_refl _⟩, ⟨mR HO_5⟩, ⟨mB BK120⟩, ⟨mH HB⟩⟩
    case round =>
     clear H'
     (try clear c3); (try clear c3b0); (try clear c3b1); (try clear c4); (try clear c4b0); (try clear c4b1); (try clear c17); (try clear c18); (try clear c18b0); (try clear c19); (try clear c19b0); (try clear p20); (try clear q20); (try clear hcz7_0); (try clear hfz7_0); (try clear hx20_0); (try clear p20); (try clear q20)
     obtain ⟨x5_2, x37_2, rfl, HA, HK2, HO_5, BK120, HB⟩ := hrel; have hl5_2 := (Kd.R_reads' HO_5.out).1; rw [hl5_2] at HO_5
     (try simp only [hl5_2])
     (try simp only [hl5_2] at BK120)
     cases gk with
     | zero => exact absurd HA.out (by simp [potsherdref12_reached.l0])
     | succ k2 =>
      have H := HA.out; clear HA; simp only [potsherdref12_reached.l0] at H
      by_cases c23 : x37_2 < (y121.length : Int)
      ·
       rw [if_pos c23] at H; have c23b0 := qT c23; clear c23; (first | simp only [hl5_2] at c23b0 | skip); have H' := kA H; clear H; obtain ⟨hcz24_0, hfz24_0⟩ := cY0 BK120
       go_wp2
       go_loopg [42] k2 (fun kq v42 w' => ∃ (x5_3 : List Bool) (x42_3 : Int), v42 = .int .i64 x42_3 ∧ Aside0 (potsherdref12_reached.l1 kq x5_3 (y121.length : Int) x37_2 l0_0 (l0_0.length : Int) x42_3 l0_0 = some r) ∧ Aside0 (kq ≤ k2) ∧ Aside0 (Kd.R Kd.bool 4 w' w.heap.size (fun _ => True) (.slice (some ⟨go20, 0, none⟩) x5_2.length co20) x5_3) ∧ Aside0 (w'.heap[gb120]? = some (.cells #[(.slice A0_0 l0_0.length c0_0)] 24 (0, 0))) ∧ Aside0 (Below w.heap.size w w'))
       case atStart => exact ⟨(x5_2), (0), sI, H', ⟨Nat.le_refl _⟩, ⟨by (try simp only [hl5_2]); (with_reducible repeat (first | apply Kd.R_alloc | apply Kd.R_drewN | apply Kd.R_drew)); exact HO_5.out⟩, ⟨by (try simp only [hl5_2]); (with_reducible repeat (first | refine bN ?_ _ | refine bD ?_ | refine bA ?_ _)); exact BK120.out⟩, ⟨mH HB⟩⟩
       case round =>
        clear H'
        (try clear c3); (try clear c3b0); (try clear c3b1); (try clear c4); (try clear c4b0); (try clear c4b1); (try clear c17); (try clear c18); (try clear c18b0); (try clear c19); (try clear c19b0); (try clear p20); (try clear q20); (try clear c23); (try clear c23b0); (try clear hcz24_0); (try clear hcz7_0); (try clear hfz24_0); (try clear hfz7_0); (try clear hx20_0); (try clear p20); (try clear q20)
        obtain ⟨x5_3, x42_3, rfl, HA, HK3, HO_5, BK120, HB⟩ := hrel; have hl5_3 := (Kd.R_reads' HO_5.out).1; rw [hl5_3] at HO_5
        (try simp only [hl5_3])
        (try simp only [hl5_3] at BK120)
        cases gk with
        | zero => exact absurd HA.out (by simp [potsherdref12_reached.l1])
        | succ k3 =>
         have H := HA.out; clear HA; simp only [potsherdref12_reached.l1] at H
         by_cases c25 : x42_3 < (l0_0.length : Int)
         ·
          rw [if_pos c25] at H; have c25b0 := qT c25; clear c25
          replace H := nP H; obtain ⟨c26, H⟩ := H; have c26b0 := qT c26; clear c26
          replace H := nP H; obtain ⟨c27, H⟩ := H; have c27b0 := qT c27; clear c27
          replace H := nP H; obtain ⟨c28, H⟩ := H; have c28b0 := qT c28; clear c28; obtain ⟨bq29, hbq29⟩ : ∃ b_ : Bool, b_ = (rdOf false x5_3 x42_3) := ⟨_, rfl⟩
          replace H : (if bq29 = true then (potsherdref12_reached.l2 k3 x5_3 (y121.length : Int) x37_2 l0_0 (l0_0.length : Int) x42_3 ((rU l0_0 x42_3).f4) (((rU l0_0 x42_3).f4).length : Int) 0 l0_0) else (potsherdref12_reached.l1 k3 x5_3 (y121.length : Int) x37_2 l0_0 (l0_0.length : Int) (wrap64 (x42_3 + 1)) l0_0)) = some r := by rw [← hbq29] at H; exact H
          have Nbq29 := kA hbq29; clear hbq29
          by_cases c30 : bq29 = true
          ·
           subst c30
           have H1 : (potsherdref12_reached.l2 k3 x5_3 (y121.length : Int) x37_2 l0_0 (l0_0.length : Int) x42_3 ((rU l0_0 x42_3).f4) (((rU l0_0 x42_3).f4).length : Int) 0 l0_0) = some r := by rw [if_pos rfl] at H; exact H
           clear H; have H := H1; clear H1; have H' := kA H; clear H; have p126 : 0 ≤ (x42_3 : Int) := dT; have q126 : x42_3 < (l0_0.length : Int) := dT; obtain ⟨ad126, A126_3, c126_3, A126_4, c126_4, e126, hx126_0, hx126_1, hx126_2, hx126_3, hx126_4, hl126_3, hi126_3, hl126_4, hi126_4⟩ := at_T28 HR0_0.out x42_3 p126 q126
           cases e126
           replace hx126_0 := xC HB hx126_0; replace hx126_1 := xC HB hx126_1; replace hx126_2 := xC HB hx126_2; replace hx126_3 := xC HB hx126_3; replace hx126_4 := xC HB hx126_4; have HR126_3 := kA hi126_3; have HC126_3 := kA hl126_3; clear hi126_3 hl126_3; have HR126_4 := kA hi126_4; have HC126_4 := kA hl126_4; clear hi126_4 hl126_4; replace p126 := eq_true p126; replace q126 := eq_true q126
           go_wp2_with (first | ((with_reducible refine gate_dst (N := 7) rfl ?_); (try (refine gate_guard (by rfl) ?_; dsimp only)); refine bxE 28 (cs := #[.int .i64 0, .int .i64 0, .int .i64 0, .slice none 0 0, .slice none 0 0]) ?_; intro gb127 hg w31 hbox hb; replace HO_5 := kR HO_5 hb; have BK127 := kA hbox; have GW127 := kG HB hg; have GE127 := kG HB hg; replace HB := kH HB hb; have NB120_127 := kL BK120 hg; have NB127_120 := kQ BK120 hg; replace BK120 := kB BK120 hb; clear hb hbox hg; have hnb32 := NB127_120.out; have hnc32 := NB120_127.out; obtain ⟨hcz33_0, hfz33_0⟩ := cY0 BK127; obtain ⟨hcz33_1, hfz33_1⟩ := cY1 BK127; obtain ⟨hcz33_2, hfz33_2⟩ := cY2 BK127; obtain ⟨hcz33_3, hfz33_3⟩ := cY3 BK127; obtain ⟨hcz33_4, hfz33_4⟩ := cY4 BK127; have p128 : 0 ≤ (x42_3 : Int) := dT; have q128 : x42_3 < (x5_3.length : Int) := dT; obtain ⟨ad128, e128, hx128_0⟩ := Kd.at_bool (Kd.R_reads' HO_5.out).2.2 x42_3 p128 q128; (try rw [← Nbq29.out] at hx128_0); obtain rfl : (⟨go20, 0, none⟩ : Addr) = ad128 := (by injection e128); (first | simp only [add_plain] at hx128_0 | simp only [add_at] at hx128_0 | simp only [Addr.add, Nat.zero_add] at hx128_0 | skip); have hn128_0 : (⟨go20, 0, none⟩ : Addr).block ≠ gb127 := Kd.own_blk (Kd.R_ne HO_5.out BK127.out (by decide)); have hn128_1 : (⟨go20, 0, none⟩ : Addr).block ≠ gb127 := Kd.own_blk (Kd.R_ne HO_5.out BK127.out (by decide)); have hn128_2 : (⟨go20, 0, none⟩ : Addr).block ≠ gb127 := Kd.own_blk (Kd.R_ne HO_5.out BK127.out (by decide)); have hn128_3 : (⟨go20, 0, none⟩ : Addr).block ≠ gb127 := Kd.own_blk (Kd.R_ne HO_5.out BK127.out (by decide)); have hn128_4 : (⟨go20, 0, none⟩ : Addr).block ≠ gb127 := Kd.own_blk (Kd.R_ne HO_5.out BK127.out (by decide)); replace hx128_0 := cF hn128_0 0 (.int .i64 ((rU l0_0 x42_3).f0)) hx128_0; replace hx128_0 := cF hn128_1 1 (.int .i64 ((rU l0_0 x42_3).f1)) hx128_0; replace hx128_0 := cF hn128_2 2 (.int .i64 ((rU l0_0 x42_3).f2)) hx128_0; replace hx128_0 := cF hn128_3 3 (.slice A126_3 ((rU l0_0 x42_3).f3).length c126_3) hx128_0; replace hx128_0 := cF hn128_4 4 (.slice A126_4 ((rU l0_0 x42_3).f4).length c126_4) hx128_0; clear hn128_0; clear hn128_1; clear hn128_2; clear hn128_3; clear hn128_4; replace p128 := eq_true p128; replace q128 := eq_true q128))
           go_loopg [55] k3 (fun kq v55 w' => ∃ (x5_4 : List Bool) (x55_4 : Int), v55 = .int .i64 x55_4 ∧ Aside0 (potsherdref12_reached.l2 kq x5_4 (y121.length : Int) x37_2 l0_0 (l0_0.length : Int) x42_3 ((rU l0_0 x42_3).f4) (((rU l0_0 x42_3).f4).length : Int) x55_4 l0_0 = some r) ∧ Aside0 (kq ≤ k3) ∧ Aside0 (Kd.R Kd.bool 4 w' w.heap.size (fun _ => True) (.slice (some ⟨go20, 0, none⟩) x5_3.length co20) x5_4) ∧ Aside0 (w'.heap[gb120]? = some (.cells #[(.slice (some ad126) l0_0.length c0_0)] 24 (0, 0))) ∧ Aside0 (w'.heap[gb127]? = some (.cells #[.int .i64 ((rU l0_0 x42_3).f0), .int .i64 ((rU l0_0 x42_3).f1), .int .i64 ((rU l0_0 x42_3).f2), (.slice A126_3 ((rU l0_0 x42_3).f3).length c126_3), (.slice A126_4 ((rU l0_0 x42_3).f4).length c126_4)] 28 (0, 0))) ∧ Aside0 (Below w.heap.size w w'))
           case atStart => exact ⟨(x5_3), (0), sI, H', ⟨Nat.le_refl _⟩, ⟨by (try simp only [hl5_2]); (try simp only [hl5_3]); (with_reducible repeat (first | apply Kd.R_alloc | apply Kd.R_drewN | apply Kd.R_drew)); exact Kd.R_mono (Kd.R_far (p := ⟨gb127, 4, none⟩) (Kd.R_far (p := ⟨gb127, 3, none⟩) (Kd.R_far (p := ⟨gb127, 2, none⟩) (Kd.R_far (p := ⟨gb127, 1, none⟩) (Kd.R_far (p := ⟨gb127, 0, none⟩) (Kd.R_types HO_5.out BK127.out (by decide)) (fun _ hk => hk.2) (.int .i64 ((rU l0_0 x42_3).f0))) (fun _ hk => hk.2) (.int .i64 ((rU l0_0 x42_3).f1))) (fun _ hk => hk.2) (.int .i64 ((rU l0_0 x42_3).f2))) (fun _ hk => hk.2) (.slice A126_3 ((rU l0_0 x42_3).f3).length c126_3)) (fun _ hk => hk.2) (.slice A126_4 ((rU l0_0 x42_3).f4).length c126_4)) (fun _ hk => trivial)⟩, ⟨by (try simp only [hl5_2]); (try simp only [hl5_3]); (with_reducible repeat (first | refine bN ?_ _ | refine bD ?_ | refine bA ?_ _)); refine bF ?_ NB120_127.out _; (with_reducible repeat (first | refine bN ?_ _ | refine bD ?_ | refine bA ?_ _)); refine bF ?_ NB120_127.out _; (with_reducible repeat (first | refine bN ?_ _ | refine bD ?_ | refine bA ?_ _)); refine bF ?_ NB120_127.out _; (with_reducible repeat (first | refine bN ?_ _ | refine bD ?_ | refine bA ?_ _)); refine bF ?_ NB120_127.out _; (with_reducible repeat (first | refine bN ?_ _ | refine bD ?_ | refine bA ?_ _)); refine bF ?_ NB120_127.out _; (with_reducible repeat (first | refine bN ?_ _ | refine bD ?_ | refine bA ?_ _)); exact BK120.out⟩, ⟨by (try simp only [hl5_2]); (try simp only [hl5_3]); (with_reducible repeat (first | refine bN ?_ _ | refine bD ?_ | refine bA ?_ _)); refine blk_put (cs := #[.int .i64 ((rU l0_0 x42_3).f0), .int .i64 ((rU l0_0 x42_3).f1), .int .i64 ((rU l0_0 x42_3).f2), .slice A126_3 ((rU l0_0 x42_3).f3).length c126_3, .slice none 0 0]) ?_ 4 _ rfl; (with_reducible repeat (first | refine bN ?_ _ | refine bD ?_ | refine bA ?_ _)); refine blk_put (cs := #[.int .i64 ((rU l0_0 x42_3).f0), .int .i64 ((rU l0_0 x42_3).f1), .int .i64 ((rU l0_0 x42_3).f2), .slice none 0 0, .slice none 0 0]) ?_ 3 _ rfl; (with_reducible repeat (first | refine bN ?_ _ | refine bD ?_ | refine bA ?_ _)); refine blk_put (cs := #[.int .i64 ((rU l0_0 x42_3).f0), .int .i64 ((rU l0_0 x42_3).f1), .int .i64 0, .slice none 0 0, .slice none 0 0]) ?_ 2 _ rfl; (with_reducible repeat (first | refine bN ?_ _ | refine bD ?_ | refine bA ?_ _)); refine blk_put (cs := #[.int .i64 ((rU l0_0 x42_3).f0), .int .i64 0, .int .i64 0, .slice none 0 0, .slice none 0 0]) ?_ 1 _ rfl; (with_reducible repeat (first | refine bN ?_ _ | refine bD ?_ | refine bA ?_ _)); refine blk_put (cs := #[.int .i64 0, .int .i64 0, .int .i64 0, .slice none 0 0, .slice none 0 0]) ?_ 0 _ rfl; (with_reducible repeat (first | refine bN ?_ _ | refine bD ?_ | refine bA ?_ _)); exact BK127.out⟩, ⟨mH HB⟩⟩
           case round =>
            clear H'
            (try clear c3); (try clear c3b0); (try clear c3b1); (try clear c4); (try clear c4b0); (try clear c4b1); (try clear c17); (try clear c18); (try clear c18b0); (try clear c19); (try clear c19b0); (try clear p20); (try clear q20); (try clear c23); (try clear c23b0); (try clear c25); (try clear c25b0); (try clear c26); (try clear c26b0); (try clear c27); (try clear c27b0); (try clear c28); (try clear c28b0); (try clear c30); (try clear hcz24_0); (try clear hcz33_0); (try clear hcz33_1); (try clear hcz33_2); (try clear hcz33_3); (try clear hcz33_4); (try clear hcz7_0); (try clear hfz24_0); (try clear hfz33_0); (try clear hfz33_1); (try clear hfz33_2); (try clear hfz33_3); (try clear hfz33_4); (try clear hfz7_0); (try clear hx126_0); (try clear hx126_1); (try clear hx126_2); (try clear hx126_3); (try clear hx126_4); (try clear hx128_0); (try clear hx20_0); (try clear p126); (try clear p128); (try clear p20); (try clear q126); (try clear q128); (try clear q20)
            obtain ⟨x5_4, x55_4, rfl, HA, HK4, HO_5, BK120, BK127, HB⟩ := hrel; have hl5_4 := (Kd.R_reads' HO_5.out).1; rw [hl5_4] at HO_5
            (try simp only [hl5_4])
            (try simp only [hl5_4] at BK120)
            (try simp only [hl5_4] at BK127)
            cases gk with
            | zero => exact absurd HA.out (by simp [potsherdref12_reached.l2])
            | succ k4 =>
             have H := HA.out; clear HA; simp only [potsherdref12_reached.l2] at H
             by_cases c34 : x55_4 < (((rU l0_0 x42_3).f4).length : Int)
             ·
              rw [if_pos c34] at H; have c34b0 := qT c34; clear c34
              replace H := nP H; obtain ⟨c35, H⟩ := H; have c35b0 := qT c35; clear c35
              replace H := nP H; obtain ⟨c36, H⟩ := H; have c36b0 := qT c36; clear c36
              by_cases c37 : ((rV ((rU l0_0 x42_3).f4) x55_4).f1) ≥ 0
              ·
               rw [if_pos c37] at H; have c37b0 : decide (0 ≤ ((rV ((rU l0_0 x42_3).f4) x55_4).f1)) = true := qT c37; clear c37
               by_cases c38 : ((rV ((rU l0_0 x42_3).f4) x55_4).f1) < (x5_4.length : Int)
               ·
                rw [if_pos c38] at H; have c38b0 := qT c38; clear c38
                replace H := nP H; obtain ⟨c39, H⟩ := H; have c39b0 := qT c39; clear c39
                replace H := nP H; obtain ⟨c40, H⟩ := H; have c40b0 := qT c40; clear c40
                by_cases c41 : ((rU l0_0 ((rV ((rU l0_0 x42_3).f4) x55_4).f1)).f0) = 2
                ·
                 rw [if_pos c41] at H; obtain ⟨c41b0, c41b1⟩ := eP c41; clear c41; obtain ⟨y132, hy132⟩ : ∃ y_ : List Bool, y_ = (x5_4.set (((rV ((rU l0_0 x42_3).f4) x55_4).f1) : Int).toNat true) := ⟨_, rfl⟩
                 replace H : (potsherdref12_reached.l2 k4 y132 (y121.length : Int) x37_2 l0_0 (l0_0.length : Int) x42_3 ((rU l0_0 x42_3).f4) (((rU l0_0 x42_3).f4).length : Int) (wrap64 (x55_4 + 1)) l0_0) = some r := rH H hy132
                 have Ny132 := kA hy132; clear hy132; have H' := kA H; clear H; have p129 : 0 ≤ (x55_4 : Int) := dT; have q129 : x55_4 < (((rU l0_0 x42_3).f4).length : Int) := dT; obtain ⟨ad129, e129, hx129_0, hx129_1⟩ := at_T78 HR126_4.out x55_4 p129 q129
                 cases e129
                 replace hx129_0 := xC HB hx129_0; replace hx129_1 := xC HB hx129_1; replace p129 := eq_true p129; replace q129 := eq_true q129
                 go_wp2_with (first | ((with_reducible refine gate_dst (N := 9) rfl ?_); (try (refine gate_guard (by rfl) ?_; dsimp only)); refine bxE 78 (cs := #[.string (⟨#[]⟩ : ByteArray), .int .i64 0]) ?_; intro gb130 hg w43 hbox hb; replace HO_5 := kR HO_5 hb; have BK130 := kA hbox; have GW130 := kG HB hg; have GE130 := kG HB hg; replace HB := kH HB hb; have NB120_130 := kL BK120 hg; have NB130_120 := kQ BK120 hg; replace BK120 := kB BK120 hb; have NB127_130 := kL BK127 hg; have NB130_127 := kQ BK127 hg; replace BK127 := kB BK127 hb; clear hb hbox hg; have hnb44 := NB130_120.out; have hnc44 := NB120_130.out; have hnb45 := NB130_127.out; have hnc45 := NB127_130.out; obtain ⟨hcz46_0, hfz46_0⟩ := cY0 BK130; obtain ⟨hcz46_1, hfz46_1⟩ := cY1 BK130) | ((with_reducible refine gate_store (t := 78) (p := 9) rfl ?_); refine store_event (t := 78) (p := 9) (v := ?vo_w47) (w1 := ((w43.setCell ⟨gb130, 0, none⟩ (.string ((rV ((rU l0_0 x42_3).f4) x55_4).f0))).setCell ⟨gb130, 1, none⟩ (.int .i64 ((rV ((rU l0_0 x42_3).f4) x55_4).f1)))) ?hg ?ho ?hn ?hr ?_; (case ho => rfl); (case hg => rfl); (case hn => rfl); (case hr => first | (go_simp; done) | (go_simp; rfl)); intro w47 hw; have n0_ : Aside0 (Kd.R Kd.bool 4 w47 w.heap.size (fun _ => True) (.slice (some ⟨go20, 0, none⟩) x5_4.length co20) x5_4) := ⟨(by rw [hw]; exact (fR ⟨Kd.R_types HO_5.out BK130.out (by decide)⟩))⟩; have n1_ : Aside0 (w47.heap[gb120]? = some (.cells #[.slice (some ad126) l0_0.length c0_0] 24 (0, 0))) := ⟨(by rw [hw]; exact (mF BK120))⟩; have n2_ : Aside0 (w47.heap[gb127]? = some (.cells #[.int .i64 ((rU l0_0 x42_3).f0), .int .i64 ((rU l0_0 x42_3).f1), .int .i64 ((rU l0_0 x42_3).f2), .slice A126_3 ((rU l0_0 x42_3).f3).length c126_3, .slice (some ad129) ((rU l0_0 x42_3).f4).length c126_4] 28 (0, 0))) := ⟨(by rw [hw]; exact (mF BK127))⟩; have n3_ : Aside0 (w47.heap[gb130]? = some (.cells #[.string ((rV ((rU l0_0 x42_3).f4) x55_4).f0), .int .i64 ((rV ((rU l0_0 x42_3).f4) x55_4).f1)] 78 (0, 0))) := ⟨(by rw [hw]; exact (pP BK130))⟩; have n4_ : Aside0 (Below w.heap.size w w47) := ⟨(by rw [hw]; exact (mH HB))⟩; clear hw; clear HO_5; clear BK120; clear BK127; clear BK130; clear HB; have HO_5 := n0_; have BK120 := n1_; have BK127 := n2_; have BK130 := n3_; have HB := n4_; clear n0_ n1_ n2_ n3_ n4_; obtain ⟨hcz48_0, hfz48_0⟩ := cY0 BK130; obtain ⟨hcz48_1, hfz48_1⟩ := cY1 BK130; have hnb49 := NB120_127.out; have hnc49 := NB127_120.out; obtain ⟨hcz50_0, hfz50_0⟩ := cY0 BK120; have p131 : 0 ≤ (((rV ((rU l0_0 x42_3).f4) x55_4).f1) : Int) := dT; have q131 : ((rV ((rU l0_0 x42_3).f4) x55_4).f1) < (l0_0.length : Int) := dT; obtain ⟨ad131, A131_3, c131_3, A131_4, c131_4, e131, hx131_0, hx131_1, hx131_2, hx131_3, hx131_4, hl131_3, hi131_3, hl131_4, hi131_4⟩ := at_T28 HR0_0.out ((rV ((rU l0_0 x42_3).f4) x55_4).f1) p131 q131; obtain rfl : ad126 = ad131 := (by injection e131); replace hx131_0 := xC HB hx131_0; replace hx131_1 := xC HB hx131_1; replace hx131_2 := xC HB hx131_2; replace hx131_3 := xC HB hx131_3; replace hx131_4 := xC HB hx131_4; have HR131_3 := kA hi131_3; have HC131_3 := kA hl131_3; clear hi131_3 hl131_3; have HR131_4 := kA hi131_4; have HC131_4 := kA hl131_4; clear hi131_4 hl131_4; replace p131 := eq_true p131; replace q131 := eq_true q131; have p42 : 0 ≤ (((rV ((rU l0_0 x42_3).f4) x55_4).f1) : Int) := dT; have q42 : (((rV ((rU l0_0 x42_3).f4) x55_4).f1) : Int) < ((x5_4.length : Int) : Int) := dT; obtain ⟨hx42_0, hf42_0⟩ := Kd.R_celln false HO_5.out (((rV ((rU l0_0 x42_3).f4) x55_4).f1) : Int) p42 q42; replace p42 := eq_true p42; replace q42 := eq_true q42; obtain ⟨hy51_, hz51_⟩ := Kd.R_celln false HO_5.out (((rV ((rU l0_0 x42_3).f4) x55_4).f1) : Int) (dT) (dT); have HP51 := Kd.R_putg HO_5.out (((rV ((rU l0_0 x42_3).f4) x55_4).f1) : Int) true) | ((with_reducible refine gate_store (t := 4) (p := 82) rfl ?_); refine store_event (t := 4) (p := 82) (v := ?vo_w52) (w1 := (w47.setCell ⟨go20, (((rV ((rU l0_0 x42_3).f4) x55_4).f1) : Int).toNat, none⟩ (.bool true))) ?hg ?ho ?hn ?hr ?_; (case ho => rfl); (case hg => rfl); (case hn => rfl); (case hr => first | (go_simp; done) | (go_simp; rfl)); intro w52 hw; have hg : w47.grownBy w52 (some go20) := (by rw [hw]; exact HP51.2); have hp_ : Kd.R Kd.bool 4 w52 w.heap.size (fun _ => True) (.slice (some ⟨go20, 0, none⟩) x5_4.length co20) y132 := (by rw [hw, Ny132.out]; exact HP51.1); clear HP51; replace BK120 := kA (blk_grown (g := gb120) (o := .cells #[.slice (some ad126) l0_0.length c0_0] 24 (0, 0)) (mB BK120) hg (Kd.R_ne HO_5.out BK120.out (by decide))); replace BK127 := kA (blk_grown (g := gb127) (o := .cells #[.int .i64 ((rU l0_0 x42_3).f0), .int .i64 ((rU l0_0 x42_3).f1), .int .i64 ((rU l0_0 x42_3).f2), .slice A126_3 ((rU l0_0 x42_3).f3).length c126_3, .slice (some ad129) ((rU l0_0 x42_3).f4).length c126_4] 28 (0, 0)) (mB BK127) hg (Kd.R_ne HO_5.out BK127.out (by decide))); replace BK130 := kA (blk_grown (g := gb130) (o := .cells #[.string ((rV ((rU l0_0 x42_3).f4) x55_4).f0), .int .i64 ((rV ((rU l0_0 x42_3).f4) x55_4).f1)] 78 (0, 0)) (mB BK130) hg (Kd.R_ne HO_5.out BK130.out (by decide))); replace HO_5 := kA (hp_); replace HB := kA ((by rw [hw]; exact wS (HB.out) GB20.out : Below w.heap.size w w52)); clear hg hw hp_))
                 (try simp only [← hl5_4])
                 go_roundg k4
                 case measure => have := HJ4.out; have := HK2.out; have := HK3.out; have := HK4.out; omega
                 case rel => exact ⟨(y132), (wrap64 (x55_4 + 1)), sI, H', ⟨by have := HJ4.out; have := HK2.out; have := HK3.out; have := HK4.out; omega⟩, ⟨by (try simp only [hl5_2]); (try simp only [hl5_3]); (try simp only [hl5_4]); (with_reducible repeat (first | apply Kd.R_alloc | apply Kd.R_drewN | apply Kd.R_drew)); exact HO_5.out⟩, ⟨by (try simp only [hl5_2]); (try simp only [hl5_3]); (try simp only [hl5_4]); (with_reducible repeat (first | refine bN ?_ _ | refine bD ?_ | refine bA ?_ _)); exact BK120.out⟩, ⟨by (try simp only [hl5_2]); (try simp only [hl5_3]); (try simp only [hl5_4]); (with_reducible repeat (first | refine bN ?_ _ | refine bD ?_ | refine bA ?_ _)); exact BK127.out⟩, ⟨mH HB⟩⟩
                ·
                 rw [if_neg c41] at H; obtain ⟨c41b0, c41b1⟩ := eN c41; have H' := kA H; clear H; have p129 : 0 ≤ (x55_4 : Int) := dT; have q129 : x55_4 < (((rU l0_0 x42_3).f4).length : Int) := dT; obtain ⟨ad129, e129, hx129_0, hx129_1⟩ := at_T78 HR126_4.out x55_4 p129 q129
                 cases e129
                 replace hx129_0 := xC HB hx129_0; replace hx129_1 := xC HB hx129_1; replace p129 := eq_true p129; replace q129 := eq_true q129
                 go_wp2_with (first | ((with_reducible refine gate_dst (N := 9) rfl ?_); (try (refine gate_guard (by rfl) ?_; dsimp only)); refine bxE 78 (cs := #[.string (⟨#[]⟩ : ByteArray), .int .i64 0]) ?_; intro gb130 hg w53 hbox hb; replace HO_5 := kR HO_5 hb; have BK130 := kA hbox; have GW130 := kG HB hg; have GE130 := kG HB hg; replace HB := kH HB hb; have NB120_130 := kL BK120 hg; have NB130_120 := kQ BK120 hg; replace BK120 := kB BK120 hb; have NB127_130 := kL BK127 hg; have NB130_127 := kQ BK127 hg; replace BK127 := kB BK127 hb; clear hb hbox hg; have hnb54 := NB130_120.out; have hnc54 := NB120_130.out; have hnb55 := NB130_127.out; have hnc55 := NB127_130.out; obtain ⟨hcz56_0, hfz56_0⟩ := cY0 BK130; obtain ⟨hcz56_1, hfz56_1⟩ := cY1 BK130; have hnb57 := NB120_127.out; have hnc57 := NB127_120.out; obtain ⟨hcz58_0, hfz58_0⟩ := cY0 BK120; have p131 : 0 ≤ (((rV ((rU l0_0 x42_3).f4) x55_4).f1) : Int) := dT; have q131 : ((rV ((rU l0_0 x42_3).f4) x55_4).f1) < (l0_0.length : Int) := dT; obtain ⟨ad131, A131_3, c131_3, A131_4, c131_4, e131, hx131_0, hx131_1, hx131_2, hx131_3, hx131_4, hl131_3, hi131_3, hl131_4, hi131_4⟩ := at_T28 HR0_0.out ((rV ((rU l0_0 x42_3).f4) x55_4).f1) p131 q131; obtain rfl : ad126 = ad131 := (by injection e131); have hn131_0 : ad126.block ≠ gb130 := Nat.ne_of_lt (Nat.lt_of_lt_of_le (by have := World.block_lt_of_cell? _ _ hx131_0; first | rwa [add_block] at this | exact this) GW130.out); have hn131_1 : ad126.block ≠ gb130 := Nat.ne_of_lt (Nat.lt_of_lt_of_le (by have := World.block_lt_of_cell? _ _ hx131_0; first | rwa [add_block] at this | exact this) GW130.out); replace hx131_0 := xC HB hx131_0; replace hx131_1 := xC HB hx131_1; replace hx131_2 := xC HB hx131_2; replace hx131_3 := xC HB hx131_3; replace hx131_4 := xC HB hx131_4; have HR131_3 := kA hi131_3; have HC131_3 := kA hl131_3; clear hi131_3 hl131_3; have HR131_4 := kA hi131_4; have HC131_4 := kA hl131_4; clear hi131_4 hl131_4; replace hx131_0 := cF hn131_0 0 (.string ((rV ((rU l0_0 x42_3).f4) x55_4).f0)) hx131_0; replace hx131_1 := cF hn131_0 0 (.string ((rV ((rU l0_0 x42_3).f4) x55_4).f0)) hx131_1; replace hx131_2 := cF hn131_0 0 (.string ((rV ((rU l0_0 x42_3).f4) x55_4).f0)) hx131_2; replace hx131_3 := cF hn131_0 0 (.string ((rV ((rU l0_0 x42_3).f4) x55_4).f0)) hx131_3; replace hx131_4 := cF hn131_0 0 (.string ((rV ((rU l0_0 x42_3).f4) x55_4).f0)) hx131_4; replace hx131_0 := cF hn131_1 1 (.int .i64 ((rV ((rU l0_0 x42_3).f4) x55_4).f1)) hx131_0; replace hx131_1 := cF hn131_1 1 (.int .i64 ((rV ((rU l0_0 x42_3).f4) x55_4).f1)) hx131_1; replace hx131_2 := cF hn131_1 1 (.int .i64 ((rV ((rU l0_0 x42_3).f4) x55_4).f1)) hx131_2; replace hx131_3 := cF hn131_1 1 (.int .i64 ((rV ((rU l0_0 x42_3).f4) x55_4).f1)) hx131_3; replace hx131_4 := cF hn131_1 1 (.int .i64 ((rV ((rU l0_0 x42_3).f4) x55_4).f1)) hx131_4; clear hn131_0; clear hn131_1; replace p131 := eq_true p131; replace q131 := eq_true q131))
                 (try simp only [← hl5_4])
                 go_roundg k4
                 case measure => have := HJ4.out; have := HK2.out; have := HK3.out; have := HK4.out; omega
                 case rel => exact ⟨(x5_4), (wrap64 (x55_4 + 1)), sI, H', ⟨by have := HJ4.out; have := HK2.out; have := HK3.out; have := HK4.out; omega⟩, ⟨by (try simp only [hl5_2]); (try simp only [hl5_3]); (try simp only [hl5_4]); (with_reducible repeat (first | apply Kd.R_alloc | apply Kd.R_drewN | apply Kd.R_drew)); exact Kd.R_mono (Kd.R_far (p := ⟨gb130, 1, none⟩) (Kd.R_far (p := ⟨gb130, 0, none⟩) (Kd.R_types HO_5.out BK130.out (by decide)) (fun _ hk => hk.2) (.string ((rV ((rU l0_0 x42_3).f4) x55_4).f0))) (fun _ hk => hk.2) (.int .i64 ((rV ((rU l0_0 x42_3).f4) x55_4).f1))) (fun _ hk => trivial)⟩, ⟨by (try simp only [hl5_2]); (try simp only [hl5_3]); (try simp only [hl5_4]); (with_reducible repeat (first | refine bN ?_ _ | refine bD ?_ | refine bA ?_ _)); refine bF ?_ NB120_130.out _; (with_reducible repeat (first | refine bN ?_ _ | refine bD ?_ | refine bA ?_ _)); refine bF ?_ NB120_130.out _; (with_reducible repeat (first | refine bN ?_ _ | refine bD ?_ | refine bA ?_ _)); exact BK120.out⟩, ⟨by (try simp only [hl5_2]); (try simp only [hl5_3]); (try simp only [hl5_4]); (with_reducible repeat (first | refine bN ?_ _ | refine bD ?_ | refine bA ?_ _)); refine bF ?_ NB127_130.out _; (with_reducible repeat (first | refine bN ?_ _ | refine bD ?_ | refine bA ?_ _)); refine bF ?_ NB127_130.out _; (with_reducible repeat (first | refine bN ?_ _ | refine bD ?_ | refine bA ?_ _)); exact BK127.out⟩, ⟨mH HB⟩⟩
               ·
                rw [if_neg c38] at H; have c38b0 := qF c38; clear c38; have H' := kA H; clear H; have p129 : 0 ≤ (x55_4 : Int) := dT; have q129 : x55_4 < (((rU l0_0 x42_3).f4).length : Int) := dT; obtain ⟨ad129, e129, hx129_0, hx129_1⟩ := at_T78 HR126_4.out x55_4 p129 q129
                cases e129
                replace hx129_0 := xC HB hx129_0; replace hx129_1 := xC HB hx129_1; replace p129 := eq_true p129; replace q129 := eq_true q129
                go_wp2_with (first | ((with_reducible refine gate_dst (N := 9) rfl ?_); (try (refine gate_guard (by rfl) ?_; dsimp only)); refine bxE 78 (cs := #[.string (⟨#[]⟩ : ByteArray), .int .i64 0]) ?_; intro gb130 hg w59 hbox hb; replace HO_5 := kR HO_5 hb; have BK130 := kA hbox; have GW130 := kG HB hg; have GE130 := kG HB hg; replace HB := kH HB hb; have NB120_130 := kL BK120 hg; have NB130_120 := kQ BK120 hg; replace BK120 := kB BK120 hb; have NB127_130 := kL BK127 hg; have NB130_127 := kQ BK127 hg; replace BK127 := kB BK127 hb; clear hb hbox hg; have hnb60 := NB130_120.out; have hnc60 := NB120_130.out; have hnb61 := NB130_127.out; have hnc61 := NB127_130.out; obtain ⟨hcz62_0, hfz62_0⟩ := cY0 BK130; obtain ⟨hcz62_1, hfz62_1⟩ := cY1 BK130))
                (try simp only [← hl5_4])
                go_roundg k4
                case measure => have := HJ4.out; have := HK2.out; have := HK3.out; have := HK4.out; omega
                case rel => exact ⟨(x5_4), (wrap64 (x55_4 + 1)), sI, H', ⟨by have := HJ4.out; have := HK2.out; have := HK3.out; have := HK4.out; omega⟩, ⟨by (try simp only [hl5_2]); (try simp only [hl5_3]); (try simp only [hl5_4]); (with_reducible repeat (first | apply Kd.R_alloc | apply Kd.R_drewN | apply Kd.R_drew)); exact Kd.R_mono (Kd.R_far (p := ⟨gb130, 1, none⟩) (Kd.R_far (p := ⟨gb130, 0, none⟩) (Kd.R_types HO_5.out BK130.out (by decide)) (fun _ hk => hk.2) (.string ((rV ((rU l0_0 x42_3).f4) x55_4).f0))) (fun _ hk => hk.2) (.int .i64 ((rV ((rU l0_0 x42_3).f4) x55_4).f1))) (fun _ hk => trivial)⟩, ⟨by (try simp only [hl5_2]); (try simp only [hl5_3]); (try simp only [hl5_4]); (with_reducible repeat (first | refine bN ?_ _ | refine bD ?_ | refine bA ?_ _)); refine bF ?_ NB120_130.out _; (with_reducible repeat (first | refine bN ?_ _ | refine bD ?_ | refine bA ?_ _)); refine bF ?_ NB120_130.out _; (with_reducible repeat (first | refine bN ?_ _ | refine bD ?_ | refine bA ?_ _)); exact BK120.out⟩, ⟨by (try simp only [hl5_2]); (try simp only [hl5_3]); (try simp only [hl5_4]); (with_reducible repeat (first | refine bN ?_ _ | refine bD ?_ | refine bA ?_ _)); refine bF ?_ NB127_130.out _; (with_reducible repeat (first | refine bN ?_ _ | refine bD ?_ | refine bA ?_ _)); refine bF ?_ NB127_130.out _; (with_reducible repeat (first | refine bN ?_ _ | refine bD ?_ | refine bA ?_ _)); exact BK127.out⟩, ⟨mH HB⟩⟩
              ·
               rw [if_neg c37] at H; have c37b0 : decide (0 ≤ ((rV ((rU l0_0 x42_3).f4) x55_4).f1)) = false := qF c37; clear c37; have H' := kA H; clear H; have p129 : 0 ≤ (x55_4 : Int) := dT; have q129 : x55_4 < (((rU l0_0 x42_3).f4).length : Int) := dT; obtain ⟨ad129, e129, hx129_0, hx129_1⟩ := at_T78 HR126_4.out x55_4 p129 q129
               cases e129
               replace hx129_0 := xC HB hx129_0; replace hx129_1 := xC HB hx129_1; replace p129 := eq_true p129; replace q129 := eq_true q129
               go_wp2_with (first | ((with_reducible refine gate_dst (N := 9) rfl ?_); (try (refine gate_guard (by rfl) ?_; dsimp only)); refine bxE 78 (cs := #[.string (⟨#[]⟩ : ByteArray), .int .i64 0]) ?_; intro gb130 hg w63 hbox hb; replace HO_5 := kR HO_5 hb; have BK130 := kA hbox; have GW130 := kG HB hg; have GE130 := kG HB hg; replace HB := kH HB hb; have NB120_130 := kL BK120 hg; have NB130_120 := kQ BK120 hg; replace BK120 := kB BK120 hb; have NB127_130 := kL BK127 hg; have NB130_127 := kQ BK127 hg; replace BK127 := kB BK127 hb; clear hb hbox hg; have hnb64 := NB130_120.out; have hnc64 := NB120_130.out; have hnb65 := NB130_127.out; have hnc65 := NB127_130.out; obtain ⟨hcz66_0, hfz66_0⟩ := cY0 BK130; obtain ⟨hcz66_1, hfz66_1⟩ := cY1 BK130))
               (try simp only [← hl5_4])
               go_roundg k4
               case measure => have := HJ4.out; have := HK2.out; have := HK3.out; have := HK4.out; omega
               case rel => exact ⟨(x5_4), (wrap64 (x55_4 + 1)), sI, H', ⟨by have := HJ4.out; have := HK2.out; have := HK3.out; have := HK4.out; omega⟩, ⟨by (try simp only [hl5_2]); (try simp only [hl5_3]); (try simp only [hl5_4]); (with_reducible repeat (first | apply Kd.R_alloc | apply Kd.R_drewN | apply Kd.R_drew)); exact Kd.R_mono (Kd.R_far (p := ⟨gb130, 1, none⟩) (Kd.R_far (p := ⟨gb130, 0, none⟩) (Kd.R_types HO_5.out BK130.out (by decide)) (fun _ hk => hk.2) (.string ((rV ((rU l0_0 x42_3).f4) x55_4).f0))) (fun _ hk => hk.2) (.int .i64 ((rV ((rU l0_0 x42_3).f4) x55_4).f1))) (fun _ hk => trivial)⟩, ⟨by (try simp only [hl5_2]); (try simp only [hl5_3]); (try simp only [hl5_4]); (with_reducible repeat (first | refine bN ?_ _ | refine bD ?_ | refine bA ?_ _)); refine bF ?_ NB120_130.out _; (with_reducible repeat (first | refine bN ?_ _ | refine bD ?_ | refine bA ?_ _)); refine bF ?_ NB120_130.out _; (with_reducible repeat (first | refine bN ?_ _ | refine bD ?_ | refine bA ?_ _)); exact BK120.out⟩, ⟨by (try simp only [hl5_2]); (try simp only [hl5_3]); (try simp only [hl5_4]); (with_reducible repeat (first | refine bN ?_ _ | refine bD ?_ | refine bA ?_ _)); refine bF ?_ NB127_130.out _; (with_reducible repeat (first | refine bN ?_ _ | refine bD ?_ | refine bA ?_ _)); refine bF ?_ NB127_130.out _; (with_reducible repeat (first | refine bN ?_ _ | refine bD ?_ | refine bA ?_ _)); exact BK127.out⟩, ⟨mH HB⟩⟩
             ·
              rw [if_neg c34] at H; have c34b0 := qF c34; clear c34; have H' := kA H; clear H
              go_wp2
              (try simp only [← hl5_3, ← hl5_4])
              go_roundg k4
              case measure => have := HJ4.out; have := HK2.out; have := HK3.out; have := HK4.out; omega
              case rel => exact ⟨(x5_4), (wrap64 (x42_3 + 1)), sI, H', ⟨by have := HJ4.out; have := HK2.out; have := HK3.out; have := HK4.out; omega⟩, ⟨by (try simp only [hl5_2]); (try simp only [hl5_3]); (try simp only [hl5_4]); (with_reducible repeat (first | apply Kd.R_alloc | apply Kd.R_drewN | apply Kd.R_drew)); exact HO_5.out⟩, ⟨by (try simp only [hl5_2]); (try simp only [hl5_3]); (try simp only [hl5_4]); (with_reducible repeat (first | refine bN ?_ _ | refine bD ?_ | refine bA ?_ _)); exact BK120.out⟩, ⟨mH HB⟩⟩
          ·
           replace c30 := Bool.eq_false_iff.mpr c30; subst c30
           have H1 : (potsherdref12_reached.l1 k3 x5_3 (y121.length : Int) x37_2 l0_0 (l0_0.length : Int) (wrap64 (x42_3 + 1)) l0_0) = some r := by rw [if_neg (show ¬ (false = true) by decide)] at H; exact H
           clear H; have H := H1; clear H1; have H' := kA H; clear H; have p126 : 0 ≤ (x42_3 : Int) := dT; have q126 : x42_3 < (l0_0.length : Int) := dT; obtain ⟨ad126, A126_3, c126_3, A126_4, c126_4, e126, hx126_0, hx126_1, hx126_2, hx126_3, hx126_4, hl126_3, hi126_3, hl126_4, hi126_4⟩ := at_T28 HR0_0.out x42_3 p126 q126
           cases e126
           replace hx126_0 := xC HB hx126_0; replace hx126_1 := xC HB hx126_1; replace hx126_2 := xC HB hx126_2; replace hx126_3 := xC HB hx126_3; replace hx126_4 := xC HB hx126_4; have HR126_3 := kA hi126_3; have HC126_3 := kA hl126_3; clear hi126_3 hl126_3; have HR126_4 := kA hi126_4; have HC126_4 := kA hl126_4; clear hi126_4 hl126_4; replace p126 := eq_true p126; replace q126 := eq_true q126
           go_wp2_with (first | ((with_reducible refine gate_dst (N := 7) rfl ?_); (try (refine gate_guard (by rfl) ?_; dsimp only)); refine bxE 28 (cs := #[.int .i64 0, .int .i64 0, .int .i64 0, .slice none 0 0, .slice none 0 0]) ?_; intro gb127 hg w67 hbox hb; replace HO_5 := kR HO_5 hb; have BK127 := kA hbox; have GW127 := kG HB hg; have GE127 := kG HB hg; replace HB := kH HB hb; have NB120_127 := kL BK120 hg; have NB127_120 := kQ BK120 hg; replace BK120 := kB BK120 hb; clear hb hbox hg; have hnb68 := NB127_120.out; have hnc68 := NB120_127.out; obtain ⟨hcz69_0, hfz69_0⟩ := cY0 BK127; obtain ⟨hcz69_1, hfz69_1⟩ := cY1 BK127; obtain ⟨hcz69_2, hfz69_2⟩ := cY2 BK127; obtain ⟨hcz69_3, hfz69_3⟩ := cY3 BK127; obtain ⟨hcz69_4, hfz69_4⟩ := cY4 BK127; have p128 : 0 ≤ (x42_3 : Int) := dT; have q128 : x42_3 < (x5_3.length : Int) := dT; obtain ⟨ad128, e128, hx128_0⟩ := Kd.at_bool (Kd.R_reads' HO_5.out).2.2 x42_3 p128 q128; (try rw [← Nbq29.out] at hx128_0); obtain rfl : (⟨go20, 0, none⟩ : Addr) = ad128 := (by injection e128); (first | simp only [add_plain] at hx128_0 | simp only [add_at] at hx128_0 | simp only [Addr.add, Nat.zero_add] at hx128_0 | skip); have hn128_0 : (⟨go20, 0, none⟩ : Addr).block ≠ gb127 := Kd.own_blk (Kd.R_ne HO_5.out BK127.out (by decide)); have hn128_1 : (⟨go20, 0, none⟩ : Addr).block ≠ gb127 := Kd.own_blk (Kd.R_ne HO_5.out BK127.out (by decide)); have hn128_2 : (⟨go20, 0, none⟩ : Addr).block ≠ gb127 := Kd.own_blk (Kd.R_ne HO_5.out BK127.out (by decide)); have hn128_3 : (⟨go20, 0, none⟩ : Addr).block ≠ gb127 := Kd.own_blk (Kd.R_ne HO_5.out BK127.out (by decide)); have hn128_4 : (⟨go20, 0, none⟩ : Addr).block ≠ gb127 := Kd.own_blk (Kd.R_ne HO_5.out BK127.out (by decide)); replace hx128_0 := cF hn128_0 0 (.int .i64 ((rU l0_0 x42_3).f0)) hx128_0; replace hx128_0 := cF hn128_1 1 (.int .i64 ((rU l0_0 x42_3).f1)) hx128_0; replace hx128_0 := cF hn128_2 2 (.int .i64 ((rU l0_0 x42_3).f2)) hx128_0; replace hx128_0 := cF hn128_3 3 (.slice A126_3 ((rU l0_0 x42_3).f3).length c126_3) hx128_0; replace hx128_0 := cF hn128_4 4 (.slice A126_4 ((rU l0_0 x42_3).f4).length c126_4) hx128_0; clear hn128_0; clear hn128_1; clear hn128_2; clear hn128_3; clear hn128_4; replace p128 := eq_true p128; replace q128 := eq_true q128))
           (try simp only [← hl5_3])
           go_roundg k3
           case measure => have := HJ4.out; have := HK2.out; have := HK3.out; omega
           case rel => exact ⟨(x5_3), (wrap64 (x42_3 + 1)), sI, H', ⟨by have := HJ4.out; have := HK2.out; have := HK3.out; omega⟩, ⟨by (try simp only [hl5_2]); (try simp only [hl5_3]); (with_reducible repeat (first | apply Kd.R_alloc | apply Kd.R_drewN | apply Kd.R_drew)); exact Kd.R_mono (Kd.R_far (p := ⟨gb127, 4, none⟩) (Kd.R_far (p := ⟨gb127, 3, none⟩) (Kd.R_far (p := ⟨gb127, 2, none⟩) (Kd.R_far (p := ⟨gb127, 1, none⟩) (Kd.R_far (p := ⟨gb127, 0, none⟩) (Kd.R_types HO_5.out BK127.out (by decide)) (fun _ hk => hk.2) (.int .i64 ((rU l0_0 x42_3).f0))) (fun _ hk => hk.2) (.int .i64 ((rU l0_0 x42_3).f1))) (fun _ hk => hk.2) (.int .i64 ((rU l0_0 x42_3).f2))) (fun _ hk => hk.2) (.slice A126_3 ((rU l0_0 x42_3).f3).length c126_3)) (fun _ hk => hk.2) (.slice A126_4 ((rU l0_0 x42_3).f4).length c126_4)) (fun _ hk => trivial)⟩, ⟨by (try simp only [hl5_2]); (try simp only [hl5_3]); (with_reducible repeat (first | refine bN ?_ _ | refine bD ?_ | refine bA ?_ _)); refine bF ?_ NB120_127.out _; (with_reducible repeat (first | refine bN ?_ _ | refine bD ?_ | refine bA ?_ _)); refine bF ?_ NB120_127.out _; (with_reducible repeat (first | refine bN ?_ _ | refine bD ?_ | refine bA ?_ _)); refine bF ?_ NB120_127.out _; (with_reducible repeat (first | refine bN ?_ _ | refine bD ?_ | refine bA ?_ _)); refine bF ?_ NB120_127.out _; (with_reducible repeat (first | refine bN ?_ _ | refine bD ?_ | refine bA ?_ _)); refine bF ?_ NB120_127.out _; (with_reducible repeat (first | refine bN ?_ _ | refine bD ?_ | refine bA ?_ _)); exact BK120.out⟩, ⟨mH HB⟩⟩
         ·
          rw [if_neg c25] at H; have c25b0 := qF c25; clear c25; have H' := kA H; clear H
          go_wp2
          (try simp only [← hl5_2, ← hl5_3])
          go_roundg k3
          case measure => have := HJ4.out; have := HK2.out; have := HK3.out; omega
          case rel => exact ⟨(x5_3), (wrap64 (x37_2 + 1)), sI, H', ⟨by have := HJ4.out; have := HK2.out; have := HK3.out; omega⟩, ⟨by (try simp only [hl5_2]); (try simp only [hl5_3]); (with_reducible repeat (first | apply Kd.R_alloc | apply Kd.R_drewN | apply Kd.R_drew)); exact HO_5.out⟩, ⟨by (try simp only [hl5_2]); (try simp only [hl5_3]); (with_reducible repeat (first | refine bN ?_ _ | refine bD ?_ | refine bA ?_ _)); exact BK120.out⟩, ⟨mH HB⟩⟩
      ·
       rw [if_neg c23] at H; have c23b0 := qF c23; clear c23; (first | simp only [hl5_4] at c23b0 | simp only [hl5_3] at c23b0 | simp only [hl5_2] at c23b0 | skip); obtain rfl := qI H
       go_wp2
       go_ret
       exact ⟨_, rT, mR HO_5, mH HB⟩
mutual
def potsherdref12_Named.l0 : Nat → Int → Int → List (S28) → Int → Int → Option (Int)
 | 0, _, _, _, _, _ => none
 | k + 1, x1, x5, x11, x12, x13 => if x13 < x12 then (if 0 ≤ x13 then (if x13 < (x11.length : Int) then (potsherdref12_Named.l1 k x1 x5 x11 x12 x13 ((rU x11 x13).f4) (((rU x11 x13).f4).length : Int) 0) else (none)) else (none)) else (some x5)
def potsherdref12_Named.l1 : Nat → Int → Int → List (S28) → Int → Int → List (S78) → Int → Int → Option (Int)
 | 0, _, _, _, _, _, _, _, _ => none
 | k + 1, x1, x5, x11, x12, x13, x18, x19, x20 => if x20 < x19 then (if 0 ≤ x20 then (if x20 < (x18.length : Int) then (if ((rV x18 x20).f1) = x1 then (potsherdref12_Named.l1 k x1 (wrap64 (x5 + 1)) x11 x12 x13 x18 x19 (wrap64 (x20 + 1))) else (potsherdref12_Named.l1 k x1 x5 x11 x12 x13 x18 x19 (wrap64 (x20 + 1)))) else (none)) else (none)) else (potsherdref12_Named.l0 k x1 x5 x11 x12 (wrap64 (x13 + 1)))
end
def potsherdref12_Named.f (k : Nat) (l0_0 : List (S28)) (a1 : Int) : Option (Int) := potsherdref12_Named.l0 k a1 0 l0_0 (l0_0.length : Int) 0
theorem potsherdref12_Named.mono_l : ∀ k, (∀ y0 y1 y2 y3 y4, LeO (potsherdref12_Named.l0 k y0 y1 y2 y3 y4) (potsherdref12_Named.l0 (k + 1) y0 y1 y2 y3 y4)) ∧ (∀ y0 y1 y2 y3 y4 y5 y6 y7, LeO (potsherdref12_Named.l1 k y0 y1 y2 y3 y4 y5 y6 y7) (potsherdref12_Named.l1 (k + 1) y0 y1 y2 y3 y4 y5 y6 y7))
 | 0 => ⟨fun _ _ _ _ _ r h => by simp [potsherdref12_Named.l0] at h, fun _ _ _ _ _ _ _ _ r h => by simp [potsherdref12_Named.l1] at h⟩
 | k + 1 => by
  obtain ⟨ih0, ih1⟩ := potsherdref12_Named.mono_l k; refine ⟨?_, ?_⟩
  ·
   intro y0 y1 y2 y3 y4
   unfold potsherdref12_Named.l0
   repeat' with_reducible first | apply ih0 | apply ih1 | exact LeO.refl _ | exact LeO.none _ | refine LeO.ite ?_ ?_ | refine LeO.bind ?_ (fun _ => ?_)
  ·
   intro y0 y1 y2 y3 y4 y5 y6 y7
   unfold potsherdref12_Named.l1
   repeat' with_reducible first | apply ih0 | apply ih1 | exact LeO.refl _ | exact LeO.none _ | refine LeO.ite ?_ ?_ | refine LeO.bind ?_ (fun _ => ?_)
theorem potsherdref12_Named.mono : ∀ a0 a1 k, LeO (potsherdref12_Named.f k a0 a1) (potsherdref12_Named.f (k + 1) a0 a1) := by
 intro a0 a1 k; obtain ⟨ih0, ih1⟩ := potsherdref12_Named.mono_l k
 unfold potsherdref12_Named.f
 repeat' with_reducible first | apply ih0 | apply ih1 | exact LeO.refl _ | exact LeO.none _ | refine LeO.ite ?_ ?_ | refine LeO.bind ?_ (fun _ => ?_)
set_option maxHeartbeats 8000000 in
set_option maxRecDepth 100000 in
theorem potsherdref12_Named.calls (k : Nat) (A0_0 : Option Addr) (c0_0 : Nat) (l0_0 : List (S28)) (a1 : Int) (r : Int) (w : World) (hr0_0 : Kd.C k28 w A0_0 l0_0.length l0_0) (hc0_0 : l0_0.length ≤ c0_0) (h : potsherdref12_Named.f k l0_0 a1 = some r) :
 Calls Try.prog 52 #[.agg #[.slice A0_0 l0_0.length c0_0], .int .i64 a1] w fun e w' => e = .returned (.int .i64 r) ∧ Below w.heap.size w w' := by
 have hu24 := Try.underlying24; have hu28 := Try.underlying28; have hu78 := Try.underlying78; have HR0_0 := kA hr0_0; have HC0_0 := kA hc0_0; clear hr0_0 hc0_0; have HB := kA (Below.refl w.heap.size w); have H : (potsherdref12_Named.l0 k a1 0 l0_0 (l0_0.length : Int) 0) = some r := h; clear h; have H' := kA H; clear H
 go_enter Try.func52, Try.ntmps52
 go_wp2_with (first | ((with_reducible refine gate_dst (N := 2) rfl ?_); refine bxE 24 (cs := #[.slice A0_0 l0_0.length c0_0]) ?_; intro gb133 hg w3 hbox hb; have BK133 := kA hbox; have GW133 := kG HB hg; have GE133 := kG HB hg; replace HB := kH HB hb; clear hb hbox hg; obtain ⟨hcz4_0, hfz4_0⟩ := cY0 BK133))
 go_loopg [5, 13] k (fun kq v5 v13 w' => ∃ (x5_1 : Int) (x13_1 : Int), v5 = .int .i64 x5_1 ∧ v13 = .int .i64 x13_1 ∧ Aside0 (potsherdref12_Named.l0 kq a1 x5_1 l0_0 (l0_0.length : Int) x13_1 = some r) ∧ Aside0 (kq ≤ k) ∧ Aside0 (w'.heap[gb133]? = some (.cells #[(.slice A0_0 l0_0.length c0_0)] 24 (0, 0))) ∧ Aside0 (Below w.heap.size w w'))
 case atStart => exact ⟨(0), (0), sI, sI, H', ⟨Nat.le_refl _⟩, ⟨mB BK133⟩, ⟨mH HB⟩⟩
 case round =>
  clear H'
  (try clear hcz4_0); (try clear hfz4_0)
  obtain ⟨x5_1, x13_1, rfl, rfl, HA, HK1, BK133, HB⟩ := hrel
  cases gk with
  | zero => exact absurd HA.out (by simp [potsherdref12_Named.l0])
  | succ k1 =>
   have H := HA.out; clear HA; simp only [potsherdref12_Named.l0] at H
   by_cases c5 : x13_1 < (l0_0.length : Int)
   ·
    rw [if_pos c5] at H; have c5b0 := qT c5; clear c5
    replace H := nP H; obtain ⟨c6, H⟩ := H; have c6b0 := qT c6; clear c6
    replace H := nP H; obtain ⟨c7, H⟩ := H; have c7b0 := qT c7; clear c7; have H' := kA H; clear H; have p134 : 0 ≤ (x13_1 : Int) := dT; have q134 : x13_1 < (l0_0.length : Int) := dT; obtain ⟨ad134, A134_3, c134_3, A134_4, c134_4, e134, hx134_0, hx134_1, hx134_2, hx134_3, hx134_4, hl134_3, hi134_3, hl134_4, hi134_4⟩ := at_T28 HR0_0.out x13_1 p134 q134
    cases e134
    replace hx134_0 := xC HB hx134_0; replace hx134_1 := xC HB hx134_1; replace hx134_2 := xC HB hx134_2; replace hx134_3 := xC HB hx134_3; replace hx134_4 := xC HB hx134_4; have HR134_3 := kA hi134_3; have HC134_3 := kA hl134_3; clear hi134_3 hl134_3; have HR134_4 := kA hi134_4; have HC134_4 := kA hl134_4; clear hi134_4 hl134_4; replace p134 := eq_true p134; replace q134 := eq_true q134
    go_wp2_with (first | ((with_reducible refine gate_dst (N := 7) rfl ?_); refine bxE 28 (cs := #[.int .i64 0, .int .i64 0, .int .i64 0, .slice none 0 0, .slice none 0 0]) ?_; intro gb135 hg w8 hbox hb; have BK135 := kA hbox; have GW135 := kG HB hg; have GE135 := kG HB hg; replace HB := kH HB hb; have NB133_135 := kL BK133 hg; have NB135_133 := kQ BK133 hg; replace BK133 := kB BK133 hb; clear hb hbox hg; have hnb9 := NB135_133.out; have hnc9 := NB133_135.out; obtain ⟨hcz10_0, hfz10_0⟩ := cY0 BK135; obtain ⟨hcz10_1, hfz10_1⟩ := cY1 BK135; obtain ⟨hcz10_2, hfz10_2⟩ := cY2 BK135; obtain ⟨hcz10_3, hfz10_3⟩ := cY3 BK135; obtain ⟨hcz10_4, hfz10_4⟩ := cY4 BK135))
    go_loopg [5, 20] k1 (fun kq v5 v20 w' => ∃ (x5_2 : Int) (x20_2 : Int), v5 = .int .i64 x5_2 ∧ v20 = .int .i64 x20_2 ∧ Aside0 (potsherdref12_Named.l1 kq a1 x5_2 l0_0 (l0_0.length : Int) x13_1 ((rU l0_0 x13_1).f4) (((rU l0_0 x13_1).f4).length : Int) x20_2 = some r) ∧ Aside0 (kq ≤ k1) ∧ Aside0 (w'.heap[gb133]? = some (.cells #[(.slice (some ad134) l0_0.length c0_0)] 24 (0, 0))) ∧ Aside0 (w'.heap[gb135]? = some (.cells #[.int .i64 ((rU l0_0 x13_1).f0), .int .i64 ((rU l0_0 x13_1).f1), .int .i64 ((rU l0_0 x13_1).f2), (.slice A134_3 ((rU l0_0 x13_1).f3).length c134_3), (.slice A134_4 ((rU l0_0 x13_1).f4).length c134_4)] 28 (0, 0))) ∧ Aside0 (Below w.heap.size w w'))
    case atStart => exact ⟨(x5_1), (0), sI, sI, H', ⟨Nat.le_refl _⟩, ⟨mF BK133⟩, ⟨pP BK135⟩, ⟨mH HB⟩⟩
    case round =>
     clear H'
     (try clear c5); (try clear c5b0); (try clear c6); (try clear c6b0); (try clear c7); (try clear c7b0); (try clear hcz10_0); (try clear hcz10_1); (try clear hcz10_2); (try clear hcz10_3); (try clear hcz10_4); (try clear hcz4_0); (try clear hfz10_0); (try clear hfz10_1); (try clear hfz10_2); (try clear hfz10_3); (try clear hfz10_4); (try clear hfz4_0); (try clear hx134_0); (try clear hx134_1); (try clear hx134_2); (try clear hx134_3); (try clear hx134_4); (try clear p134); (try clear q134)
     obtain ⟨x5_2, x20_2, rfl, rfl, HA, HK2, BK133, BK135, HB⟩ := hrel
     cases gk with
     | zero => exact absurd HA.out (by simp [potsherdref12_Named.l1])
     | succ k2 =>
      have H := HA.out; clear HA; simp only [potsherdref12_Named.l1] at H
      by_cases c11 : x20_2 < (((rU l0_0 x13_1).f4).length : Int)
      ·
       rw [if_pos c11] at H; have c11b0 := qT c11; clear c11
       replace H := nP H; obtain ⟨c12, H⟩ := H; have c12b0 := qT c12; clear c12
       replace H := nP H; obtain ⟨c13, H⟩ := H; have c13b0 := qT c13; clear c13
       by_cases c14 : ((rV ((rU l0_0 x13_1).f4) x20_2).f1) = a1
       ·
        rw [if_pos c14] at H; obtain ⟨c14b0, c14b1⟩ := eP c14; clear c14; have H' := kA H; clear H; have p136 : 0 ≤ (x20_2 : Int) := dT; have q136 : x20_2 < (((rU l0_0 x13_1).f4).length : Int) := dT; obtain ⟨ad136, e136, hx136_0, hx136_1⟩ := at_T78 HR134_4.out x20_2 p136 q136
        cases e136
        replace hx136_0 := xC HB hx136_0; replace hx136_1 := xC HB hx136_1; replace p136 := eq_true p136; replace q136 := eq_true q136
        go_wp2_with (first | ((with_reducible refine gate_dst (N := 9) rfl ?_); refine bxE 78 (cs := #[.string (⟨#[]⟩ : ByteArray), .int .i64 0]) ?_; intro gb137 hg w15 hbox hb; have BK137 := kA hbox; have GW137 := kG HB hg; have GE137 := kG HB hg; replace HB := kH HB hb; have NB133_137 := kL BK133 hg; have NB137_133 := kQ BK133 hg; replace BK133 := kB BK133 hb; have NB135_137 := kL BK135 hg; have NB137_135 := kQ BK135 hg; replace BK135 := kB BK135 hb; clear hb hbox hg; have hnb16 := NB137_133.out; have hnc16 := NB133_137.out; have hnb17 := NB137_135.out; have hnc17 := NB135_137.out; obtain ⟨hcz18_0, hfz18_0⟩ := cY0 BK137; obtain ⟨hcz18_1, hfz18_1⟩ := cY1 BK137))
        go_roundg k2
        case measure => have := HK1.out; have := HK2.out; omega
        case rel => exact ⟨(wrap64 (x5_2 + 1)), (wrap64 (x20_2 + 1)), sI, sI, H', ⟨oM HK1 HK2⟩, ⟨mF BK133⟩, ⟨mF BK135⟩, ⟨mH HB⟩⟩
       ·
        rw [if_neg c14] at H; obtain ⟨c14b0, c14b1⟩ := eN c14; have H' := kA H; clear H; have p136 : 0 ≤ (x20_2 : Int) := dT; have q136 : x20_2 < (((rU l0_0 x13_1).f4).length : Int) := dT; obtain ⟨ad136, e136, hx136_0, hx136_1⟩ := at_T78 HR134_4.out x20_2 p136 q136
        cases e136
        replace hx136_0 := xC HB hx136_0; replace hx136_1 := xC HB hx136_1; replace p136 := eq_true p136; replace q136 := eq_true q136
        go_wp2_with (first | ((with_reducible refine gate_dst (N := 9) rfl ?_); refine bxE 78 (cs := #[.string (⟨#[]⟩ : ByteArray), .int .i64 0]) ?_; intro gb137 hg w19 hbox hb; have BK137 := kA hbox; have GW137 := kG HB hg; have GE137 := kG HB hg; replace HB := kH HB hb; have NB133_137 := kL BK133 hg; have NB137_133 := kQ BK133 hg; replace BK133 := kB BK133 hb; have NB135_137 := kL BK135 hg; have NB137_135 := kQ BK135 hg; replace BK135 := kB BK135 hb; clear hb hbox hg; have hnb20 := NB137_133.out; have hnc20 := NB133_137.out; have hnb21 := NB137_135.out; have hnc21 := NB135_137.out; obtain ⟨hcz22_0, hfz22_0⟩ := cY0 BK137; obtain ⟨hcz22_1, hfz22_1⟩ := cY1 BK137))
        go_roundg k2
        case measure => have := HK1.out; have := HK2.out; omega
        case rel => exact ⟨(x5_2), (wrap64 (x20_2 + 1)), sI, sI, H', ⟨oM HK1 HK2⟩, ⟨mF BK133⟩, ⟨mF BK135⟩, ⟨mH HB⟩⟩
      ·
       rw [if_neg c11] at H; have c11b0 := qF c11; clear c11; have H' := kA H; clear H
       go_wp2
       go_roundg k2
       case measure => have := HK1.out; have := HK2.out; omega
       case rel => exact ⟨(x5_2), (wrap64 (x13_1 + 1)), sI, sI, H', ⟨oM HK1 HK2⟩, ⟨mB BK133⟩, ⟨mH HB⟩⟩
   ·
    rw [if_neg c5] at H; have c5b0 := qF c5; clear c5; obtain rfl := qI H
    go_wp2
    go_ret
    exact ⟨rT, mH HB⟩
def mtEnts (l : List S28) : List S78 → Option Bool
 | [] => some true
 | x :: r => if 0 ≤ x.f1 ∧ x.f1 < l.length then (if (rU l x.f1).f0 = 0 then some false else mtEnts l r) else none
def mtSeqs : List Int → List Int → Option (Option (List Int))
 | seen, [] => some (some seen)
 | seen, s :: r => if (Lit.int .i64 s).wf = true then (if s ≠ 0 ∧ s ∈ seen then some none else if seen.length < 1000 then mtSeqs (s :: seen) r else none) else none
def mtScan (k : Nat) (l : List S28) : List Int → List S28 → Option (Option (List Int))
 | seen, [] => some (some seen)
 | seen, n :: r => (potsherdref12_MayNode.f k n.f0 n.f1 n.f2 n.f3 n.f4).bind fun b => if b = true then (mtEnts l n.f4).bind fun c => if c = true then (mtSeqs seen n.f3).bind fun q => (match q with | some seen' => mtScan k l seen' r | none => some none) else some none else some none
def mtTail (k : Nat) (l : List S28) (on : List Bool) : List S28 → Int → Option Bool
 | [], _ => some true
 | n :: r, i => (potsherdref12_Named.f k l i).bind fun c =>
  if n.f0 = 2 then (if 0 ≤ i ∧ i < on.length then (if rdOf false on i = false ∨ 0 < i ∧ c ≠ 1 then some false else mtTail k l on r (i + 1)) else none)
  else if n.f0 = 1 ∧ n.f1 ≠ c then some false else mtTail k l on r (i + 1)
theorem mtScan_mono (k : Nat) (l : List S28) : ∀ (r : List S28) (seen : List Int), LeO (mtScan k l seen r) (mtScan (k + 1) l seen r)
 | [], _ => LeO.refl _
 | n :: r, seen => by
  unfold mtScan
  refine LeO.bind (potsherdref12_MayNode.mono _ _ _ _ _ _) (fun b => LeO.ite (LeO.bind (LeO.refl _) (fun c => LeO.ite (LeO.bind (LeO.refl _) (fun q => ?_)) (LeO.refl _))) (LeO.refl _))
  cases q with
  | none => exact LeO.refl _
  | some s => exact mtScan_mono k l r s
theorem mtTail_mono (k : Nat) (l : List S28) (on : List Bool) : ∀ (r : List S28) (i : Int), LeO (mtTail k l on r i) (mtTail (k + 1) l on r i)
 | [], _ => LeO.refl _
 | n :: r, i => by
  unfold mtTail
  exact LeO.bind (potsherdref12_Named.mono _ _ _) (fun c => LeO.ite (LeO.ite (LeO.ite (LeO.refl _) (mtTail_mono k l on r (i + 1))) (LeO.refl _)) (LeO.ite (LeO.refl _) (mtTail_mono k l on r (i + 1))))
def SeenIs (D : DataW Unit) (seen : List Int) : Prop :=
 Maps.Tidy D ∧ ∀ p : Int, (Lit.int .i64 p).wf = true → D.atKey (.int .i64 p) (.lit (.int .i64 0)) = .lit (.int .i64 (if p ∈ seen then 1 else 0))
def SeenOf (w : World) (b : Nat) (seen : List Int) : Prop := ∃ D : DataW Unit, w.ownsMap Try.prog 3 (plainElem Try.prog 3) b seen.length D ∧ SeenIs D seen
theorem keyLit (p : Int) : WideAt.IsKeyLit (.int .i64 p) := trivial
theorem key_ne {p q : Int} (h : p ≠ q) : (Lit.int .i64 p) ≠ (Lit.int .i64 q) := fun e => h (by injection e)
theorem SeenOf_kept {w w' : World} {b : Nat} {s : List Int} (hM : SeenOf w b s) {B : Nat} (hb : Below B w w') (hB : b < B) : SeenOf w' b s := by
 obtain ⟨D, ⟨es, clock, hc, F, hs, hD⟩, hI⟩ := hM; exact ⟨D, ⟨es, clock, (hb.block b hB).trans hc, F, hs, hD⟩, hI⟩
theorem SeenOf_far {w : World} {b : Nat} {s : List Int} (hM : SeenOf w b s) {p : Addr} (hp : b ≠ p.block) (v : Value) : SeenOf (w.setCell p v) b s := by
 obtain ⟨D, ⟨es, clock, hc, F, hs, hD⟩, hI⟩ := hM; exact ⟨D, ⟨es, clock, (Below.heap_setCell w p v b hp).trans hc, F, hs, hD⟩, hI⟩
theorem SeenOf_lt {w : World} {b : Nat} {s : List Int} (hM : SeenOf w b s) : b < w.heap.size := by obtain ⟨D, h1, h2⟩ := hM; exact h1.lt
theorem SeenOf_obj {w : World} {b : Nat} {s : List Int} (hM : SeenOf w b s) : ∃ es c, w.heap[b]? = some (.map es c) := by
 obtain ⟨D, ⟨es, clock, hc, _⟩, _⟩ := hM; exact ⟨es, clock, hc⟩
theorem SeenOf_made (w : World) : SeenOf (w.alloc (.map #[] 0)) w.heap.size [] :=
 ⟨.map [], World.ownsMap_made w _ _ _, Maps.tidy_empty, fun p _ => by simp [DataW.atKey]⟩
theorem below_map {B b : Nat} {w0 w w' : World} (hb : Below B w0 w) (hg : w.grownBy w' (some b)) (hB : B ≤ b) (hs : B ≤ w.heap.size) : Below B w0 w' :=
 hb.trans ⟨hg.os, hg.tape, hg.output, hg.size, fun k hk => hg.block k (by omega) (by intro e; injection e with e; omega)⟩
theorem blk_map {w w' : World} {b g : Nat} {cs : Array Value} {t : TypeId} (hc : w.heap[g]? = some (.cells cs t (0, 0))) (hM : ∃ es c, w.heap[b]? = some (.map es c)) (hg : w.grownBy w' (some b)) : w'.heap[g]? = some (.cells cs t (0, 0)) := by
 obtain ⟨es, c, hm⟩ := hM; rw [hg.block g (Array.getElem?_eq_some_iff.1 hc).1 (by intro e; injection e with e; subst e; rw [hm] at hc; cases hc)]; exact hc
section
variable {w : World} {ops : Array Oper} {rest : List Oper} {o : Oper} {a : Act} {Q : Exit → Act → World → Prop} {b : Nat} {seen : List Int}
theorem wp_seen (hg : o.guard = none) (m x : Operand) (hop : o.op = Op.lookup 76 m x false) (hM : SeenOf w b seen) (hm : a.eval m = .map (some b)) (p : Int) (hw : (Lit.int .i64 p).wf = true) (hx : a.eval x = .int .i64 p)
 (hK : wpList Try.prog ops Q rest (a.put o.dst (.int .i64 (if p ∈ seen then 1 else 0))) w) : wpList Try.prog ops Q (o :: rest) a w := by
 obtain ⟨D, hown, hT, ha⟩ := hM; refine wpList_lookup_own_int w hg m x 76 hop 3 3 .i64 (Maps.int_keyed Try.underlying3) Try.underlying76 Try.underlying3 (by kernel_rfl) b _ D hm hown _ _ hx (Maps.keyOf_int_mk Try.underlying3 hw) ?_; intro c hc _; rw [ha p hw] at hc
 injection hc with hc; injection hc with _ hc
 rw [← hc]; exact hK
theorem wp_see (hg : o.guard = none) (m x v : Operand) (hop : o.op = Op.mapUpdate 76 m x v) (hM : SeenOf w b seen) (hn : seen.length < 1000) (hm : a.eval m = .map (some b)) (p : Int) (hw : (Lit.int .i64 p).wf = true)
 (hx : a.eval x = .int .i64 p) (hv : a.eval v = .int .i64 1)
 (hK : ∀ w', SeenOf w' b (p :: seen) → w.grownBy w' (some b) → wpList Try.prog ops Q rest (a.put o.dst undef) w') : wpList Try.prog ops Q (o :: rest) a w := by
 obtain ⟨D, hown, hT, ha⟩ := hM; refine wpList_mapUpdate_own w hg m x v 76 hop 3 3 (Maps.int_keyed Try.underlying3) Try.underlying76 _ b _ D hm hown (by unfold maxLen; omega) _ _ _ hx hv (Maps.keyOf_int_mk Try.underlying3 hw) (.lit (.int .i64 1)) [] (plainElem_int Try.underlying3 (by decide)) ?_
 intro w' hown' hgr; refine hK w' ⟨_, hown', hT.put (keyLit _) _, fun r hr => ?_⟩ hgr
 by_cases c : r = p
 ·
  subst c; rw [Maps.atKey_put_same hT.isMap (keyLit _), if_pos (by simp)]
 ·
  rw [Maps.atKey_put_other (key_ne c), ha r hr]
  congr 3
  simp only [List.mem_cons, c, false_or]
end
section
variable {w w0 : World} {g b : Nat} {B : Nat}
theorem mt_far5 {t : Nat} {cs : Array Value} (h : w.heap[b]? = some (.cells cs t (0, 0))) (hne : b ≠ g) (a0 a1 a2 a3 a4 : Value) : (((((w.setCell ⟨g, 0, none⟩ a0).setCell ⟨g, 1, none⟩ a1).setCell ⟨g, 2, none⟩ a2).setCell ⟨g, 3, none⟩ a3).setCell ⟨g, 4, none⟩ a4).heap[b]? = some (.cells cs t (0, 0)) :=
 bF (bF (bF (bF (bF h hne _) hne _) hne _) hne _) hne _
theorem mt_put5 {t : Nat} {z0 z1 z2 z3 z4 : Value} (h : w.heap[g]? = some (.cells #[z0, z1, z2, z3, z4] t (0, 0))) (a0 a1 a2 a3 a4 : Value) : (((((w.setCell ⟨g, 0, none⟩ a0).setCell ⟨g, 1, none⟩ a1).setCell ⟨g, 2, none⟩ a2).setCell ⟨g, 3, none⟩ a3).setCell ⟨g, 4, none⟩ a4).heap[g]? = some (.cells #[a0, a1, a2, a3, a4] t (0, 0)) :=
 blk_put (cs := #[a0, a1, a2, a3, z4]) (blk_put (cs := #[a0, a1, a2, z3, z4]) (blk_put (cs := #[a0, a1, z2, z3, z4]) (blk_put (cs := #[a0, z1, z2, z3, z4]) (blk_put h 0 _ rfl) 1 _ rfl) 2 _ rfl) 3 _ rfl) 4 _ rfl
theorem mt_bel5 (h : Below w0.heap.size w0 w) (hg : w0.heap.size ≤ g) (a0 a1 a2 a3 a4 : Value) : Below w0.heap.size w0 (((((w.setCell ⟨g, 0, none⟩ a0).setCell ⟨g, 1, none⟩ a1).setCell ⟨g, 2, none⟩ a2).setCell ⟨g, 3, none⟩ a3).setCell ⟨g, 4, none⟩ a4) :=
 wS (wS (wS (wS (wS h hg) hg) hg) hg) hg
theorem mt_far2 {t : Nat} {cs : Array Value} (h : w.heap[b]? = some (.cells cs t (0, 0))) (hne : b ≠ g) (a0 a1 : Value) : ((w.setCell ⟨g, 0, none⟩ a0).setCell ⟨g, 1, none⟩ a1).heap[b]? = some (.cells cs t (0, 0)) :=
 bF (bF h hne _) hne _
theorem mt_put2 {t : Nat} {z0 z1 : Value} (h : w.heap[g]? = some (.cells #[z0, z1] t (0, 0))) (a0 a1 : Value) : ((w.setCell ⟨g, 0, none⟩ a0).setCell ⟨g, 1, none⟩ a1).heap[g]? = some (.cells #[a0, a1] t (0, 0)) :=
 blk_put (cs := #[a0, z1]) (blk_put h 0 _ rfl) 1 _ rfl
theorem mt_bel2 (h : Below w0.heap.size w0 w) (hg : w0.heap.size ≤ g) (a0 a1 : Value) : Below w0.heap.size w0 ((w.setCell ⟨g, 0, none⟩ a0).setCell ⟨g, 1, none⟩ a1) := wS (wS h hg) hg
theorem mt_seen5 {s : List Int} (h : SeenOf w b s) (hne : b ≠ g) (a0 a1 a2 a3 a4 : Value) : SeenOf (((((w.setCell ⟨g, 0, none⟩ a0).setCell ⟨g, 1, none⟩ a1).setCell ⟨g, 2, none⟩ a2).setCell ⟨g, 3, none⟩ a3).setCell ⟨g, 4, none⟩ a4) b s :=
 SeenOf_far (p := ⟨g, 4, none⟩) (SeenOf_far (p := ⟨g, 3, none⟩) (SeenOf_far (p := ⟨g, 2, none⟩) (SeenOf_far (p := ⟨g, 1, none⟩) (SeenOf_far (p := ⟨g, 0, none⟩) h hne _) hne _) hne _) hne _) hne _
theorem mt_seen2 {s : List Int} (h : SeenOf w b s) (hne : b ≠ g) (a0 a1 : Value) : SeenOf ((w.setCell ⟨g, 0, none⟩ a0).setCell ⟨g, 1, none⟩ a1) b s :=
 SeenOf_far (p := ⟨g, 1, none⟩) (SeenOf_far (p := ⟨g, 0, none⟩) h hne _) hne _
end
theorem mt_drop {α : Type} {l : List α} {i : Nat} (h : i < l.length) (z : α) : l.drop i = l.getD i z :: l.drop (i + 1) := by
 rw [List.drop_eq_getElem_cons h, qG, List.getElem?_eq_getElem h]; rfl
theorem mt_add0 (ad : Addr) : ad.add ((0 : Int).toNat * 5) = ad := by
 obtain ⟨b, o, i⟩ := ad
 cases i <;> simp [Addr.add]
theorem mt_succ (k : Nat) (h : k < 9223372036854775807) : Value.int .i64 (wrap64 ((k : Int) + 1)) = Value.int .i64 ((k + 1 : Nat) : Int) := by
 congr 1; unfold wrap64; omega
theorem mt_rd (q : List Int) (j : Nat) : rd q (j : Int) = q.getD j 0 := by unfold rd; rw [Int.toNat_natCast]
theorem mt_reached {k : Nat} {A : Option Addr} {c : Nat} {l : List S28} {r : List Bool} {w : World} (hl : l.length = 12) (hr : Kd.C k28 w A 12 l) (hc : 12 ≤ c) (h : potsherdref12_reached.f k l 0 = some r) :
 Calls Try.prog 51 #[.agg #[.slice A 12 c], .int .i64 0] w fun e w' => ∃ v0_ : Value, e = .returned (v0_) ∧ Kd.R Kd.bool 4 w' w.heap.size (fun _ => True) v0_ r ∧ Below w.heap.size w w' := by
 have := potsherdref12_reached.calls k A c l 0 r w (by rw [hl]; exact hr) (by rw [hl]; exact hc) h
 rwa [hl] at this
theorem mt_named {k : Nat} {A : Option Addr} {c : Nat} {l : List S28} {i r : Int} {w : World} (hl : l.length = 12) (hr : Kd.C k28 w A 12 l) (hc : 12 ≤ c) (h : potsherdref12_Named.f k l i = some r) :
 Calls Try.prog 52 #[.agg #[.slice A 12 c], .int .i64 i] w fun e w' => e = .returned (.int .i64 r) ∧ Below w.heap.size w w' := by
 have := potsherdref12_Named.calls k A c l i r w (by rw [hl]; exact hr) (by rw [hl]; exact hc) h
 rwa [hl] at this
theorem mt_R5 {w : World} {α : Type} {d : Kd α} {t base : Nat} {v : Value} {xs : List α} {g : Nat} {cs : Array Value} (h : Kd.R d t w base (fun _ => True) v xs) (hb : w.heap[g]? = some (.cells cs 28 (0, 0))) (hE : ∀ q, q ∈ t :: d.E → q ≠ 28) (a0 a1 a2 a3 a4 : Value) :
 Kd.R d t (((((w.setCell ⟨g, 0, none⟩ a0).setCell ⟨g, 1, none⟩ a1).setCell ⟨g, 2, none⟩ a2).setCell ⟨g, 3, none⟩ a3).setCell ⟨g, 4, none⟩ a4) base (fun _ => True) v xs :=
 have h0 := Kd.R_types h hb hE
 Kd.R_mono (Kd.R_far (p := ⟨g, 4, none⟩) (Kd.R_far (p := ⟨g, 3, none⟩) (Kd.R_far (p := ⟨g, 2, none⟩) (Kd.R_far (p := ⟨g, 1, none⟩) (Kd.R_far (p := ⟨g, 0, none⟩) h0 (fun _ hk => hk.2) a0) (fun _ hk => hk.2) a1) (fun _ hk => hk.2) a2) (fun _ hk => hk.2) a3) (fun _ hk => hk.2) a4) (fun _ _ => trivial)
set_option maxHeartbeats 8000000 in
set_option maxRecDepth 100000 in
theorem maytree_walk (k : Nat) (A : Option Addr) (c : Nat) (l : List S28) (r : Bool) (w : World) (hr : Kd.C k28 w A l.length l) (hc : l.length ≤ c) (h : (if l.length = 12 then (if (rU l 0).f0 = 2 then (mtScan k l [] l).bind fun s => (match s with | none => some false | some _ => (potsherdref12_reached.f k l 0).bind fun on => mtTail k l on l 0) else some false) else some false) = some r) :
 Calls Try.prog 29 #[.agg #[.slice A l.length c]] w fun e w' => e = .returned (.bool r) ∧ Below w.heap.size w w' := by
 have hu24 := Try.underlying24; have hu28 := Try.underlying28; have hu78 := Try.underlying78; have HB := kA (Below.refl w.heap.size w)
 by_cases hl : l.length = 12
 case neg =>
  rw [if_neg hl] at h; obtain rfl := qI h
  have c1 : ((l.length : Int) == 12) = false := by simpa using fun h : (l.length : Int) = 12 => hl (by omega)
  have c2 : ((l.length : Int) != 12) = true := by simp [bne, c1]
  have c3 : decide ((l.length : Int) = 12) = false := qF (fun h => hl (by omega)); clear hl hr hc h
  go_enter Try.func29, Try.ntmps29
  go_wp2_with ((with_reducible refine gate_dst (N := 1) rfl ?_); (try (refine gate_guard (by rfl) ?_; dsimp only)); refine bxE 24 (cs := #[.slice (A) l.length c]) ?_; intro bt hg_ w1 hbox hb; have GT := kA (show w.heap.size ≤ bt from by rw [hg_]; exact HB.out.size); have BT := kA hbox; have m_HB := kA (below_step HB.out hb); clear HB; have HB := m_HB; clear m_HB; have ht0 := cZ0 BT; clear hg_ hbox hb)
  go_ret
  exact ⟨rfl, HB.out⟩
 case pos =>
  rw [if_pos hl] at h; have HR := kA (show Kd.C k28 w A 12 l from hl ▸ hr); have HC := kA (show 12 ≤ c from hl ▸ hc); have HL := kA hl; rw [hl]; clear hr hc; obtain ⟨ad, A3, c3, A4, c4, e0, hx0, -⟩ := at_T28 HR.out 0 (by omega) (by omega); subst e0; rw [show ad.add ((0 : Int).toNat * 5) = ad from mt_add0 ad] at hx0
  by_cases h2 : (rU l 0).f0 = 2
  case neg =>
   rw [if_neg h2] at h; obtain rfl := qI h
   have c1 : ((rU l 0).f0 == 2) = false := by simpa using h2
   have c2 : ((rU l 0).f0 != 2) = true := by simp [bne, c1]
   have c3 := qF h2; clear h2 h
   go_enter Try.func29, Try.ntmps29
   replace hx0 := hx0
   go_wp2_with ((with_reducible refine gate_dst (N := 1) rfl ?_); (try (refine gate_guard (by rfl) ?_; dsimp only)); refine bxE 24 (cs := #[.slice (some ad) 12 c]) ?_; intro bt hg_ w1 hbox hb; have GT := kA (show w.heap.size ≤ bt from by rw [hg_]; exact HB.out.size); have BT := kA hbox; have m_HB := kA (below_step HB.out hb); clear HB; have HB := m_HB; clear m_HB; have ht0 := cZ0 BT; have hx0_ := xC HB hx0; clear hg_ hbox hb)
   go_ret
   exact ⟨rfl, HB.out⟩
  case pos =>
   rw [if_pos h2] at h; rw [h2] at hx0; clear h2; obtain ⟨s, hs, h⟩ := qB h; have H2 := kA h; have HS := kA hs; clear h hs
   have hmk : ∀ W : World, (Instr.makeMap 76 none).run Try.prog W = .ok (.map (some W.heap.size)) (W.alloc (.map #[] 0)) := fun W => run_makeMap 76 W
   go_enter Try.func29, Try.ntmps29
   go_upto_region 4 with ((with_reducible refine gate_dst (N := 1) rfl ?_); (try (refine gate_guard (by rfl) ?_; dsimp only)); refine bxE 24 (cs := #[.slice (some ad) 12 c]) ?_; intro bt hg_ w1 hbox hb; have GT := kA (show w.heap.size ≤ bt from by rw [hg_]; exact HB.out.size); have BT := kA hbox; have m_HB := kA (below_step HB.out hb); clear HB; have HB := m_HB; clear m_HB; have ht0 := cZ0 BT; have hx0_ := xC HB hx0; clear hg_ hbox hb)
   clear hmk ht0 hx0_; have n0_ := kA (SeenOf_made w1); have n1_ := kA (bA BT.out (.map #[] 0)); have n2_ := kA (wA HB.out (.map #[] 0)); have GM := kA HB.out.size; clear BT HB; generalize w1.heap.size = b at GM n0_ ⊢; generalize w1.alloc (.map #[] 0) = w2 at n0_ n1_ n2_ ⊢; have HM := n0_; have BT := n1_; have HB := n2_; clear n0_ n1_ n2_ hx0; have ht0 := cZ0 BT
   go_wp2
   clear ht0

   go_loopg [30] 12 (fun gk v30 w' => ∃ (i : Nat) (seen : List Int), v30 = .int .i64 i ∧ i ≤ 12 ∧ 12 - i ≤ gk ∧ Aside0 (w'.heap[bt]? = some (.cells #[.slice (some ad) 12 c] 24 (0, 0))) ∧ Aside0 (SeenOf w' b seen) ∧ Aside0 (Below w.heap.size w w') ∧ Aside0 (mtScan k l seen (l.drop i) = some s))
   case atStart => exact ⟨0, [], rfl, by omega, by omega, BT, HM, HB, HS⟩
   case round =>
    clear HM BT HB HS; obtain ⟨i, seen, rfl, hi12, hig, BT, HM, HB, HS⟩ := hrel
    by_cases hlt : i < 12
    case neg =>
     have : i = 12 := by omega
     subst this; have hd := HS.out; clear HS; rw [show l.drop 12 = [] from by rw [List.drop_eq_nil_iff, HL.out]; exact Nat.le_refl _] at hd
     obtain rfl := qI (show some (some seen) = some s from hd); clear hd hlt HM; obtain ⟨on, hon, ht⟩ := qB (show (potsherdref12_reached.f k l 0).bind (fun on => mtTail k l on l 0) = some r from H2.out); have HON := kA hon; have HT := kA ht; clear hon ht H2; have ht0 := cZ0 BT
     go_upto_region 24 with (go_at_call 51; refine (mt_reached HL.out (Kd.C_below HR.out HB.out) HC.out HON.out).mono ?_; rintro e_ w5 ⟨von, rfl, ho, hb⟩; have HO := kA (Kd.R_lower ho (below_size HB.out)); clear ho; have m_BT := kA (bB BT.out hb); have m_HB := kA (below_step HB.out hb); clear BT HB; have BT := m_BT; have HB := m_HB; clear m_BT m_HB; clear hb)
     clear ht0; obtain ⟨Ao, co, eo⟩ := Kd.R_slice HO.out; subst eo; have ht0 := cZ0 BT
     go_wp2
     clear ht0
     go_loopg [77] 12 (fun gk v77 w' => ∃ i : Nat, v77 = .int .i64 i ∧ i ≤ 12 ∧ 12 - i ≤ gk ∧ Aside0 (w'.heap[bt]? = some (.cells #[.slice (some ad) 12 c] 24 (0, 0))) ∧ Aside0 (Kd.R Kd.bool 4 w' w.heap.size (fun _ => True) (.slice Ao on.length co) on) ∧ Aside0 (Below w.heap.size w w') ∧ Aside0 (mtTail k l on (l.drop i) (i : Int) = some r))
     case atStart => exact ⟨0, rfl, by omega, by omega, BT, HO, HB, HT⟩
     case round =>
      clear BT HO HB HT; obtain ⟨i, rfl, hi, hig2, BT, HO, HB, HT⟩ := hrel
      by_cases hlt : i < 12
      case neg =>
       have : i = 12 := by omega
       subst this; have hd := HT.out; clear HT; rw [show l.drop 12 = [] from by rw [List.drop_eq_nil_iff, HL.out]; exact Nat.le_refl _] at hd
       obtain rfl := qI (show some true = some r from hd); clear hd hlt
       go_wp2
       go_ret
       exact ⟨rfl, HB.out⟩
      case pos =>
       have cd1 : decide ((i : Int) < 12) = true := qT (by omega); have cd2 : decide (i < 12) = true := qT (by omega); have hd := HT.out; clear HT; rw [mt_drop (show i < l.length by rw [HL.out]; exact hlt) z28] at hd
       simp only [mtTail] at hd; obtain ⟨cN, hn1, hd⟩ := qB hd; have HN1 := kA hn1; clear hn1; have HD := kA hd; clear hd; obtain ⟨ad', A3, c3, A4, c4, e0, hx0, hx1, hx2, hx3, hx4, -⟩ := at_T28 HR.out i (by omega) (by omega)
       cases e0
       have hrd : rU l (i : Int) = l.getD i z28 := by unfold rU; rw [Int.toNat_natCast]
       rw [hrd] at hx0 hx1 hx2 hx3 hx4; clear hrd; generalize l.getD i z28 = n at hx0 hx1 hx2 hx3 hx4 HD; replace hx0 := xC HB hx0; replace hx1 := xC HB hx1; replace hx2 := xC HB hx2; replace hx3 := xC HB hx3; replace hx4 := xC HB hx4; simp only [Int.toNat_natCast] at hx0 hx1 hx2 hx3 hx4; have p1 : (0 ≤ (i : Int)) = True := eq_true (by omega); have q1 : ((i : Int) < 12) = True := eq_true (by omega); have HLT := kA hlt; clear hlt
       go_upto_region 27 with ((with_reducible refine gate_dst (N := 12) rfl ?_); (try (refine gate_guard (by rfl) ?_; dsimp only)); refine bxE 28 (cs := #[.int .i64 0, .int .i64 0, .int .i64 0, .slice none 0 0, .slice none 0 0]) ?_; intro bn hg_ w3 hbox hb; have NTN := kA (show bt ≠ bn from by rw [hg_]; exact Nat.ne_of_lt (blk_lt BT.out)); have GN := kA (show w.heap.size ≤ bn from by rw [hg_]; exact HB.out.size); have HO' := kA (Kd.R_below HO.out hb); clear HO; have HO := HO'; clear HO'; have BN := kA hbox; have m_BT := kA (bB BT.out hb); have m_HB := kA (below_step HB.out hb); clear BT HB; have BT := m_BT; have HB := m_HB; clear m_BT m_HB; have hz0 := cZ0 BN; have hf0 := bZ BN.out 0; have hz1 := cZ1 BN; have hf1 := bZ BN.out 1; have hz2 := cZ2 BN; have hf2 := bZ BN.out 2; have hz3 := cZ3 BN; have hf3 := bZ BN.out 3; have hz4 := cZ4 BN; have hf4 := bZ BN.out 4; clear hg_ hbox hb)
       have n0_ := kA (mt_far5 BT.out NTN.out (.int .i64 n.f0) (.int .i64 n.f1) (.int .i64 n.f2) (.slice A3 n.f3.length c3) (.slice A4 n.f4.length c4)); have n1_ := kA (mt_R5 HO.out BN.out (by decide) (.int .i64 n.f0) (.int .i64 n.f1) (.int .i64 n.f2) (.slice A3 n.f3.length c3) (.slice A4 n.f4.length c4)); have n2_ := kA (mt_put5 BN.out (.int .i64 n.f0) (.int .i64 n.f1) (.int .i64 n.f2) (.slice A3 n.f3.length c3) (.slice A4 n.f4.length c4)); have n3_ := kA (mt_bel5 HB.out GN.out (.int .i64 n.f0) (.int .i64 n.f1) (.int .i64 n.f2) (.slice A3 n.f3.length c3) (.slice A4 n.f4.length c4)); clear BT HO BN HB hz0 hf0 hz1 hf1 hz2 hf2 hz3 hf3 hz4 hf4 hx0 hx1 hx2 hx3 hx4 p1 q1; generalize (((((w3.setCell ⟨bn, 0, none⟩ (.int .i64 n.f0)).setCell ⟨bn, 1, none⟩ (.int .i64 n.f1)).setCell ⟨bn, 2, none⟩ (.int .i64 n.f2)).setCell ⟨bn, 3, none⟩ (.slice A3 n.f3.length c3)).setCell ⟨bn, 4, none⟩ (.slice A4 n.f4.length c4)) = w4 at n0_ n1_ n2_ n3_ ⊢; have BT := n0_; have HO := n1_; have BN := n2_; have HB := n3_; clear n0_ n1_ n2_ n3_; have ht0 := cZ0 BT
       go_upto_region 28 with (go_at_call 52; refine (mt_named HL.out (Kd.C_below HR.out HB.out) HC.out HN1.out).mono ?_; rintro e_ w5 ⟨rfl, hb⟩; have HO' := kA (Kd.R_below HO.out hb); clear HO; have HO := HO'; clear HO'; have m_BT := kA (bB BT.out hb); have m_BN := kA (bB BN.out hb); have m_HB := kA (below_step HB.out hb); clear BT BN HB; have BT := m_BT; have BN := m_BN; have HB := m_HB; clear m_BT m_BN m_HB; clear hb ht0)
       have hn0 := cZ0 BN; have hn1 := cZ1 BN; have hd := HD.out; clear HD HN1
       by_cases k2 : n.f0 = 2
       case pos =>
        rw [if_pos k2] at hd; rw [k2] at hn0
        by_cases cg : 0 ≤ (i : Int) ∧ (i : Int) < (on.length : Int)
        case neg => rw [if_neg cg] at hd; cases hd
        case pos =>
         rw [if_pos cg] at hd; obtain ⟨ado, eo, ho0⟩ := Kd.at_bool (Kd.R_reads' HO.out).2.2 i cg.1 cg.2
         cases eo
         simp only [Int.toNat_natCast] at ho0; have p1 : (0 ≤ (i : Int)) = True := eq_true cg.1; have q1 : ((i : Int) < (on.length : Int)) = True := eq_true cg.2; clear cg; generalize rdOf false on (i : Int) = ob at ho0 hd
         cases ob with
         | false =>
          rw [if_pos (Or.inl rfl)] at hd; obtain rfl := qI hd; clear hd
          go_wp2
          go_ret
          exact ⟨rfl, HB.out⟩
         | true =>
          by_cases ci : 0 < (i : Int)
          case neg =>
           rw [if_neg (fun h => by rcases h with h | h; exact absurd h (by decide); exact ci h.1)] at hd
           have HT := kA hd; clear hd; have d1 := qF ci; have d2 : decide (0 < i) = false := qF (by omega); clear ci
           go_wp2
           go_roundg (12 - (i + 1))
           case measure => have := HLT.out; omega
           case rel => exact ⟨i + 1, by first | rfl | (push_cast; rfl) | exact mt_succ i (oK HLT), HLT.out, Nat.le_refl _, BT, HO, HB, ⟨by rw [show ((i + 1 : Nat) : Int) = (i : Int) + 1 from by push_cast; rfl]; exact HT.out⟩⟩
          case pos =>
           have d1 := qT ci; have d2 : decide (0 < i) = true := qT (by omega)
           by_cases cc : cN = 1
           case pos =>
            rw [if_neg (fun h => by rcases h with h | h; exact absurd h (by decide); exact h.2 cc)] at hd
            have HT := kA hd; clear hd ci; subst cc
            go_wp2
            go_roundg (12 - (i + 1))
            case measure => have := HLT.out; omega
            case rel => exact ⟨i + 1, by first | rfl | (push_cast; rfl) | exact mt_succ i (oK HLT), HLT.out, Nat.le_refl _, BT, HO, HB, ⟨by rw [show ((i + 1 : Nat) : Int) = (i : Int) + 1 from by push_cast; rfl]; exact HT.out⟩⟩
           case neg =>
            rw [if_pos (Or.inr ⟨ci, cc⟩)] at hd; obtain rfl := qI hd; clear hd ci
            have e1 : (cN == 1) = false := by simpa using cc
            have e2 : (cN != 1) = true := by simpa using cc
            have e3 := qF cc; clear cc
            go_wp2
            go_ret
            exact ⟨rfl, HB.out⟩
       case neg =>
        rw [if_neg k2] at hd
        have e1 : (n.f0 == 2) = false := by simpa using k2
        have e2 : (n.f0 != 2) = true := by simpa using k2
        have e3 := qF k2; clear k2
        by_cases k1 : n.f0 = 1
        case pos =>
         rw [k1] at hn0
         by_cases kc : n.f1 = cN
         case pos =>
          rw [if_neg (fun h => h.2 kc)] at hd; have HT := kA hd; clear hd
          have f1 : (n.f1 == cN) = true := by simpa using kc
          have f2 : (n.f1 != cN) = false := by simpa using kc
          have f3 := qT kc; clear kc e1 e2 e3 k1
          go_wp2
          go_roundg (12 - (i + 1))
          case measure => have := HLT.out; omega
          case rel => exact ⟨i + 1, by first | rfl | (push_cast; rfl) | exact mt_succ i (oK HLT), HLT.out, Nat.le_refl _, BT, HO, HB, ⟨by rw [show ((i + 1 : Nat) : Int) = (i : Int) + 1 from by push_cast; rfl]; exact HT.out⟩⟩
         case neg =>
          rw [if_pos ⟨k1, kc⟩] at hd; obtain rfl := qI hd; clear hd
          have f1 : (n.f1 == cN) = false := by simpa using kc
          have f2 : (n.f1 != cN) = true := by simpa using kc
          have f3 := qF kc; clear kc e1 e2 e3 k1
          go_wp2
          go_ret
          exact ⟨rfl, HB.out⟩
        case neg =>
         rw [if_neg (fun h => k1 h.1)] at hd; have HT := kA hd; clear hd
         have f1 : (n.f0 == 1) = false := by simpa using k1
         have f2 : (n.f0 != 1) = true := by simpa using k1
         have f3 := qF k1; clear k1
         go_wp2
         go_roundg (12 - (i + 1))
         case measure => have := HLT.out; omega
         case rel => exact ⟨i + 1, by first | rfl | (push_cast; rfl) | exact mt_succ i (oK HLT), HLT.out, Nat.le_refl _, BT, HO, HB, ⟨by rw [show ((i + 1 : Nat) : Int) = (i : Int) + 1 from by push_cast; rfl]; exact HT.out⟩⟩
    case pos =>
     have cd1 : decide ((i : Int) < 12) = true := qT (by omega); have cd2 : decide (i < 12) = true := qT (by omega); have hd := HS.out; clear HS; rw [mt_drop (show i < l.length by rw [HL.out]; exact hlt) z28] at hd
     simp only [mtScan] at hd; obtain ⟨b1, hb1, hd⟩ := qB hd; have HN1 := kA hb1; clear hb1; have HD := kA hd; clear hd; obtain ⟨ad', A3, c3, A4, c4, e0, hx0, hx1, hx2, hx3, hx4, l3, g3, l4, g4⟩ := at_T28 HR.out i (by omega) (by omega)
     cases e0
     have hrd : rU l (i : Int) = l.getD i z28 := by unfold rU; rw [Int.toNat_natCast]
     rw [hrd] at hx0 hx1 hx2 hx3 hx4 l3 g3 l4 g4; clear hrd; generalize l.getD i z28 = n at hx0 hx1 hx2 hx3 hx4 l3 g3 l4 g4 HN1 HD; have HR3 := kA g3; have HC3 := kA l3; have HR4 := kA g4; have HC4 := kA l4; clear g3 l3 g4 l4; replace hx0 := xC HB hx0; replace hx1 := xC HB hx1; replace hx2 := xC HB hx2; replace hx3 := xC HB hx3; replace hx4 := xC HB hx4; simp only [Int.toNat_natCast] at hx0 hx1 hx2 hx3 hx4; have p1 : (0 ≤ (i : Int)) = True := eq_true (by omega); have q1 : ((i : Int) < 12) = True := eq_true (by omega); have HLT := kA hlt; clear hlt
     go_upto_region 7 with ((with_reducible refine gate_dst (N := 5) rfl ?_); (try (refine gate_guard (by rfl) ?_; dsimp only)); refine bxE 28 (cs := #[.int .i64 0, .int .i64 0, .int .i64 0, .slice none 0 0, .slice none 0 0]) ?_; intro bn hg_ w3 hbox hb; have NTN := kA (show bt ≠ bn from by rw [hg_]; exact Nat.ne_of_lt (blk_lt BT.out)); have NMN := kA (show b ≠ bn from by rw [hg_]; exact Nat.ne_of_lt (SeenOf_lt HM.out)); have GN := kA (show w.heap.size ≤ bn from by rw [hg_]; exact HB.out.size); have BN := kA hbox; have m_BT := kA (bB BT.out hb); have m_HM := kA (SeenOf_kept HM.out hb (SeenOf_lt HM.out)); have m_HB := kA (below_step HB.out hb); clear BT HM HB; have BT := m_BT; have HM := m_HM; have HB := m_HB; clear m_BT m_HM m_HB; have hz0 := cZ0 BN; have hf0 := bZ BN.out 0; have hz1 := cZ1 BN; have hf1 := bZ BN.out 1; have hz2 := cZ2 BN; have hf2 := bZ BN.out 2; have hz3 := cZ3 BN; have hf3 := bZ BN.out 3; have hz4 := cZ4 BN; have hf4 := bZ BN.out 4; clear hg_ hbox hb)
     have n0_ := kA (mt_far5 BT.out NTN.out (.int .i64 n.f0) (.int .i64 n.f1) (.int .i64 n.f2) (.slice A3 n.f3.length c3) (.slice A4 n.f4.length c4)); have n1_ := kA (mt_seen5 HM.out NMN.out (.int .i64 n.f0) (.int .i64 n.f1) (.int .i64 n.f2) (.slice A3 n.f3.length c3) (.slice A4 n.f4.length c4)); have n2_ := kA (mt_put5 BN.out (.int .i64 n.f0) (.int .i64 n.f1) (.int .i64 n.f2) (.slice A3 n.f3.length c3) (.slice A4 n.f4.length c4)); have n3_ := kA (mt_bel5 HB.out GN.out (.int .i64 n.f0) (.int .i64 n.f1) (.int .i64 n.f2) (.slice A3 n.f3.length c3) (.slice A4 n.f4.length c4)); clear BT HM BN HB hz0 hf0 hz1 hf1 hz2 hf2 hz3 hf3 hz4 hf4 hx0 hx1 hx2 hx3 hx4 p1 q1; generalize (((((w3.setCell ⟨bn, 0, none⟩ (.int .i64 n.f0)).setCell ⟨bn, 1, none⟩ (.int .i64 n.f1)).setCell ⟨bn, 2, none⟩ (.int .i64 n.f2)).setCell ⟨bn, 3, none⟩ (.slice A3 n.f3.length c3)).setCell ⟨bn, 4, none⟩ (.slice A4 n.f4.length c4)) = w4 at n0_ n1_ n2_ n3_ ⊢; have BT := n0_; have HM := n1_; have BN := n2_; have HB := n3_; clear n0_ n1_ n2_ n3_; have hn0 := cZ0 BN; have hn1 := cZ1 BN; have hn2 := cZ2 BN; have hn3 := cZ3 BN; have hn4 := cZ4 BN
     cases b1 with
     | false =>
      obtain rfl := qI (show some none = some s from HD.out); obtain rfl := qI (show some false = some r from H2.out)
      go_wp2_with (go_at_call 24; refine (potsherdref12_MayNode.calls k n.f0 n.f1 n.f2 A3 c3 n.f3 A4 c4 n.f4 false _ ?s1 ?s2 ?s3 ?s4 HN1.out).mono ?_; (case s1 => exact Kd.C_below HR3.out HB.out); (case s2 => exact HC3.out); (case s3 => exact Kd.C_below HR4.out HB.out); (case s4 => exact HC4.out); rintro e_ w5 ⟨rfl, hb⟩; have m_BT := kA (bB BT.out hb); have m_HM := kA (SeenOf_kept HM.out hb (SeenOf_lt HM.out)); have m_BN := kA (bB BN.out hb); have m_HB := kA (below_step HB.out hb); clear BT HM BN HB; have BT := m_BT; have HM := m_HM; have BN := m_BN; have HB := m_HB; clear m_BT m_HM m_BN m_HB; clear hb hn0 hn1 hn2 hn3 hn4)
      go_ret
      exact ⟨rfl, HB.out⟩
     | true =>
      go_upto_region 9 with (go_at_call 24; refine (potsherdref12_MayNode.calls k n.f0 n.f1 n.f2 A3 c3 n.f3 A4 c4 n.f4 true _ ?s1 ?s2 ?s3 ?s4 HN1.out).mono ?_; (case s1 => exact Kd.C_below HR3.out HB.out); (case s2 => exact HC3.out); (case s3 => exact Kd.C_below HR4.out HB.out); (case s4 => exact HC4.out); rintro e_ w5 ⟨rfl, hb⟩; have m_BT := kA (bB BT.out hb); have m_HM := kA (SeenOf_kept HM.out hb (SeenOf_lt HM.out)); have m_BN := kA (bB BN.out hb); have m_HB := kA (below_step HB.out hb); clear BT HM BN HB; have BT := m_BT; have HM := m_HM; have BN := m_BN; have HB := m_HB; clear m_BT m_HM m_BN m_HB; clear hb hn0 hn1 hn2 hn3 hn4)
      have hd := HD.out; clear HD HN1; rw [if_pos trivial] at hd; obtain ⟨cE, he, hd⟩ := qB hd; have HE := kA he; have HD := kA hd; clear he hd; have hn4 := cZ4 BN
      go_wp2
      clear hn4
      go_loopg [40] n.f4.length (fun gk v40 w' => ∃ j : Nat, v40 = .int .i64 j ∧ j ≤ n.f4.length ∧ n.f4.length - j ≤ gk ∧ Aside0 (w'.heap[bn]? = some (.cells #[.int .i64 n.f0, .int .i64 n.f1, .int .i64 n.f2, .slice A3 n.f3.length c3, .slice A4 n.f4.length c4] 28 (0, 0))) ∧ Aside0 (w'.heap[bt]? = some (.cells #[.slice (some ad) 12 c] 24 (0, 0))) ∧ Aside0 (SeenOf w' b seen) ∧ Aside0 (Below w.heap.size w w') ∧ Aside0 (mtEnts l (n.f4.drop j) = some cE))
      case atStart => exact ⟨0, rfl, Nat.zero_le _, by omega, BN, BT, HM, HB, HE⟩
      case round =>
       clear BN BT HM HB HE; obtain ⟨j, rfl, hj, hjg, BN, BT, HM, HB, HE⟩ := hrel
       by_cases hlt : j < n.f4.length
       case pos =>
        have cd1 : decide ((j : Int) < (n.f4.length : Int)) = true := qT (by omega); have cd2 : decide (j < n.f4.length) = true := qT (by omega); have hd := HE.out; clear HE; rw [mt_drop hlt z78] at hd; simp only [mtEnts] at hd; obtain ⟨ad4, e4, hy0, hy1⟩ := at_T78 HR4.out j (by omega) (by omega)
        cases e4
        have hrd : rV n.f4 (j : Int) = n.f4.getD j z78 := by unfold rV; rw [Int.toNat_natCast]
        rw [hrd] at hy0 hy1; clear hrd; generalize n.f4.getD j z78 = x at hy0 hy1 hd
        by_cases ce : 0 ≤ x.f1 ∧ x.f1 < (l.length : Int)
        case neg => rw [if_neg ce] at hd; cases hd
        case pos =>
         rw [if_pos ce] at hd; have HE := kA hd; clear hd; have ce1 := ce.1
         have ce2 : x.f1 < 12 := by have := ce.2; have := HL.out; omega
         clear ce; obtain ⟨ad', A3', c3', A4', c4', e0, hx0, -⟩ := at_T28 HR.out x.f1 ce1 ce2
         cases e0
         have p1 : (0 ≤ x.f1) = True := eq_true ce1; have q1 : (x.f1 < 12) = True := eq_true ce2; clear ce1 ce2; have hx0 := kA hx0; replace hy0 := xC HB hy0; replace hy1 := xC HB hy1; simp only [Int.toNat_natCast] at hy0 hy1; have p2 : (0 ≤ (j : Int)) = True := eq_true (by omega); have q2 : ((j : Int) < (n.f4.length : Int)) = True := eq_true (by omega); have HLT := kA hlt; clear hlt
         go_upto_region 12 with ((with_reducible refine gate_dst (N := 7) rfl ?_); (try (refine gate_guard (by rfl) ?_; dsimp only)); refine bxE 78 (cs := #[.string ByteArray.empty, .int .i64 0]) ?_; intro bx hg_ w6 hbox hb; have NTX := kA (show bt ≠ bx from by rw [hg_]; exact Nat.ne_of_lt (blk_lt BT.out)); have NNX := kA (show bn ≠ bx from by rw [hg_]; exact Nat.ne_of_lt (blk_lt BN.out)); have NMX := kA (show b ≠ bx from by rw [hg_]; exact Nat.ne_of_lt (SeenOf_lt HM.out)); have GX := kA (show w.heap.size ≤ bx from by rw [hg_]; exact HB.out.size); have BX := kA hbox; have m_BT := kA (bB BT.out hb); have m_HM := kA (SeenOf_kept HM.out hb (SeenOf_lt HM.out)); have m_BN := kA (bB BN.out hb); have m_HB := kA (below_step HB.out hb); clear BT HM BN HB; have BT := m_BT; have HM := m_HM; have BN := m_BN; have HB := m_HB; clear m_BT m_HM m_BN m_HB; have hz0 := cZ0 BX; have hf0 := bZ BX.out 0; have hz1 := cZ1 BX; have hf1 := bZ BX.out 1; clear hg_ hbox hb)
         have n0_ := kA (mt_far2 BT.out NTX.out (.string x.f0) (.int .i64 x.f1)); have n1_ := kA (mt_seen2 HM.out NMX.out (.string x.f0) (.int .i64 x.f1)); have n2_ := kA (mt_far2 BN.out NNX.out (.string x.f0) (.int .i64 x.f1)); have n3_ := kA (mt_bel2 HB.out GX.out (.string x.f0) (.int .i64 x.f1)); have n4_ := kA (mt_put2 BX.out (.string x.f0) (.int .i64 x.f1)); clear BT HM BN HB BX hz0 hf0 hz1 hf1 hy0 hy1 p2 q2; generalize ((w6.setCell ⟨bx, 0, none⟩ (.string x.f0)).setCell ⟨bx, 1, none⟩ (.int .i64 x.f1)) = w7 at n0_ n1_ n2_ n3_ n4_ ⊢; have BT := n0_; have HM := n1_; have BN := n2_; have HB := n3_; have BX := n4_; clear n0_ n1_ n2_ n3_ n4_; have hy1 := cZ1 BX; have ht0 := cZ0 BT; have hx0' := (HB.out.cell (World.block_lt_of_cell? w _ hx0.out)).trans hx0.out
         by_cases ck : (rU l x.f1).f0 = 0
         case pos =>
          rw [ck] at hx0'; have hd := HE.out; rw [if_pos ck] at hd; obtain rfl := qI hd; have hs2 := HD.out; rw [if_neg (by decide)] at hs2; obtain rfl := qI hs2; obtain rfl := qI (show some false = some r from H2.out); clear ck hd hs2
          go_wp2
          go_ret
          exact ⟨rfl, HB.out⟩
         case neg =>
          have k1 : ((rU l x.f1).f0 == 0) = false := by simpa using ck
          have k2 := qF ck; have hd := HE.out; rw [if_neg ck] at hd; have HE := kA hd; clear hd ck
          go_wp2
          go_roundg (n.f4.length - (j + 1))
          case measure => have := HLT.out; omega
          case rel => exact ⟨j + 1, mt_succ j (by have := HLT.out; have := Kd.C_max HR4.out; omega), HLT.out, Nat.le_refl _, BN, BT, HM, HB, HE⟩
       case neg =>
        have : j = n.f4.length := by omega
        subst this; have cd1 : decide ((n.f4.length : Int) < (n.f4.length : Int)) = false := qF (by omega); have hd := HE.out; clear HE; rw [List.drop_length] at hd; obtain rfl := qI (show some true = some cE from hd); clear hd; have hd := HD.out; clear HD; rw [if_pos rfl] at hd; obtain ⟨q, hq, hd⟩ := qB hd; have HQ := kA hq; have HD := kA hd; clear hq hd hlt; have hn3 := cZ3 BN
        go_wp2
        clear hn3; clear HR4 HC4 GN NTN NMN BN
        go_loopg [56] n.f3.length (fun gk v56 w' => ∃ (j : Nat) (seen' : List Int), v56 = .int .i64 j ∧ j ≤ n.f3.length ∧ n.f3.length - j ≤ gk ∧ Aside0 (w'.heap[bt]? = some (.cells #[.slice (some ad) 12 c] 24 (0, 0))) ∧ Aside0 (SeenOf w' b seen') ∧ Aside0 (Below w.heap.size w w') ∧ Aside0 (mtSeqs seen' (n.f3.drop j) = some q))
        case atStart => exact ⟨0, seen, rfl, Nat.zero_le _, by omega, BT, HM, HB, HQ⟩
        case round =>
         clear BT HM HB HQ; obtain ⟨j, seen', rfl, hj, hjg, BT, HM, HB, HQ⟩ := hrel
         by_cases hlt : j < n.f3.length
         case pos =>
          have cd1 : decide ((j : Int) < (n.f3.length : Int)) = true := qT (by omega); have cd2 : decide (j < n.f3.length) = true := qT (by omega); have hd := HQ.out; clear HQ; rw [mt_drop hlt 0] at hd; simp only [mtSeqs] at hd; obtain ⟨ad3, e3, hy0⟩ := Kd.at_int HR3.out j (by omega) (by omega)
          cases e3
          rw [mt_rd] at hy0; generalize n.f3.getD j 0 = x at hy0 hd
          by_cases cw : (Lit.int .i64 x).wf = true
          case neg => rw [if_neg cw] at hd; cases hd
          case pos =>
           rw [if_pos cw] at hd; have CW := kA cw; clear cw; replace hy0 := xC HB hy0; simp only [Int.toNat_natCast] at hy0; have p2 : (0 ≤ (j : Int)) = True := eq_true (by omega); have q2 : ((j : Int) < (n.f3.length : Int)) = True := eq_true (by omega); have HLT := kA hlt; clear hlt
           by_cases c0 : x = 0
           case pos =>
            subst c0; rw [if_neg (fun h => h.1 rfl)] at hd
            by_cases cl : seen'.length < 1000
            case neg => rw [if_neg cl] at hd; cases hd
            case pos =>
             rw [if_pos cl] at hd; have HQ := kA hd; have CL := kA cl; clear hd cl
             go_wp2_with (at_mapUpdate; refine wp_see rfl _ _ _ rfl HM.out CL.out rfl 0 CW.out rfl rfl ?_; intro w8 hM8 hg8; replace BT := kA (blk_map BT.out (SeenOf_obj HM.out) hg8); replace HM := kA hM8; replace HB := kA (below_map HB.out hg8 GM.out HB.out.size))
             go_roundg (n.f3.length - (j + 1))
             case measure => have := HLT.out; omega
             case rel => exact ⟨j + 1, _, mt_succ j (by have := HLT.out; have := Kd.C_max HR3.out; omega), HLT.out, Nat.le_refl _, BT, HM, HB, HQ⟩
           case neg =>
            have k1 : (x == 0) = false := by simpa using c0
            have k2 : (x != 0) = true := by simpa using c0
            have k3 := qF c0
            by_cases cm : x ∈ seen'
            case pos =>
             rw [if_pos ⟨c0, cm⟩] at hd; have CM := kA cm; clear cm c0; obtain rfl := qI hd; clear hd; obtain rfl := qI (show some none = some s from HD.out); obtain rfl := qI (show some false = some r from H2.out)
             go_wp2_with (at_lookup; (try (refine gate_guard (by rfl) ?_; dsimp only)); refine wp_seen rfl _ _ rfl HM.out rfl x CW.out rfl ?_; rw [if_pos CM.out])
             go_ret
             exact ⟨rfl, HB.out⟩
            case neg =>
             rw [if_neg (fun h => cm h.2)] at hd; have CM := kA cm; clear cm c0
             by_cases cl : seen'.length < 1000
             case neg => rw [if_neg cl] at hd; cases hd
             case pos =>
              rw [if_pos cl] at hd; have HQ := kA hd; have CL := kA cl; clear hd cl
              go_wp2_with (first | (at_lookup; (try (refine gate_guard (by rfl) ?_; dsimp only)); refine wp_seen rfl _ _ rfl HM.out rfl x CW.out rfl ?_; rw [if_neg CM.out]) | (at_mapUpdate; refine wp_see rfl _ _ _ rfl HM.out CL.out rfl x CW.out rfl rfl ?_; intro w8 hM8 hg8; replace BT := kA (blk_map BT.out (SeenOf_obj HM.out) hg8); replace HM := kA hM8; replace HB := kA (below_map HB.out hg8 GM.out HB.out.size)))
              go_roundg (n.f3.length - (j + 1))
              case measure => have := HLT.out; omega
              case rel => exact ⟨j + 1, _, mt_succ j (by have := HLT.out; have := Kd.C_max HR3.out; omega), HLT.out, Nat.le_refl _, BT, HM, HB, HQ⟩
         case neg =>
          have : j = n.f3.length := by omega
          subst this; have cd1 : decide ((n.f3.length : Int) < (n.f3.length : Int)) = false := qF (by omega); have hd := HQ.out; clear HQ; rw [List.drop_length] at hd; obtain rfl := qI (show some (some seen') = some q from hd); clear hd hlt; have HS := kA (show mtScan k l seen' (l.drop (i + 1)) = some s from HD.out); clear HD
          go_wp2
          go_roundg (12 - (i + 1))
          case measure => have := HLT.out; omega
          case rel => exact ⟨i + 1, seen', by first | rfl | (push_cast; rfl) | exact mt_succ i (oK HLT), HLT.out, Nat.le_refl _, BT, HM, HB, HS⟩
def potsherdref12_MayTree.f (k : Nat) (l0_0 : List (S28)) : Option (Bool) := if l0_0.length = 12 then (if (rU l0_0 0).f0 = 2 then (mtScan k l0_0 [] l0_0).bind fun s => (match s with | none => some false | some _ => (potsherdref12_reached.f k l0_0 0).bind fun on => mtTail k l0_0 on l0_0 0) else some false) else some false
theorem potsherdref12_MayTree.mono : ∀ a0 k, LeO (potsherdref12_MayTree.f k a0) (potsherdref12_MayTree.f (k + 1) a0) := by
 intro a0 k
 unfold potsherdref12_MayTree.f
 refine LeO.ite (LeO.ite (LeO.bind (mtScan_mono k a0 a0 []) (fun s => ?_)) (LeO.refl _)) (LeO.refl _)
 cases s with
 | none => exact LeO.refl _
 | some _ => exact LeO.bind (potsherdref12_reached.mono _ _ _) (fun on => mtTail_mono k a0 on a0 0)
theorem potsherdref12_MayTree.calls (k : Nat) (A0_0 : Option Addr) (c0_0 : Nat) (l0_0 : List (S28)) (r : Bool) (w : World) (hr0_0 : Kd.C k28 w A0_0 l0_0.length l0_0) (hc0_0 : l0_0.length ≤ c0_0) (h : potsherdref12_MayTree.f k l0_0 = some r) :
 Calls Try.prog 29 #[.agg #[.slice A0_0 l0_0.length c0_0]] w fun e w' => e = .returned (.bool r) ∧ Below w.heap.size w w' := by
 unfold potsherdref12_MayTree.f at h
 exact maytree_walk k A0_0 c0_0 l0_0 r w hr0_0 hc0_0 h
end Go.Proofs.Ytkigiehkckjlhaa.PReads
