/- The Go functions that these laws reach, each as a Lean function with the same answers (a law itself where it answers true), and the proof that the code comes to them; conditions: those of each theorem. Laid by a program of this session over the print. -/
import Derived.Test.YtkigiehkckjlhaaZGrowsPGrowsShort
import Derived.Test.YtkigiehkckjlhaaZGrowsPGrowsx0
import Derived.Test.YtkigiehkckjlhaaZGrowsPGrowsx4
namespace Go.Proofs.Ytkigiehkckjlhaa.PGrows
open Go.RowKit Go.Proofs.YtkigiehkckjlhaaW.PrintWords Go.Proofs.YtkigiehkckjlhaaW.PrintLast Go.Proofs.YtkigiehkckjlhaaW.PrintMore
attribute [local go_sem] max2_int min2_int max_two min_two max_three min_three max_four min_four   -- for this text's walks alone
set_option linter.unusedVariables false
set_option linter.unusedSimpArgs false
open Go.Proofs.YtkigiehkckjlhaaW.PrintWords renaming blk_drewN → bN, blk_drew → bD, blk_alloc → bA, below_set → wS, below_alloc → wA, pw_below_drewN → wN, below_drew1 → wD, blk_below → bB, blk_far → bF, blk_cell → bC, blk_frozen → bZ
open List renaming setIfInBounds_toArray → lT, set_cons_zero → l0_, set_cons_succ → lS
mutual
def potsherdref12_MayNode.j0 : Nat → Bool → Int → Int → Int → List Int → List (S78) → Option (Bool)
 | 0, _, _, _, _, _, _ => none
 | k + 1, x81, x114000, x114001, x114002, x114003, x114004 => if x81 = true then (some false) else (potsherdref12_MayNode.l0 k x114003 (x114003.length : Int) 0 x114000 x114001 x114002 x114003 x114004)
def potsherdref12_MayNode.l0 : Nat → List Int → Int → Int → Int → Int → Int → List Int → List (S78) → Option (Bool)
 | 0, _, _, _, _, _, _, _, _ => none
 | k + 1, x83, x84, x85, x114000, x114001, x114002, x114003, x114004 => if x85 < x84 then (if 0 ≤ x85 then (if x85 < (x83.length : Int) then (if (rd x83 x85) < 0 then (some false) else (if (rd x83 x85) > 1099511627776 then (some false) else (if (rd x83 x85) = 0 then (potsherdref12_MayNode.l0 k x83 x84 (wrap64 (x85 + 1)) x114000 x114001 x114002 x114003 x114004) else (if (wrap64 (x85 * 16)) ≥ x114002 then (some false) else (potsherdref12_MayNode.l0 k x83 x84 (wrap64 (x85 + 1)) x114000 x114001 x114002 x114003 x114004))))) else (none)) else (none)) else (some true)
end
def potsherdref12_MayNode.f (k : Nat) (a0_0 : Int) (a0_1 : Int) (a0_2 : Int) (l0_3 : List Int) (l0_4 : List (S78)) : Option (Bool) := if a0_0 = 0 then (if a0_1 = 0 then (if a0_2 = 0 then (if (l0_3.length : Int) = 0 then (some ((l0_4.length : Int) == 0)) else (some false)) else (some false)) else (some false)) else (if a0_0 = 2 then (if a0_1 = 1 then (if a0_2 = 0 then (if (l0_3.length : Int) = 0 then ((potsherdref12_MayEntries.f k l0_4).bind fun t114 => (some t114)) else (some false)) else (some false)) else (some false)) else (if a0_0 = 1 then (if a0_1 < 0 then (potsherdref12_MayNode.j0 k true a0_0 a0_1 a0_2 l0_3 l0_4) else (if a0_1 > 120 then (potsherdref12_MayNode.j0 k true a0_0 a0_1 a0_2 l0_3 l0_4) else (if a0_2 < 0 then (potsherdref12_MayNode.j0 k true a0_0 a0_1 a0_2 l0_3 l0_4) else (if a0_2 > 80 then (potsherdref12_MayNode.j0 k true a0_0 a0_1 a0_2 l0_3 l0_4) else (if (l0_3.length : Int) = 5 then (potsherdref12_MayNode.j0 k ((l0_4.length : Int) != 0) a0_0 a0_1 a0_2 l0_3 l0_4) else (potsherdref12_MayNode.j0 k true a0_0 a0_1 a0_2 l0_3 l0_4)))))) else (some false)))
theorem potsherdref12_MayNode.mono_l : ∀ k, (∀ y0 y1 y2 y3 y4 y5, LeO (potsherdref12_MayNode.j0 k y0 y1 y2 y3 y4 y5) (potsherdref12_MayNode.j0 (k + 1) y0 y1 y2 y3 y4 y5)) ∧ (∀ y0 y1 y2 y3 y4 y5 y6 y7, LeO (potsherdref12_MayNode.l0 k y0 y1 y2 y3 y4 y5 y6 y7) (potsherdref12_MayNode.l0 (k + 1) y0 y1 y2 y3 y4 y5 y6 y7))
 | 0 => ⟨fun _ _ _ _ _ _ r h => by simp [potsherdref12_MayNode.j0] at h, fun _ _ _ _ _ _ _ _ r h => by simp [potsherdref12_MayNode.l0] at h⟩
 | k + 1 => by
  obtain ⟨ih0, ih1⟩ := potsherdref12_MayNode.mono_l k; refine ⟨?_, ?_⟩
  ·
   intro y0 y1 y2 y3 y4 y5
   unfold potsherdref12_MayNode.j0
   repeat' with_reducible first | apply ih0 | apply ih1 | apply potsherdref12_MayEntries.mono | exact LeO.refl _ | exact LeO.none _ | refine LeO.ite ?_ ?_ | refine LeO.bind ?_ (fun _ => ?_)
  ·
   intro y0 y1 y2 y3 y4 y5 y6 y7
   unfold potsherdref12_MayNode.l0
   repeat' with_reducible first | apply ih0 | apply ih1 | apply potsherdref12_MayEntries.mono | exact LeO.refl _ | exact LeO.none _ | refine LeO.ite ?_ ?_ | refine LeO.bind ?_ (fun _ => ?_)
theorem potsherdref12_MayNode.mono : ∀ a0 a1 a2 a3 a4 k, LeO (potsherdref12_MayNode.f k a0 a1 a2 a3 a4) (potsherdref12_MayNode.f (k + 1) a0 a1 a2 a3 a4) := by
 intro a0 a1 a2 a3 a4 k; obtain ⟨ih0, ih1⟩ := potsherdref12_MayNode.mono_l k
 unfold potsherdref12_MayNode.f
 repeat' with_reducible first | apply ih0 | apply ih1 | apply potsherdref12_MayEntries.mono | exact LeO.refl _ | exact LeO.none _ | refine LeO.ite ?_ ?_ | refine LeO.bind ?_ (fun _ => ?_)
set_option maxHeartbeats 8000000 in
set_option maxRecDepth 100000 in
theorem potsherdref12_MayNode.calls (k : Nat) (a0_0 : Int) (a0_1 : Int) (a0_2 : Int) (A0_3 : Option Addr) (c0_3 : Nat) (l0_3 : List Int) (A0_4 : Option Addr) (c0_4 : Nat) (l0_4 : List (S78)) (r : Bool) (w : World) (hr0_3 : Kd.C (Kd.int .i64) w A0_3 l0_3.length l0_3) (hc0_3 : l0_3.length ≤ c0_3) (hr0_4 : Kd.C k78 w A0_4 l0_4.length l0_4) (hc0_4 : l0_4.length ≤ c0_4) (h : potsherdref12_MayNode.f k a0_0 a0_1 a0_2 l0_3 l0_4 = some r) :
 Calls Try.prog 24 #[.agg #[.int .i64 a0_0, .int .i64 a0_1, .int .i64 a0_2, .slice A0_3 l0_3.length c0_3, .slice A0_4 l0_4.length c0_4]] w fun e w' => e = .returned (.bool r) ∧ Below w.heap.size w w' := by
 have hu28 := Try.underlying28; have HR0_3 := Aside0.mk hr0_3; have HC0_3 := Aside0.mk hc0_3; clear hr0_3 hc0_3; have HR0_4 := Aside0.mk hr0_4; have HC0_4 := Aside0.mk hc0_4; clear hr0_4 hc0_4; have HB := Aside0.mk (Below.refl w.heap.size w); have H : (if a0_0 = 0 then (if a0_1 = 0 then (if a0_2 = 0 then (if (l0_3.length : Int) = 0 then (some ((l0_4.length : Int) == 0)) else (some false)) else (some false)) else (some false)) else (if a0_0 = 2 then (if a0_1 = 1 then (if a0_2 = 0 then (if (l0_3.length : Int) = 0 then ((potsherdref12_MayEntries.f k l0_4).bind fun t114 => (some t114)) else (some false)) else (some false)) else (some false)) else (if a0_0 = 1 then (if a0_1 < 0 then (potsherdref12_MayNode.j0 k true a0_0 a0_1 a0_2 l0_3 l0_4) else (if a0_1 > 120 then (potsherdref12_MayNode.j0 k true a0_0 a0_1 a0_2 l0_3 l0_4) else (if a0_2 < 0 then (potsherdref12_MayNode.j0 k true a0_0 a0_1 a0_2 l0_3 l0_4) else (if a0_2 > 80 then (potsherdref12_MayNode.j0 k true a0_0 a0_1 a0_2 l0_3 l0_4) else (if (l0_3.length : Int) = 5 then (potsherdref12_MayNode.j0 k ((l0_4.length : Int) != 0) a0_0 a0_1 a0_2 l0_3 l0_4) else (potsherdref12_MayNode.j0 k true a0_0 a0_1 a0_2 l0_3 l0_4)))))) else (some false)))) = some r := h; clear h
 by_cases c2 : a0_0 = 0
 ·
  rw [if_pos c2] at H; obtain ⟨c2b0, c2b1⟩ := eP c2; clear c2
  by_cases c3 : a0_1 = 0
  ·
   rw [if_pos c3] at H; obtain ⟨c3b0, c3b1⟩ := eP c3; clear c3
   by_cases c4 : a0_2 = 0
   ·
    rw [if_pos c4] at H; obtain ⟨c4b0, c4b1⟩ := eP c4; clear c4
    by_cases c5 : (l0_3.length : Int) = 0
    ·
     rw [if_pos c5] at H; obtain ⟨c5b0, c5b1⟩ := eP c5; clear c5; obtain rfl := Option.some.inj H
     go_enter Try.func24, Try.ntmps24
     go_wp2_with (first | ((with_reducible refine gate_dst (N := 1) rfl ?_); (try (refine gate_guard (by rfl) ?_; dsimp only)); refine bxE 28 (cs := #[.int .i64 a0_0, .int .i64 a0_1, .int .i64 a0_2, .slice A0_3 l0_3.length c0_3, .slice A0_4 l0_4.length c0_4]) ?_; intro gb113 hg w6 hbox hb; have BK113 := Aside0.mk hbox; have GW113 := kG HB hg; have GE113 := kG HB hg; replace HB := kH HB hb; clear hb hbox hg; obtain ⟨hcz7_0, hfz7_0⟩ := cY0 BK113; obtain ⟨hcz7_1, hfz7_1⟩ := cY1 BK113; obtain ⟨hcz7_2, hfz7_2⟩ := cY2 BK113; obtain ⟨hcz7_3, hfz7_3⟩ := cY3 BK113; obtain ⟨hcz7_4, hfz7_4⟩ := cY4 BK113))
     go_ret
     exact ⟨rT, mH HB⟩
    ·
     rw [if_neg c5] at H; obtain ⟨c5b0, c5b1⟩ := eN c5
     have c5b2 : ¬ (l0_3 = []) := fun h_ => c5 (by rw [h_]; rfl)
     obtain rfl := Option.some.inj H
     go_enter Try.func24, Try.ntmps24
     go_wp2_with (first | ((with_reducible refine gate_dst (N := 1) rfl ?_); (try (refine gate_guard (by rfl) ?_; dsimp only)); refine bxE 28 (cs := #[.int .i64 a0_0, .int .i64 a0_1, .int .i64 a0_2, .slice A0_3 l0_3.length c0_3, .slice A0_4 l0_4.length c0_4]) ?_; intro gb113 hg w8 hbox hb; have BK113 := Aside0.mk hbox; have GW113 := kG HB hg; have GE113 := kG HB hg; replace HB := kH HB hb; clear hb hbox hg; obtain ⟨hcz9_0, hfz9_0⟩ := cY0 BK113; obtain ⟨hcz9_1, hfz9_1⟩ := cY1 BK113; obtain ⟨hcz9_2, hfz9_2⟩ := cY2 BK113; obtain ⟨hcz9_3, hfz9_3⟩ := cY3 BK113; obtain ⟨hcz9_4, hfz9_4⟩ := cY4 BK113))
     go_ret
     exact ⟨rT, mH HB⟩
   ·
    rw [if_neg c4] at H; obtain ⟨c4b0, c4b1⟩ := eN c4; obtain rfl := Option.some.inj H
    go_enter Try.func24, Try.ntmps24
    go_wp2_with (first | ((with_reducible refine gate_dst (N := 1) rfl ?_); (try (refine gate_guard (by rfl) ?_; dsimp only)); refine bxE 28 (cs := #[.int .i64 a0_0, .int .i64 a0_1, .int .i64 a0_2, .slice A0_3 l0_3.length c0_3, .slice A0_4 l0_4.length c0_4]) ?_; intro gb113 hg w10 hbox hb; have BK113 := Aside0.mk hbox; have GW113 := kG HB hg; have GE113 := kG HB hg; replace HB := kH HB hb; clear hb hbox hg; obtain ⟨hcz11_0, hfz11_0⟩ := cY0 BK113; obtain ⟨hcz11_1, hfz11_1⟩ := cY1 BK113; obtain ⟨hcz11_2, hfz11_2⟩ := cY2 BK113; obtain ⟨hcz11_3, hfz11_3⟩ := cY3 BK113; obtain ⟨hcz11_4, hfz11_4⟩ := cY4 BK113))
    go_ret
    exact ⟨rT, mH HB⟩
  ·
   rw [if_neg c3] at H; obtain ⟨c3b0, c3b1⟩ := eN c3; obtain rfl := Option.some.inj H
   go_enter Try.func24, Try.ntmps24
   go_wp2_with (first | ((with_reducible refine gate_dst (N := 1) rfl ?_); (try (refine gate_guard (by rfl) ?_; dsimp only)); refine bxE 28 (cs := #[.int .i64 a0_0, .int .i64 a0_1, .int .i64 a0_2, .slice A0_3 l0_3.length c0_3, .slice A0_4 l0_4.length c0_4]) ?_; intro gb113 hg w12 hbox hb; have BK113 := Aside0.mk hbox; have GW113 := kG HB hg; have GE113 := kG HB hg; replace HB := kH HB hb; clear hb hbox hg; obtain ⟨hcz13_0, hfz13_0⟩ := cY0 BK113; obtain ⟨hcz13_1, hfz13_1⟩ := cY1 BK113; obtain ⟨hcz13_2, hfz13_2⟩ := cY2 BK113; obtain ⟨hcz13_3, hfz13_3⟩ := cY3 BK113; obtain ⟨hcz13_4, hfz13_4⟩ := cY4 BK113))
   go_ret
   exact ⟨rT, mH HB⟩
 ·
  rw [if_neg c2] at H; obtain ⟨c2b0, c2b1⟩ := eN c2
  by_cases c14 : a0_0 = 2
  ·
   rw [if_pos c14] at H; obtain ⟨c14b0, c14b1⟩ := eP c14; clear c14
   by_cases c15 : a0_1 = 1
   ·
    rw [if_pos c15] at H; obtain ⟨c15b0, c15b1⟩ := eP c15; clear c15
    by_cases c16 : a0_2 = 0
    ·
     rw [if_pos c16] at H; obtain ⟨c16b0, c16b1⟩ := eP c16; clear c16
     by_cases c17 : (l0_3.length : Int) = 0
     ·
      rw [if_pos c17] at H; obtain ⟨c17b0, c17b1⟩ := eP c17; clear c17; replace H := Option.bind_eq_some_iff.mp H; obtain ⟨t114, A180, H⟩ := H; have A18 := Aside0.mk A180; clear A180; obtain rfl := Option.some.inj H
      go_enter Try.func24, Try.ntmps24
      go_wp2_with (first | ((with_reducible refine gate_dst (N := 1) rfl ?_); (try (refine gate_guard (by rfl) ?_; dsimp only)); refine bxE 28 (cs := #[.int .i64 a0_0, .int .i64 a0_1, .int .i64 a0_2, .slice A0_3 l0_3.length c0_3, .slice A0_4 l0_4.length c0_4]) ?_; intro gb113 hg w19 hbox hb; have BK113 := Aside0.mk hbox; have GW113 := kG HB hg; have GE113 := kG HB hg; replace HB := kH HB hb; clear hb hbox hg; obtain ⟨hcz20_0, hfz20_0⟩ := cY0 BK113; obtain ⟨hcz20_1, hfz20_1⟩ := cY1 BK113; obtain ⟨hcz20_2, hfz20_2⟩ := cY2 BK113; obtain ⟨hcz20_3, hfz20_3⟩ := cY3 BK113; obtain ⟨hcz20_4, hfz20_4⟩ := cY4 BK113) | (go_at_call 50; (with_reducible refine (potsherdref12_MayEntries.calls k _ _ l0_4 t114 _ ?side1 ?side2 A18.out).mono ?_); (case side1 => exact mC HR0_4 HB); (case side2 => exact HC0_4.out); rintro e w21 ⟨rfl, hb⟩; replace BK113 := kB BK113 hb; replace HB := kH HB hb; (try clear hb)))
      go_ret
      exact ⟨rT, mH HB⟩
     ·
      rw [if_neg c17] at H; obtain ⟨c17b0, c17b1⟩ := eN c17
      have c17b2 : ¬ (l0_3 = []) := fun h_ => c17 (by rw [h_]; rfl)
      obtain rfl := Option.some.inj H
      go_enter Try.func24, Try.ntmps24
      go_wp2_with (first | ((with_reducible refine gate_dst (N := 1) rfl ?_); (try (refine gate_guard (by rfl) ?_; dsimp only)); refine bxE 28 (cs := #[.int .i64 a0_0, .int .i64 a0_1, .int .i64 a0_2, .slice A0_3 l0_3.length c0_3, .slice A0_4 l0_4.length c0_4]) ?_; intro gb113 hg w22 hbox hb; have BK113 := Aside0.mk hbox; have GW113 := kG HB hg; have GE113 := kG HB hg; replace HB := kH HB hb; clear hb hbox hg; obtain ⟨hcz23_0, hfz23_0⟩ := cY0 BK113; obtain ⟨hcz23_1, hfz23_1⟩ := cY1 BK113; obtain ⟨hcz23_2, hfz23_2⟩ := cY2 BK113; obtain ⟨hcz23_3, hfz23_3⟩ := cY3 BK113; obtain ⟨hcz23_4, hfz23_4⟩ := cY4 BK113))
      go_ret
      exact ⟨rT, mH HB⟩
    ·
     rw [if_neg c16] at H; obtain ⟨c16b0, c16b1⟩ := eN c16; obtain rfl := Option.some.inj H
     go_enter Try.func24, Try.ntmps24
     go_wp2_with (first | ((with_reducible refine gate_dst (N := 1) rfl ?_); (try (refine gate_guard (by rfl) ?_; dsimp only)); refine bxE 28 (cs := #[.int .i64 a0_0, .int .i64 a0_1, .int .i64 a0_2, .slice A0_3 l0_3.length c0_3, .slice A0_4 l0_4.length c0_4]) ?_; intro gb113 hg w24 hbox hb; have BK113 := Aside0.mk hbox; have GW113 := kG HB hg; have GE113 := kG HB hg; replace HB := kH HB hb; clear hb hbox hg; obtain ⟨hcz25_0, hfz25_0⟩ := cY0 BK113; obtain ⟨hcz25_1, hfz25_1⟩ := cY1 BK113; obtain ⟨hcz25_2, hfz25_2⟩ := cY2 BK113; obtain ⟨hcz25_3, hfz25_3⟩ := cY3 BK113; obtain ⟨hcz25_4, hfz25_4⟩ := cY4 BK113))
     go_ret
     exact ⟨rT, mH HB⟩
   ·
    rw [if_neg c15] at H; obtain ⟨c15b0, c15b1⟩ := eN c15; obtain rfl := Option.some.inj H
    go_enter Try.func24, Try.ntmps24
    go_wp2_with (first | ((with_reducible refine gate_dst (N := 1) rfl ?_); (try (refine gate_guard (by rfl) ?_; dsimp only)); refine bxE 28 (cs := #[.int .i64 a0_0, .int .i64 a0_1, .int .i64 a0_2, .slice A0_3 l0_3.length c0_3, .slice A0_4 l0_4.length c0_4]) ?_; intro gb113 hg w26 hbox hb; have BK113 := Aside0.mk hbox; have GW113 := kG HB hg; have GE113 := kG HB hg; replace HB := kH HB hb; clear hb hbox hg; obtain ⟨hcz27_0, hfz27_0⟩ := cY0 BK113; obtain ⟨hcz27_1, hfz27_1⟩ := cY1 BK113; obtain ⟨hcz27_2, hfz27_2⟩ := cY2 BK113; obtain ⟨hcz27_3, hfz27_3⟩ := cY3 BK113; obtain ⟨hcz27_4, hfz27_4⟩ := cY4 BK113))
    go_ret
    exact ⟨rT, mH HB⟩
  ·
   rw [if_neg c14] at H; obtain ⟨c14b0, c14b1⟩ := eN c14
   by_cases c28 : a0_0 = 1
   ·
    rw [if_pos c28] at H; obtain ⟨c28b0, c28b1⟩ := eP c28; clear c28; have HC29 := Aside0.mk H; clear H
    go_enter Try.func24, Try.ntmps24
    go_upto_region 8 with (first | ((with_reducible refine gate_dst (N := 1) rfl ?_); (try (refine gate_guard (by rfl) ?_; dsimp only)); refine bxE 28 (cs := #[.int .i64 a0_0, .int .i64 a0_1, .int .i64 a0_2, .slice A0_3 l0_3.length c0_3, .slice A0_4 l0_4.length c0_4]) ?_; intro gb113 hg w30 hbox hb; have BK113 := Aside0.mk hbox; have GW113 := kG HB hg; have GE113 := kG HB hg; replace HB := kH HB hb; clear hb hbox hg; obtain ⟨hcz31_0, hfz31_0⟩ := cY0 BK113; obtain ⟨hcz31_1, hfz31_1⟩ := cY1 BK113; obtain ⟨hcz31_2, hfz31_2⟩ := cY2 BK113; obtain ⟨hcz31_3, hfz31_3⟩ := cY3 BK113; obtain ⟨hcz31_4, hfz31_4⟩ := cY4 BK113))
    (try simp only [Act.put, lT, l0_, lS])
    go_cut [81] (fun v81 wc => ∃ (kq : Nat) (x81_28 : Bool), v81 = .bool x81_28 ∧ Aside0 (potsherdref12_MayNode.j0 kq x81_28 a0_0 a0_1 a0_2 l0_3 l0_4 = some r) ∧ Aside0 (kq ≤ k) ∧ Aside0 (wc.heap[gb113]? = some (.cells #[.int .i64 a0_0, .int .i64 a0_1, .int .i64 a0_2, (.slice A0_3 l0_3.length c0_3), (.slice A0_4 l0_4.length c0_4)] 28 (0, 0))) ∧ Aside0 (Below w.heap.size w wc))
    case first =>
     have H := HC29.out; clear HC29
     by_cases c32 : a0_1 < 0
     ·
      rw [if_pos c32] at H; have c32b0 := decide_eq_true c32; clear c32
      (first | rw [c32b0] | (simp only [i64_w, i32_w]; rw [c32b0]) | skip)
      have H' := Aside0.mk H; clear H; obtain ⟨hcz33_0, hfz33_0⟩ := cY0 BK113; obtain ⟨hcz33_1, hfz33_1⟩ := cY1 BK113; obtain ⟨hcz33_2, hfz33_2⟩ := cY2 BK113; obtain ⟨hcz33_3, hfz33_3⟩ := cY3 BK113; obtain ⟨hcz33_4, hfz33_4⟩ := cY4 BK113
      go_wp2
      go_meet
      case rel => exact ⟨_, (true), sI, H', ⟨by first | omega | exact Nat.le_refl _⟩, ⟨mB BK113⟩, ⟨mH HB⟩⟩
     ·
      rw [if_neg c32] at H; have c32b0 := decide_eq_false c32; clear c32
      (first | rw [c32b0] | (simp only [i64_w, i32_w]; rw [c32b0]) | skip)
      by_cases c34 : a0_1 > 120
      ·
       rw [if_pos c34] at H; have c34b0 : decide (120 < a0_1) = true := decide_eq_true c34; clear c34; have H' := Aside0.mk H; clear H; obtain ⟨hcz35_0, hfz35_0⟩ := cY0 BK113; obtain ⟨hcz35_1, hfz35_1⟩ := cY1 BK113; obtain ⟨hcz35_2, hfz35_2⟩ := cY2 BK113; obtain ⟨hcz35_3, hfz35_3⟩ := cY3 BK113; obtain ⟨hcz35_4, hfz35_4⟩ := cY4 BK113
       go_wp2
       go_meet
       case rel => exact ⟨_, (true), sI, H', ⟨by first | omega | exact Nat.le_refl _⟩, ⟨mB BK113⟩, ⟨mH HB⟩⟩
      ·
       rw [if_neg c34] at H; have c34b0 : decide (120 < a0_1) = false := decide_eq_false c34; clear c34
       by_cases c36 : a0_2 < 0
       ·
        rw [if_pos c36] at H; have c36b0 := decide_eq_true c36; clear c36; have H' := Aside0.mk H; clear H; obtain ⟨hcz37_0, hfz37_0⟩ := cY0 BK113; obtain ⟨hcz37_1, hfz37_1⟩ := cY1 BK113; obtain ⟨hcz37_2, hfz37_2⟩ := cY2 BK113; obtain ⟨hcz37_3, hfz37_3⟩ := cY3 BK113; obtain ⟨hcz37_4, hfz37_4⟩ := cY4 BK113
        go_wp2
        go_meet
        case rel => exact ⟨_, (true), sI, H', ⟨by first | omega | exact Nat.le_refl _⟩, ⟨mB BK113⟩, ⟨mH HB⟩⟩
       ·
        rw [if_neg c36] at H; have c36b0 := decide_eq_false c36; clear c36
        by_cases c38 : a0_2 > 80
        ·
         rw [if_pos c38] at H; have c38b0 : decide (80 < a0_2) = true := decide_eq_true c38; clear c38; have H' := Aside0.mk H; clear H; obtain ⟨hcz39_0, hfz39_0⟩ := cY0 BK113; obtain ⟨hcz39_1, hfz39_1⟩ := cY1 BK113; obtain ⟨hcz39_2, hfz39_2⟩ := cY2 BK113; obtain ⟨hcz39_3, hfz39_3⟩ := cY3 BK113; obtain ⟨hcz39_4, hfz39_4⟩ := cY4 BK113
         go_wp2
         go_meet
         case rel => exact ⟨_, (true), sI, H', ⟨by first | omega | exact Nat.le_refl _⟩, ⟨mB BK113⟩, ⟨mH HB⟩⟩
        ·
         rw [if_neg c38] at H; have c38b0 : decide (80 < a0_2) = false := decide_eq_false c38; clear c38
         by_cases c40 : (l0_3.length : Int) = 5
         ·
          rw [if_pos c40] at H; obtain ⟨c40b0, c40b1⟩ := eP c40; clear c40; have H' := Aside0.mk H; clear H; obtain ⟨hcz41_0, hfz41_0⟩ := cY0 BK113; obtain ⟨hcz41_1, hfz41_1⟩ := cY1 BK113; obtain ⟨hcz41_2, hfz41_2⟩ := cY2 BK113; obtain ⟨hcz41_3, hfz41_3⟩ := cY3 BK113; obtain ⟨hcz41_4, hfz41_4⟩ := cY4 BK113
          go_wp2
          go_meet
          case rel => exact ⟨_, (((l0_4.length : Int) != 0)), sI, H', ⟨by first | omega | exact Nat.le_refl _⟩, ⟨mB BK113⟩, ⟨mH HB⟩⟩
         ·
          rw [if_neg c40] at H; obtain ⟨c40b0, c40b1⟩ := eN c40; have H' := Aside0.mk H; clear H; obtain ⟨hcz42_0, hfz42_0⟩ := cY0 BK113; obtain ⟨hcz42_1, hfz42_1⟩ := cY1 BK113; obtain ⟨hcz42_2, hfz42_2⟩ := cY2 BK113; obtain ⟨hcz42_3, hfz42_3⟩ := cY3 BK113; obtain ⟨hcz42_4, hfz42_4⟩ := cY4 BK113
          go_wp2
          go_meet
          case rel => exact ⟨_, (true), sI, H', ⟨by first | omega | exact Nat.le_refl _⟩, ⟨mB BK113⟩, ⟨mH HB⟩⟩
    case rest =>
     clear HC29
     (try clear c2); (try clear c2b0); (try clear c2b1); (try clear c14); (try clear c14b0); (try clear c14b1); (try clear c28); (try clear c28b0); (try clear c28b1); (try clear hcz31_0); (try clear hcz31_1); (try clear hcz31_2); (try clear hcz31_3); (try clear hcz31_4); (try clear hfz31_0); (try clear hfz31_1); (try clear hfz31_2); (try clear hfz31_3); (try clear hfz31_4)
     obtain ⟨kq, x81_28, rfl, HA, HJ28, BK113, HB⟩ := hcut
     cases kq with
     | zero => exact absurd HA.out (by simp [potsherdref12_MayNode.j0])
     | succ kj28 =>
      have H := HA.out; clear HA; simp only [potsherdref12_MayNode.j0] at H
      by_cases c43 : x81_28 = true
      ·
       subst c43
       have H1 : (some false) = some r := by rw [if_pos rfl] at H; exact H
       clear H; have H := H1; clear H1; obtain rfl := Option.some.inj H
       go_wp2
       go_ret
       exact ⟨rT, mH HB⟩
      ·
       replace c43 := Bool.eq_false_iff.mpr c43; subst c43
       have H1 : (potsherdref12_MayNode.l0 kj28 l0_3 (l0_3.length : Int) 0 a0_0 a0_1 a0_2 l0_3 l0_4) = some r := by rw [if_neg (show ¬ (false = true) by decide)] at H; exact H
       clear H; have H := H1; clear H1; have H' := Aside0.mk H; clear H; obtain ⟨hcz44_0, hfz44_0⟩ := cY0 BK113; obtain ⟨hcz44_1, hfz44_1⟩ := cY1 BK113; obtain ⟨hcz44_2, hfz44_2⟩ := cY2 BK113; obtain ⟨hcz44_3, hfz44_3⟩ := cY3 BK113; obtain ⟨hcz44_4, hfz44_4⟩ := cY4 BK113
       go_wp2
       go_loopg [85] kj28 (fun kq v85 w' => ∃ (x85_2 : Int), v85 = .int .i64 x85_2 ∧ Aside0 (potsherdref12_MayNode.l0 kq l0_3 (l0_3.length : Int) x85_2 a0_0 a0_1 a0_2 l0_3 l0_4 = some r) ∧ Aside0 (kq ≤ kj28) ∧ Aside0 (w'.heap[gb113]? = some (.cells #[.int .i64 a0_0, .int .i64 a0_1, .int .i64 a0_2, (.slice A0_3 l0_3.length c0_3), (.slice A0_4 l0_4.length c0_4)] 28 (0, 0))) ∧ Aside0 (Below w.heap.size w w'))
       case atStart => exact ⟨(0), sI, H', ⟨Nat.le_refl _⟩, ⟨mB BK113⟩, ⟨mH HB⟩⟩
       case round =>
        clear H'
        (try clear c2); (try clear c2b0); (try clear c2b1); (try clear c14); (try clear c14b0); (try clear c14b1); (try clear c28); (try clear c28b0); (try clear c28b1); (try clear c43); (try clear hcz31_0); (try clear hcz31_1); (try clear hcz31_2); (try clear hcz31_3); (try clear hcz31_4); (try clear hcz44_0); (try clear hcz44_1); (try clear hcz44_2); (try clear hcz44_3); (try clear hcz44_4); (try clear hfz31_0); (try clear hfz31_1); (try clear hfz31_2); (try clear hfz31_3); (try clear hfz31_4); (try clear hfz44_0); (try clear hfz44_1); (try clear hfz44_2); (try clear hfz44_3); (try clear hfz44_4)
        obtain ⟨x85_2, rfl, HA, HK2, BK113, HB⟩ := hrel
        cases gk with
        | zero => exact absurd HA.out (by simp [potsherdref12_MayNode.l0])
        | succ k2 =>
         have H := HA.out; clear HA; simp only [potsherdref12_MayNode.l0] at H
         by_cases c45 : x85_2 < (l0_3.length : Int)
         ·
          rw [if_pos c45] at H; have c45b0 := decide_eq_true c45; clear c45
          replace H := nP H; obtain ⟨c46, H⟩ := H; have c46b0 := decide_eq_true c46; clear c46
          replace H := nP H; obtain ⟨c47, H⟩ := H; have c47b0 := decide_eq_true c47; clear c47
          by_cases c48 : (rd l0_3 x85_2) < 0
          ·
           rw [if_pos c48] at H; have c48b0 := decide_eq_true c48; clear c48; obtain rfl := Option.some.inj H; have p115 : 0 ≤ (x85_2 : Int) := dT; have q115 : x85_2 < (l0_3.length : Int) := dT; obtain ⟨ad115, e115, hx115_0⟩ := Kd.at_int HR0_3.out x85_2 p115 q115
           cases e115
           replace hx115_0 := xC HB hx115_0; replace p115 := eq_true p115; replace q115 := eq_true q115
           go_wp2
           go_ret
           exact ⟨rT, mH HB⟩
          ·
           rw [if_neg c48] at H; have c48b0 := decide_eq_false c48; clear c48
           by_cases c49 : (rd l0_3 x85_2) > 1099511627776
           ·
            rw [if_pos c49] at H; have c49b0 : decide (1099511627776 < (rd l0_3 x85_2)) = true := decide_eq_true c49; clear c49; obtain rfl := Option.some.inj H; have p115 : 0 ≤ (x85_2 : Int) := dT; have q115 : x85_2 < (l0_3.length : Int) := dT; obtain ⟨ad115, e115, hx115_0⟩ := Kd.at_int HR0_3.out x85_2 p115 q115
            cases e115
            replace hx115_0 := xC HB hx115_0; replace p115 := eq_true p115; replace q115 := eq_true q115
            go_wp2
            go_ret
            exact ⟨rT, mH HB⟩
           ·
            rw [if_neg c49] at H; have c49b0 : decide (1099511627776 < (rd l0_3 x85_2)) = false := decide_eq_false c49; clear c49
            by_cases c50 : (rd l0_3 x85_2) = 0
            ·
             rw [if_pos c50] at H; obtain ⟨c50b0, c50b1⟩ := eP c50; clear c50; have H' := Aside0.mk H; clear H; have p115 : 0 ≤ (x85_2 : Int) := dT; have q115 : x85_2 < (l0_3.length : Int) := dT; obtain ⟨ad115, e115, hx115_0⟩ := Kd.at_int HR0_3.out x85_2 p115 q115
             cases e115
             replace hx115_0 := xC HB hx115_0; replace p115 := eq_true p115; replace q115 := eq_true q115
             go_wp2
             go_roundg k2
             case measure => have := HJ28.out; have := HK2.out; omega
             case rel => exact ⟨(wrap64 (x85_2 + 1)), sI, H', ⟨oM HJ28 HK2⟩, ⟨mB BK113⟩, ⟨mH HB⟩⟩
            ·
             rw [if_neg c50] at H; obtain ⟨c50b0, c50b1⟩ := eN c50
             by_cases c51 : (wrap64 (x85_2 * 16)) ≥ a0_2
             ·
              rw [if_pos c51] at H; have c51b0 : decide (a0_2 ≤ (wrap64 (x85_2 * 16))) = true := decide_eq_true c51; clear c51; obtain rfl := Option.some.inj H; have p115 : 0 ≤ (x85_2 : Int) := dT; have q115 : x85_2 < (l0_3.length : Int) := dT; obtain ⟨ad115, e115, hx115_0⟩ := Kd.at_int HR0_3.out x85_2 p115 q115
              cases e115
              replace hx115_0 := xC HB hx115_0; replace p115 := eq_true p115; replace q115 := eq_true q115; obtain ⟨hcz52_0, hfz52_0⟩ := cY0 BK113; obtain ⟨hcz52_1, hfz52_1⟩ := cY1 BK113; obtain ⟨hcz52_2, hfz52_2⟩ := cY2 BK113; obtain ⟨hcz52_3, hfz52_3⟩ := cY3 BK113; obtain ⟨hcz52_4, hfz52_4⟩ := cY4 BK113
              go_wp2
              go_ret
              exact ⟨rT, mH HB⟩
             ·
              rw [if_neg c51] at H; have c51b0 : decide (a0_2 ≤ (wrap64 (x85_2 * 16))) = false := decide_eq_false c51; clear c51; have H' := Aside0.mk H; clear H; have p115 : 0 ≤ (x85_2 : Int) := dT; have q115 : x85_2 < (l0_3.length : Int) := dT; obtain ⟨ad115, e115, hx115_0⟩ := Kd.at_int HR0_3.out x85_2 p115 q115
              cases e115
              replace hx115_0 := xC HB hx115_0; replace p115 := eq_true p115; replace q115 := eq_true q115; obtain ⟨hcz53_0, hfz53_0⟩ := cY0 BK113; obtain ⟨hcz53_1, hfz53_1⟩ := cY1 BK113; obtain ⟨hcz53_2, hfz53_2⟩ := cY2 BK113; obtain ⟨hcz53_3, hfz53_3⟩ := cY3 BK113; obtain ⟨hcz53_4, hfz53_4⟩ := cY4 BK113
              go_wp2
              go_roundg k2
              case measure => have := HJ28.out; have := HK2.out; omega
              case rel => exact ⟨(wrap64 (x85_2 + 1)), sI, H', ⟨oM HJ28 HK2⟩, ⟨mB BK113⟩, ⟨mH HB⟩⟩
         ·
          rw [if_neg c45] at H; have c45b0 := decide_eq_false c45; clear c45; obtain rfl := Option.some.inj H
          go_wp2
          go_ret
          exact ⟨rT, mH HB⟩
   ·
    rw [if_neg c28] at H; obtain ⟨c28b0, c28b1⟩ := eN c28; obtain rfl := Option.some.inj H
    go_enter Try.func24, Try.ntmps24
    go_wp2_with (first | ((with_reducible refine gate_dst (N := 1) rfl ?_); (try (refine gate_guard (by rfl) ?_; dsimp only)); refine bxE 28 (cs := #[.int .i64 a0_0, .int .i64 a0_1, .int .i64 a0_2, .slice A0_3 l0_3.length c0_3, .slice A0_4 l0_4.length c0_4]) ?_; intro gb113 hg w54 hbox hb; have BK113 := Aside0.mk hbox; have GW113 := kG HB hg; have GE113 := kG HB hg; replace HB := kH HB hb; clear hb hbox hg; obtain ⟨hcz55_0, hfz55_0⟩ := cY0 BK113; obtain ⟨hcz55_1, hfz55_1⟩ := cY1 BK113; obtain ⟨hcz55_2, hfz55_2⟩ := cY2 BK113; obtain ⟨hcz55_3, hfz55_3⟩ := cY3 BK113; obtain ⟨hcz55_4, hfz55_4⟩ := cY4 BK113))
    go_ret
    exact ⟨rT, mH HB⟩
end Go.Proofs.Ytkigiehkckjlhaa.PGrows
