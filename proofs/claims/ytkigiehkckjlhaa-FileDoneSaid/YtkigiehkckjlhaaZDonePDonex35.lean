/- The Go functions that these laws reach, each as a Lean function with the same answers (a law itself where it answers true), and the proof that the code comes to them; conditions: those of each theorem. Laid by a program of this session over the print. -/
import Derived.Test.YtkigiehkckjlhaaZDonePDoneShort
import Derived.Test.YtkigiehkckjlhaaZDonePDonex0
import Derived.Test.YtkigiehkckjlhaaZDonePDonex34
namespace Go.Proofs.Ytkigiehkckjlhaa.PDone
open Go.RowKit Go.Proofs.YtkigiehkckjlhaaW.PrintWords Go.Proofs.YtkigiehkckjlhaaW.PrintLast Go.Proofs.YtkigiehkckjlhaaW.PrintMore
attribute [local go_sem] max2_int min2_int max_two min_two max_three min_three max_four min_four   -- for this text's walks alone
set_option linter.unusedVariables false
set_option linter.unusedSimpArgs false
open Go.Proofs.YtkigiehkckjlhaaW.PrintWords renaming blk_drewN → bN, blk_drew → bD, blk_alloc → bA, below_set → wS, below_alloc → wA, pw_below_drewN → wN, below_drew1 → wD, blk_below → bB, blk_far → bF, blk_cell → bC, blk_frozen → bZ
open List renaming setIfInBounds_toArray → lT, set_cons_zero → l0_, set_cons_succ → lS
abbrev B35_0 : Array Bool := #[false, false, false, false, false, false, false, false, false, false, false, false]
abbrev B35_1 := B35_0.set! 0 true
abbrev B35_2 := B35_1.set! 2 true
abbrev B35_3 := B35_2.set! 5 true
abbrev B35_4 := B35_3.set! 7 true
abbrev B35_5 := B35_4.set! 1 true
abbrev B35_6 := B35_5.set! 3 true
abbrev B35_7 := B35_6.set! 4 true
abbrev B35_8 := B35_7.set! 6 true
abbrev B35_9 := B35_8.set! 8 true
abbrev B35_10 := B35_9.set! 9 true
abbrev B35_11 := B35_10.set! 10 true
abbrev B35_12 := B35_11.set! 11 true
def potsherdref12_SameTree.l0 : Nat → Int → Int → List (S28) → List (S28) → Option (Bool)
 | 0, _, _, _, _ => none
 | k + 1, x15, x16, x497000, x498000 => if x16 < x15 then (if 0 ≤ x16 then (if x16 < (x497000.length : Int) then (if x16 < (x498000.length : Int) then ((potsherdref12_SameNode.f k ((rd_T28 x497000 x16).f0) ((rd_T28 x497000 x16).f1) ((rd_T28 x497000 x16).f2) ((rd_T28 x497000 x16).f3) ((rd_T28 x497000 x16).f4) ((rd_T28 x498000 x16).f0) ((rd_T28 x498000 x16).f1) ((rd_T28 x498000 x16).f2) ((rd_T28 x498000 x16).f3) ((rd_T28 x498000 x16).f4)).bind fun t500 => (if t500 = true then (potsherdref12_SameTree.l0 k x15 (wrap64 (x16 + 1)) x497000 x498000) else (none))) else (none)) else (none)) else (none)) else (some true)
def potsherdref12_SameTree.f (k : Nat) (l0_0 : List (S28)) (l1_0 : List (S28)) : Option (Bool) := if (l0_0.length : Int) = (l1_0.length : Int) then (potsherdref12_SameTree.l0 k (l0_0.length : Int) 0 l0_0 l1_0) else (none)
theorem potsherdref12_SameTree.mono_l : ∀ k, (∀ y0 y1 y2 y3, LeO (potsherdref12_SameTree.l0 k y0 y1 y2 y3) (potsherdref12_SameTree.l0 (k + 1) y0 y1 y2 y3))
 | 0 => fun _ _ _ _ r h => by simp [potsherdref12_SameTree.l0] at h
 | k + 1 => by
  have ih0 := potsherdref12_SameTree.mono_l k
  ·
   intro y0 y1 y2 y3
   unfold potsherdref12_SameTree.l0
   repeat' with_reducible first | apply ih0 | apply potsherdref12_SameNode.mono | exact LeO.refl _ | exact LeO.none _ | refine LeO.ite ?_ ?_ | refine LeO.bind ?_ (fun _ => ?_)
theorem potsherdref12_SameTree.mono : ∀ a0 a1 k, LeO (potsherdref12_SameTree.f k a0 a1) (potsherdref12_SameTree.f (k + 1) a0 a1) := by
 intro a0 a1 k; have ih0 := potsherdref12_SameTree.mono_l k
 unfold potsherdref12_SameTree.f
 repeat' with_reducible first | apply ih0 | apply potsherdref12_SameNode.mono | exact LeO.refl _ | exact LeO.none _ | refine LeO.ite ?_ ?_ | refine LeO.bind ?_ (fun _ => ?_)
def potsherdref12_SameTree.T6 : Bool × List (List Nat × List Nat) := (true, [([], []), ([0], [0]), ([], []), ([1, 2], [1, 2]), ([3], [3]), ([], []), ([5], [5]), ([], []), ([6, 7], [6, 7]), ([8], [8]), ([4, 9], [4, 9]), ([10], [10])])
def potsherdref12_SameTree.B6 : List Nat := [0, 1, 0, 7, 15, 0, 32, 0, 224, 480, 1023, 2047]
theorem potsherdref12_SameTree.tab6 : rtab .any (opsOf Try.f38 6) = potsherdref12_SameTree.T6 := by kernel_rfl
theorem potsherdref12_SameTree.bits6 : waitsOk potsherdref12_SameTree.T6.2 potsherdref12_SameTree.B6 = true := by kernel_rfl
set_option maxHeartbeats 8000000 in
set_option maxRecDepth 100000 in
theorem potsherdref12_SameTree.calls (k : Nat) (A0_0 : Option Addr) (c0_0 : Nat) (l0_0 : List (S28)) (A1_0 : Option Addr) (c1_0 : Nat) (l1_0 : List (S28)) (r : Bool) (w : World) (hr0_0 : Kd.C k28 w A0_0 l0_0.length l0_0) (hc0_0 : l0_0.length ≤ c0_0) (hr1_0 : Kd.C k28 w A1_0 l1_0.length l1_0) (hc1_0 : l1_0.length ≤ c1_0) (h : potsherdref12_SameTree.f k l0_0 l1_0 = some r) :
 Calls Try.prog 38 #[.agg #[.slice A0_0 l0_0.length c0_0], .agg #[.slice A1_0 l1_0.length c1_0]] w fun e w' => e = .returned (.bool r) ∧ Below w.heap.size w w' := by
 have hu24 := Try.underlying24; have hu28 := Try.underlying28; have HR0_0 := Aside0.mk hr0_0; have HC0_0 := Aside0.mk hc0_0; clear hr0_0 hc0_0; have HR1_0 := Aside0.mk hr1_0; have HC1_0 := Aside0.mk hc1_0; clear hr1_0 hc1_0; have HB := Aside0.mk (Below.refl w.heap.size w); have H : (if (l0_0.length : Int) = (l1_0.length : Int) then (potsherdref12_SameTree.l0 k (l0_0.length : Int) 0 l0_0 l1_0) else (none)) = some r := h; clear h
 replace H := nP H; obtain ⟨c3, H⟩ := H; obtain ⟨c3b0, c3b1⟩ := eP c3
 have c3b2 : (l0_0.length == l1_0.length) = true := by first | simpa using c3 | (simp at c3 ⊢; omega)
 clear c3; have H' := Aside0.mk H; clear H
 go_enter Try.func38, Try.ntmps38
 go_wp2_with (first | ((with_reducible refine gate_dst (N := 2) rfl ?_); refine bxE 24 (cs := #[.slice A0_0 l0_0.length c0_0]) ?_; intro gb496 hg w4 hbox hb; have BK496 := Aside0.mk hbox; have GW496 := kG HB hg; have GE496 := kG HB hg; replace HB := kH HB hb; clear hb hbox hg) | ((with_reducible refine gate_dst (N := 3) rfl ?_); refine bxE 24 (cs := #[.slice A1_0 l1_0.length c1_0]) ?_; intro gb497 hg w5 hbox hb; have BK497 := Aside0.mk hbox; have GW497 := kG HB hg; have GE497 := kG HB hg; replace HB := kH HB hb; have NB496_497 := kL BK496 hg; have NB497_496 := kQ BK496 hg; replace BK496 := kB BK496 hb; clear hb hbox hg; have hnb6 := NB496_497.out; have hnc6 := NB497_496.out; obtain ⟨hcz7_0, hfz7_0⟩ := cY0 BK496; obtain ⟨hcz8_0, hfz8_0⟩ := cY0 BK497))
 go_loopg [16] k (fun kq v16 w' => ∃ (x16_1 : Int), v16 = .int .i64 x16_1 ∧ Aside0 (potsherdref12_SameTree.l0 kq (l0_0.length : Int) x16_1 l0_0 l1_0 = some r) ∧ Aside0 (kq ≤ k) ∧ Aside0 (w'.heap[gb496]? = some (.cells #[(.slice A0_0 l0_0.length c0_0)] 24 (0, 0))) ∧ Aside0 (w'.heap[gb497]? = some (.cells #[(.slice A1_0 l1_0.length c1_0)] 24 (0, 0))) ∧ Aside0 (Below w.heap.size w w'))
 case atStart => exact ⟨(0), sI, H', ⟨Nat.le_refl _⟩, ⟨mB BK496⟩, ⟨mB BK497⟩, ⟨mH HB⟩⟩
 case round =>
  clear H'
  (try clear c3); (try clear c3b0); (try clear c3b1); (try clear c3b2); (try clear hcz7_0); (try clear hcz8_0); (try clear hfz7_0); (try clear hfz8_0)
  obtain ⟨x16_1, rfl, HA, HK1, BK496, BK497, HB⟩ := hrel
  cases gk with
  | zero => exact absurd HA.out (by simp [potsherdref12_SameTree.l0])
  | succ k1 =>
   have H := HA.out; clear HA; simp only [potsherdref12_SameTree.l0] at H
   by_cases c9 : x16_1 < (l0_0.length : Int)
   ·
    rw [if_pos c9] at H; have c9b0 := decide_eq_true c9; clear c9
    replace H := nP H; obtain ⟨c10, H⟩ := H; have c10b0 := decide_eq_true c10; clear c10
    replace H := nP H; obtain ⟨c11, H⟩ := H; have c11b0 := decide_eq_true c11; clear c11
    replace H := nP H; obtain ⟨c12, H⟩ := H; have c12b0 := decide_eq_true c12; clear c12; replace H := Option.bind_eq_some_iff.mp H; obtain ⟨t500, A130, H⟩ := H; have A13 := Aside0.mk A130; clear A130
    by_cases c14 : t500 = true
    ·
     subst c14
     have H1 : (potsherdref12_SameTree.l0 k1 (l0_0.length : Int) (wrap64 (x16_1 + 1)) l0_0 l1_0) = some r := by rw [if_pos rfl] at H; exact H
     clear H; have H := H1; clear H1; have H' := Aside0.mk H; clear H
     try go_wp2
     replace BK496 := Aside0.mk (bD BK496.out); replace BK497 := Aside0.mk (bD BK497.out); replace HB := Aside0.mk (wD HB.out); have p498 : 0 ≤ (x16_1 : Int) := dT; have q498 : x16_1 < (l0_0.length : Int) := dT; obtain ⟨ad498, A498_3, c498_3, A498_4, c498_4, e498, hx498_0, hx498_1, hx498_2, hx498_3, hx498_4, hl498_3, hi498_3, hl498_4, hi498_4⟩ := at_T28 HR0_0.out x16_1 p498 q498; have hw498_4 := hx498_4; have hw498_3 := hx498_3; have hw498_2 := hx498_2; have hw498_1 := hx498_1; have hw498_0 := hx498_0
     cases e498
     replace hx498_0 := xC HB hx498_0; replace hx498_1 := xC HB hx498_1; replace hx498_2 := xC HB hx498_2; replace hx498_3 := xC HB hx498_3; replace hx498_4 := xC HB hx498_4; have HR498_3 := Aside0.mk hi498_3; have HC498_3 := Aside0.mk hl498_3; clear hi498_3 hl498_3; have HR498_4 := Aside0.mk hi498_4; have HC498_4 := Aside0.mk hl498_4; clear hi498_4 hl498_4; replace p498 := eq_true p498; replace q498 := eq_true q498; have p499 : 0 ≤ (x16_1 : Int) := dT; have q499 : x16_1 < (l1_0.length : Int) := dT; obtain ⟨ad499, A499_3, c499_3, A499_4, c499_4, e499, hx499_0, hx499_1, hx499_2, hx499_3, hx499_4, hl499_3, hi499_3, hl499_4, hi499_4⟩ := at_T28 HR1_0.out x16_1 p499 q499; have hw499_4 := hx499_4; have hw499_3 := hx499_3; have hw499_2 := hx499_2; have hw499_1 := hx499_1; have hw499_0 := hx499_0
     cases e499
     replace hx499_0 := xC HB hx499_0; replace hx499_1 := xC HB hx499_1; replace hx499_2 := xC HB hx499_2; replace hx499_3 := xC HB hx499_3; replace hx499_4 := xC HB hx499_4; have HR499_3 := Aside0.mk hi499_3; have HC499_3 := Aside0.mk hl499_3; clear hi499_3 hl499_3; have HR499_4 := Aside0.mk hi499_4; have HC499_4 := Aside0.mk hl499_4; clear hi499_4 hl499_4; replace p499 := eq_true p499; replace q499 := eq_true q499; refine start_ (n := 12) (S := fun w' => w'.cell? ⟨gb496, 0, none⟩ = some (.slice (some ad498) l0_0.length c0_0) ∧ w'.cell? ⟨gb497, 0, none⟩ = some (.slice (some ad499) l1_0.length c1_0) ∧ w'.cell? (ad498.add ((x16_1).toNat * 5)) = some (.int .i64 ((rd_T28 l0_0 x16_1).f0)) ∧ w'.cell? ⟨(ad498.add ((x16_1).toNat * 5)).block, (ad498.add ((x16_1).toNat * 5)).off + 1, none⟩ = some (.int .i64 ((rd_T28 l0_0 x16_1).f1)) ∧ w'.cell? ⟨(ad498.add ((x16_1).toNat * 5)).block, (ad498.add ((x16_1).toNat * 5)).off + 2, none⟩ = some (.int .i64 ((rd_T28 l0_0 x16_1).f2)) ∧ w'.cell? ⟨(ad498.add ((x16_1).toNat * 5)).block, (ad498.add ((x16_1).toNat * 5)).off + 3, none⟩ = some (.slice A498_3 ((rd_T28 l0_0 x16_1).f3).length c498_3) ∧ w'.cell? ⟨(ad498.add ((x16_1).toNat * 5)).block, (ad498.add ((x16_1).toNat * 5)).off + 4, none⟩ = some (.slice A498_4 ((rd_T28 l0_0 x16_1).f4).length c498_4) ∧ w'.cell? (ad499.add ((x16_1).toNat * 5)) = some (.int .i64 ((rd_T28 l1_0 x16_1).f0)) ∧ w'.cell? ⟨(ad499.add ((x16_1).toNat * 5)).block, (ad499.add ((x16_1).toNat * 5)).off + 1, none⟩ = some (.int .i64 ((rd_T28 l1_0 x16_1).f1)) ∧ w'.cell? ⟨(ad499.add ((x16_1).toNat * 5)).block, (ad499.add ((x16_1).toNat * 5)).off + 2, none⟩ = some (.int .i64 ((rd_T28 l1_0 x16_1).f2)) ∧ w'.cell? ⟨(ad499.add ((x16_1).toNat * 5)).block, (ad499.add ((x16_1).toNat * 5)).off + 3, none⟩ = some (.slice A499_3 ((rd_T28 l1_0 x16_1).f3).length c499_3) ∧ w'.cell? ⟨(ad499.add ((x16_1).toNat * 5)).block, (ad499.add ((x16_1).toNat * 5)).off + 4, none⟩ = some (.slice A499_4 ((rd_T28 l1_0 x16_1).f4).length c499_4)) (ds := []) B35_0 (by kernel_rfl) rfl rfl ⟨cZ0 BK496, cZ0 BK497, (xC HB hw498_0), (xC HB hw498_1), (xC HB hw498_2), (xC HB hw498_3), (xC HB hw498_4), (xC HB hw499_0), (xC HB hw499_1), (xC HB hw499_2), (xC HB hw499_3), (xC HB hw499_4)⟩ (fun hHeld => ?_); refine with_tabW potsherdref12_SameTree.tab6 potsherdref12_SameTree.bits6 (fun HT_ HW_ => ?_); generalize wr.drew = w15 at BK496 BK497 HB HR498_3 HR498_4 HR499_3 HR499_4 hx498_0 hx498_1 hx498_2 hx498_3 hx498_4 hx499_0 hx499_1 hx499_2 hx499_3 hx499_4 hHeld ⊢; refine pure_ (i := 0) (N := some 19) (v := ?_) (a' := ?_) B35_1 rfl rfl (any_of HT_.out (by kernel_rfl)) (fun _ _ _ h => h) (Or.inl ⟨by rfl, ?_⟩) ?_ ?_; rotate_left
     ·
      intro w'; go_simp; with_reducible rfl
     rotate_left
     ·
      simp only [Act.put, lT, l0_, lS, i64_w, i32_w]; rfl
     refine pE 2 21 B35_2 HT_ ?_
     refine pE 5 24 B35_3 HT_ ?_
     refine pE 7 26 B35_4 HT_ ?_
     refine tE 1 20 B35_5 HT_ HW_ hHeld ?_
     refine pE 3 22 B35_6 HT_ ?_
     refine tE 4 23 B35_7 HT_ HW_ hHeld ?_
     refine tE 6 25 B35_8 HT_ HW_ hHeld ?_
     refine pE 8 27 B35_9 HT_ ?_
     refine tE 9 28 B35_10 HT_ HW_ hHeld ?_
     refine one_ (i := 10) (N := some 29) B35_11 rfl rfl (one_of HT_.out (by kernel_rfl)) (by decide) (fun K hK => ?_); refine goes_ Try.func60 (by kernel_rfl) rfl #[.agg #[.int .i64 ((rd_T28 l0_0 x16_1).f0), .int .i64 ((rd_T28 l0_0 x16_1).f1), .int .i64 ((rd_T28 l0_0 x16_1).f2), .slice A498_3 ((rd_T28 l0_0 x16_1).f3).length c498_3, .slice A498_4 ((rd_T28 l0_0 x16_1).f4).length c498_4], .agg #[.int .i64 ((rd_T28 l1_0 x16_1).f0), .int .i64 ((rd_T28 l1_0 x16_1).f1), .int .i64 ((rd_T28 l1_0 x16_1).f2), .slice A499_3 ((rd_T28 l1_0 x16_1).f3).length c499_3, .slice A499_4 ((rd_T28 l1_0 x16_1).f4).length c499_4]] (by rfl) rfl rfl (by (try simp only [List.map_toArray, List.map_cons, List.map_nil]); first | done | rfl | (simp only [List.length_drop, List.length_take]; rfl)) ?_
     with_reducible refine (potsherdref12_SameNode.calls k1 ((rd_T28 l0_0 x16_1).f0) ((rd_T28 l0_0 x16_1).f1) ((rd_T28 l0_0 x16_1).f2) _ _ ((rd_T28 l0_0 x16_1).f3) _ _ ((rd_T28 l0_0 x16_1).f4) ((rd_T28 l1_0 x16_1).f0) ((rd_T28 l1_0 x16_1).f1) ((rd_T28 l1_0 x16_1).f2) _ _ ((rd_T28 l1_0 x16_1).f3) _ _ ((rd_T28 l1_0 x16_1).f4) true _ ?side1 ?side2 ?side3 ?side4 ?side5 ?side6 ?side7 ?side8 A13.out).mono ?_
     (case side1 => exact mC HR498_3 HB)
     (case side2 => exact HC498_3.out)
     (case side3 => exact mC HR498_4 HB)
     (case side4 => exact HC498_4.out)
     (case side5 => exact mC HR499_3 HB)
     (case side6 => exact HC499_3.out)
     (case side7 => exact mC HR499_4 HB)
     (case side8 => exact HC499_4.out)
     rintro e w16 ⟨rfl, hb⟩; refine ⟨_, rfl, ?_⟩; replace BK496 := kB BK496 hb; replace BK497 := kB BK497 hb; replace HB := kH HB hb
     (try clear hb)
     refine hK.out _ _ ⟨cZ0 BK496, cZ0 BK497, (xC HB hw498_0), (xC HB hw498_1), (xC HB hw498_2), (xC HB hw498_3), (xC HB hw498_4), (xC HB hw499_0), (xC HB hw499_1), (xC HB hw499_2), (xC HB hw499_3), (xC HB hw499_4)⟩ (fun hHeld => ?_); clear hK K; refine norm_ (a' := ?_) ?_ ?_; rotate_left
     ·
      show Act.put _ (some 29) _ = _
      simp only [Act.put, lT, l0_, lS, i64_w, i32_w]; rfl
     refine pE 11 30 B35_12 HT_ ?_
     refine done_ (done_of HT_.out (by kernel_rfl)) ?_
     try go_wp2
     go_roundg k1
     case measure => have := HK1.out; omega
     case rel => exact ⟨(wrap64 (x16_1 + 1)), sI, H', ⟨oK HK1⟩, ⟨mB BK496⟩, ⟨mB BK497⟩, ⟨mH HB⟩⟩
    ·
     replace c14 := Bool.eq_false_iff.mpr c14; subst c14
     have H1 : (none) = some r := by rw [if_neg (show ¬ (false = true) by decide)] at H; exact H
     clear H; have H := H1; clear H1; exact absurd H (by simp)
   ·
    rw [if_neg c9] at H; have c9b0 := decide_eq_false c9; clear c9; obtain rfl := Option.some.inj H
    go_wp2
    go_ret
    exact ⟨rT, mH HB⟩
end Go.Proofs.Ytkigiehkckjlhaa.PDone
