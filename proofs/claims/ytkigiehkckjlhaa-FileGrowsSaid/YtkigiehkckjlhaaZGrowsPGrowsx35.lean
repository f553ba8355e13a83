/- The Go functions that these laws reach, each as a Lean function with the same answers (a law itself where it answers true), and the proof that the code comes to them; conditions: those of each theorem. Laid by a program of this session over the print. -/
import Derived.Test.YtkigiehkckjlhaaZGrowsPGrowsShort
import Derived.Test.YtkigiehkckjlhaaZGrowsPGrowsx0
import Derived.Test.YtkigiehkckjlhaaZGrowsPGrowsx34
namespace Go.Proofs.Ytkigiehkckjlhaa.PGrows
open Go.RowKit Go.Proofs.YtkigiehkckjlhaaW.PrintWords Go.Proofs.YtkigiehkckjlhaaW.PrintLast Go.Proofs.YtkigiehkckjlhaaW.PrintMore
attribute [local go_sem] max2_int min2_int max_two min_two max_three min_three max_four min_four   -- for this text's walks alone
set_option linter.unusedVariables false
set_option linter.unusedSimpArgs false
open Go.Proofs.YtkigiehkckjlhaaW.PrintWords renaming blk_drewN → bN, blk_drew → bD, blk_alloc → bA, below_set → wS, below_alloc → wA, pw_below_drewN → wN, below_drew1 → wD, blk_below → bB, blk_far → bF, blk_cell → bC, blk_frozen → bZ
open List renaming setIfInBounds_toArray → lT, set_cons_zero → l0_, set_cons_succ → lS
abbrev B35_0 : Array Bool := #[false, false, false, false, false, false, false, false, false, false, false, false]
abbrev B35_1 : Array Bool := B35_0.set! 0 true
abbrev B35_2 : Array Bool := B35_1.set! 2 true
abbrev B35_3 : Array Bool := B35_2.set! 5 true
abbrev B35_4 : Array Bool := B35_3.set! 7 true
abbrev B35_5 : Array Bool := B35_4.set! 1 true
abbrev B35_6 : Array Bool := B35_5.set! 3 true
abbrev B35_7 : Array Bool := B35_6.set! 4 true
abbrev B35_8 : Array Bool := B35_7.set! 6 true
abbrev B35_9 : Array Bool := B35_8.set! 8 true
abbrev B35_10 : Array Bool := B35_9.set! 9 true
abbrev B35_11 : Array Bool := B35_10.set! 10 true
abbrev B35_12 : Array Bool := B35_11.set! 11 true
def potsherdref12_SameTree.l0 : Nat → Int → Int → List (S28) → List (S28) → Option (Bool)
 | 0, _, _, _, _ => none
 | k + 1, x15, x16, x495000, x496000 => if x16 < x15 then (if 0 ≤ x16 then (if x16 < (x495000.length : Int) then (if x16 < (x496000.length : Int) then ((potsherdref12_SameNode.f k ((rd_T28 x495000 x16).f0) ((rd_T28 x495000 x16).f1) ((rd_T28 x495000 x16).f2) ((rd_T28 x495000 x16).f3) ((rd_T28 x495000 x16).f4) ((rd_T28 x496000 x16).f0) ((rd_T28 x496000 x16).f1) ((rd_T28 x496000 x16).f2) ((rd_T28 x496000 x16).f3) ((rd_T28 x496000 x16).f4)).bind fun t498 => (if t498 = true then (potsherdref12_SameTree.l0 k x15 (wrap64 (x16 + 1)) x495000 x496000) else (none))) else (none)) else (none)) else (none)) else (some true)
def potsherdref12_SameTree.f (k : Nat) (l0_0 : List (S28)) (l1_0 : List (S28)) : Option (Bool) := if (l0_0.length : Int) = (l1_0.length : Int) then (potsherdref12_SameTree.l0 k (l0_0.length : Int) 0 l0_0 l1_0) else (none)
theorem potsherdref12_SameTree.mono_l : ∀ k, (∀ y0 y1 y2 y3, LeO (potsherdref12_SameTree.l0 k y0 y1 y2 y3) (potsherdref12_SameTree.l0 (k + 1) y0 y1 y2 y3))
 | 0 => fun _ _ _ _ r h => by simp [potsherdref12_SameTree.l0] at h
 | k + 1 => by
  have ih0 := potsherdref12_SameTree.mono_l k
  ·
   intro y0 y1 y2 y3
   unfold potsherdref12_SameTree.l0
   repeat' with_reducible first | apply ih0 | apply potsherdref12_SameNode.mono | exact LeO.refl _ | exact LeO.none _ | refine LeO.ite ?_ ?_ | refine LeO.bind ?_ (fun _ => ?_)
theorem potsherdref12_SameTree.mono : ∀ a0 a1 k, LeO (potsherdref12_SameTree.f k a0 a1) (potsherdref12_SameTree.f (k + 1) a0 a1) := by
 intro a0 a1 k; have ih0 := potsherdref12_SameTree.mono_l k
 unfold potsherdref12_SameTree.f
 repeat' with_reducible first | apply ih0 | apply potsherdref12_SameNode.mono | exact LeO.refl _ | exact LeO.none _ | refine LeO.ite ?_ ?_ | refine LeO.bind ?_ (fun _ => ?_)
def potsherdref12_SameTree.T6 : Bool × List (List Nat × List Nat) := (true, [([], []), ([0], [0]), ([], []), ([1, 2], [1, 2]), ([3], [3]), ([], []), ([5], [5]), ([], []), ([6, 7], [6, 7]), ([8], [8]), ([4, 9], [4, 9]), ([10], [10])])
def potsherdref12_SameTree.B6 : List Nat := [0, 1, 0, 7, 15, 0, 32, 0, 224, 480, 1023, 2047]
theorem potsherdref12_SameTree.tab6 : rtab .any (opsOf Try.f38 6) = potsherdref12_SameTree.T6 := by kernel_rfl
theorem potsherdref12_SameTree.bits6 : waitsOk potsherdref12_SameTree.T6.2 potsherdref12_SameTree.B6 = true := by kernel_rfl
set_option maxHeartbeats 8000000 in
set_option maxRecDepth 100000 in
theorem potsherdref12_SameTree.calls (k : Nat) (A0_0 : Option Addr) (c0_0 : Nat) (l0_0 : List (S28)) (A1_0 : Option Addr) (c1_0 : Nat) (l1_0 : List (S28)) (r : Bool) (w : World) (hr0_0 : Kd.C k28 w A0_0 l0_0.length l0_0) (hc0_0 : l0_0.length ≤ c0_0) (hr1_0 : Kd.C k28 w A1_0 l1_0.length l1_0) (hc1_0 : l1_0.length ≤ c1_0) (h : potsherdref12_SameTree.f k l0_0 l1_0 = some r) :
 Calls Try.prog 38 #[.agg #[.slice A0_0 l0_0.length c0_0], .agg #[.slice A1_0 l1_0.length c1_0]] w fun e w' => e = .returned (.bool r) ∧ Below w.heap.size w w' := by
 have hu24 := Try.underlying24; have hu28 := Try.underlying28; have HR0_0 := Aside0.mk hr0_0; have HC0_0 := Aside0.mk hc0_0; clear hr0_0 hc0_0; have HR1_0 := Aside0.mk hr1_0; have HC1_0 := Aside0.mk hc1_0; clear hr1_0 hc1_0; have HB := Aside0.mk (Below.refl w.heap.size w); have H : (if (l0_0.length : Int) = (l1_0.length : Int) then (potsherdref12_SameTree.l0 k (l0_0.length : Int) 0 l0_0 l1_0) else (none)) = some r := h; clear h
 replace H := nP H; obtain ⟨c3, H⟩ := H; obtain ⟨c3b0, c3b1⟩ := eP c3
 have c3b2 : (l0_0.length == l1_0.length) = true := by first | simpa using c3 | (simp at c3 ⊢; omega)
 clear c3; have H' := Aside0.mk H; clear H
 go_enter Try.func38, Try.ntmps38
 go_wp2_with (first | ((with_reducible refine gate_dst (N := 2) rfl ?_); refine bxE 24 (cs := #[.slice A0_0 l0_0.length c0_0]) ?_; intro gb494 hg w4 hbox hb; have BK494 := Aside0.mk hbox; have GW494 := kG HB hg; have GE494 := kG HB hg; replace HB := kH HB hb; clear hb hbox hg) | ((with_reducible refine gate_dst (N := 3) rfl ?_); refine bxE 24 (cs := #[.slice A1_0 l1_0.length c1_0]) ?_; intro gb495 hg w5 hbox hb; have BK495 := Aside0.mk hbox; have GW495 := kG HB hg; have GE495 := kG HB hg; replace HB := kH HB hb; have NB494_495 := kL BK494 hg; have NB495_494 := kQ BK494 hg; replace BK494 := kB BK494 hb; clear hb hbox hg; have hnb6 := NB494_495.out; have hnc6 := NB495_494.out; obtain ⟨hcz7_0, hfz7_0⟩ := cY0 BK494; obtain ⟨hcz8_0, hfz8_0⟩ := cY0 BK495))
 go_loopg [16] k (fun kq v16 w' => ∃ (x16_1 : Int), v16 = .int .i64 x16_1 ∧ Aside0 (potsherdref12_SameTree.l0 kq (l0_0.length : Int) x16_1 l0_0 l1_0 = some r) ∧ Aside0 (kq ≤ k) ∧ Aside0 (w'.heap[gb494]? = some (.cells #[(.slice A0_0 l0_0.length c0_0)] 24 (0, 0))) ∧ Aside0 (w'.heap[gb495]? = some (.cells #[(.slice A1_0 l1_0.length c1_0)] 24 (0, 0))) ∧ Aside0 (Below w.heap.size w w'))
 case atStart => exact ⟨(0), sI, H', ⟨Nat.le_refl _⟩, ⟨mB BK494⟩, ⟨mB BK495⟩, ⟨mH HB⟩⟩
 case round =>
  clear H'
  (try clear c3); (try clear c3b0); (try clear c3b1); (try clear c3b2); (try clear hcz7_0); (try clear hcz8_0); (try clear hfz7_0); (try clear hfz8_0)
  obtain ⟨x16_1, rfl, HA, HK1, BK494, BK495, HB⟩ := hrel
  cases gk with
  | zero => exact absurd HA.out (by simp [potsherdref12_SameTree.l0])
  | succ k1 =>
   have H := HA.out; clear HA; simp only [potsherdref12_SameTree.l0] at H
   by_cases c9 : x16_1 < (l0_0.length : Int)
   ·
    rw [if_pos c9] at H; have c9b0 := decide_eq_true c9; clear c9
    replace H := nP H; obtain ⟨c10, H⟩ := H; have c10b0 := decide_eq_true c10; clear c10
    replace H := nP H; obtain ⟨c11, H⟩ := H; have c11b0 := decide_eq_true c11; clear c11
    replace H := nP H; obtain ⟨c12, H⟩ := H; have c12b0 := decide_eq_true c12; clear c12; replace H := Option.bind_eq_some_iff.mp H; obtain ⟨t498, A130, H⟩ := H; have A13 := Aside0.mk A130; clear A130
    by_cases c14 : t498 = true
    ·
     subst c14
     have H1 : (potsherdref12_SameTree.l0 k1 (l0_0.length : Int) (wrap64 (x16_1 + 1)) l0_0 l1_0) = some r := by rw [if_pos rfl] at H; exact H
     clear H; have H := H1; clear H1; have H' := Aside0.mk H; clear H
     try go_wp2
     replace BK494 := Aside0.mk (bD BK494.out); replace BK495 := Aside0.mk (bD BK495.out); replace HB := Aside0.mk (wD HB.out); have p496 : 0 ≤ (x16_1 : Int) := dT; have q496 : x16_1 < (l0_0.length : Int) := dT; obtain ⟨ad496, A496_3, c496_3, A496_4, c496_4, e496, hx496_0, hx496_1, hx496_2, hx496_3, hx496_4, hl496_3, hi496_3, hl496_4, hi496_4⟩ := at_T28 HR0_0.out x16_1 p496 q496; have hw496_4 := hx496_4; have hw496_3 := hx496_3; have hw496_2 := hx496_2; have hw496_1 := hx496_1; have hw496_0 := hx496_0
     cases e496
     replace hx496_0 := xC HB hx496_0; replace hx496_1 := xC HB hx496_1; replace hx496_2 := xC HB hx496_2; replace hx496_3 := xC HB hx496_3; replace hx496_4 := xC HB hx496_4; have HR496_3 := Aside0.mk hi496_3; have HC496_3 := Aside0.mk hl496_3; clear hi496_3 hl496_3; have HR496_4 := Aside0.mk hi496_4; have HC496_4 := Aside0.mk hl496_4; clear hi496_4 hl496_4; replace p496 := eq_true p496; replace q496 := eq_true q496; have p497 : 0 ≤ (x16_1 : Int) := dT; have q497 : x16_1 < (l1_0.length : Int) := dT; obtain ⟨ad497, A497_3, c497_3, A497_4, c497_4, e497, hx497_0, hx497_1, hx497_2, hx497_3, hx497_4, hl497_3, hi497_3, hl497_4, hi497_4⟩ := at_T28 HR1_0.out x16_1 p497 q497; have hw497_4 := hx497_4; have hw497_3 := hx497_3; have hw497_2 := hx497_2; have hw497_1 := hx497_1; have hw497_0 := hx497_0
     cases e497
     replace hx497_0 := xC HB hx497_0; replace hx497_1 := xC HB hx497_1; replace hx497_2 := xC HB hx497_2; replace hx497_3 := xC HB hx497_3; replace hx497_4 := xC HB hx497_4; have HR497_3 := Aside0.mk hi497_3; have HC497_3 := Aside0.mk hl497_3; clear hi497_3 hl497_3; have HR497_4 := Aside0.mk hi497_4; have HC497_4 := Aside0.mk hl497_4; clear hi497_4 hl497_4; replace p497 := eq_true p497; replace q497 := eq_true q497; refine start_ (n := 12) (S := fun w' => w'.cell? ⟨gb494, 0, none⟩ = some (.slice (some ad496) l0_0.length c0_0) ∧ w'.cell? ⟨gb495, 0, none⟩ = some (.slice (some ad497) l1_0.length c1_0) ∧ w'.cell? (ad496.add ((x16_1).toNat * 5)) = some (.int .i64 ((rd_T28 l0_0 x16_1).f0)) ∧ w'.cell? ⟨(ad496.add ((x16_1).toNat * 5)).block, (ad496.add ((x16_1).toNat * 5)).off + 1, none⟩ = some (.int .i64 ((rd_T28 l0_0 x16_1).f1)) ∧ w'.cell? ⟨(ad496.add ((x16_1).toNat * 5)).block, (ad496.add ((x16_1).toNat * 5)).off + 2, none⟩ = some (.int .i64 ((rd_T28 l0_0 x16_1).f2)) ∧ w'.cell? ⟨(ad496.add ((x16_1).toNat * 5)).block, (ad496.add ((x16_1).toNat * 5)).off + 3, none⟩ = some (.slice A496_3 ((rd_T28 l0_0 x16_1).f3).length c496_3) ∧ w'.cell? ⟨(ad496.add ((x16_1).toNat * 5)).block, (ad496.add ((x16_1).toNat * 5)).off + 4, none⟩ = some (.slice A496_4 ((rd_T28 l0_0 x16_1).f4).length c496_4) ∧ w'.cell? (ad497.add ((x16_1).toNat * 5)) = some (.int .i64 ((rd_T28 l1_0 x16_1).f0)) ∧ w'.cell? ⟨(ad497.add ((x16_1).toNat * 5)).block, (ad497.add ((x16_1).toNat * 5)).off + 1, none⟩ = some (.int .i64 ((rd_T28 l1_0 x16_1).f1)) ∧ w'.cell? ⟨(ad497.add ((x16_1).toNat * 5)).block, (ad497.add ((x16_1).toNat * 5)).off + 2, none⟩ = some (.int .i64 ((rd_T28 l1_0 x16_1).f2)) ∧ w'.cell? ⟨(ad497.add ((x16_1).toNat * 5)).block, (ad497.add ((x16_1).toNat * 5)).off + 3, none⟩ = some (.slice A497_3 ((rd_T28 l1_0 x16_1).f3).length c497_3) ∧ w'.cell? ⟨(ad497.add ((x16_1).toNat * 5)).block, (ad497.add ((x16_1).toNat * 5)).off + 4, none⟩ = some (.slice A497_4 ((rd_T28 l1_0 x16_1).f4).length c497_4)) (ds := []) B35_0 (by kernel_rfl) rfl rfl ⟨(bC BK494.out 0).trans rfl, (bC BK495.out 0).trans rfl, (xC HB hw496_0), (xC HB hw496_1), (xC HB hw496_2), (xC HB hw496_3), (xC HB hw496_4), (xC HB hw497_0), (xC HB hw497_1), (xC HB hw497_2), (xC HB hw497_3), (xC HB hw497_4)⟩ (fun hHeld => ?_); refine with_tabW potsherdref12_SameTree.tab6 potsherdref12_SameTree.bits6 (fun HT_ HW_ => ?_); generalize wr.drew = w15 at BK494 BK495 HB HR496_3 HR496_4 HR497_3 HR497_4 hx496_0 hx496_1 hx496_2 hx496_3 hx496_4 hx497_0 hx497_1 hx497_2 hx497_3 hx497_4 hHeld ⊢; refine pure_ (i := 0) (N := some 19) (v := ?_) (a' := ?_) B35_1 rfl rfl (any_of HT_.out (by kernel_rfl)) (fun _ _ _ h => h) (Or.inl ⟨by rfl, ?_⟩) ?_ ?_; rotate_left
     ·
      intro w'; go_simp; with_reducible rfl
     rotate_left
     ·
      simp only [Act.put, lT, l0_, lS, i64_w, i32_w]; rfl
     refine pureE 2 (some 21) B35_2 (any_of HT_.out (by kernel_rfl)) ?_
     refine pureE 5 (some 24) B35_3 (any_of HT_.out (by kernel_rfl)) ?_
     refine pureE 7 (some 26) B35_4 (any_of HT_.out (by kernel_rfl)) ?_
     refine take_ (i := 1) (N := some 20) (v := ?_) (a' := ?_) B35_5 rfl rfl (take_ofW HT_.out HW_.out (by kernel_rfl)) (fun _ _ _ h => h) (Or.inl ⟨by rfl, ?_⟩) hHeld ?_ ?_; rotate_left
     ·
      rintro w' ⟨s0, s1, s2, s3, s4, s5, s6, s7, s8, s9, s10, s11⟩; go_simp; with_reducible rfl
     rotate_left
     ·
      simp only [Act.put, lT, l0_, lS, i64_w, i32_w]; rfl
     refine pureE 3 (some 22) B35_6 (any_of HT_.out (by kernel_rfl)) ?_
     refine take_ (i := 4) (N := some 23) (v := ?_) (a' := ?_) B35_7 rfl rfl (take_ofW HT_.out HW_.out (by kernel_rfl)) (fun _ _ _ h => h) (Or.inl ⟨by rfl, ?_⟩) hHeld ?_ ?_; rotate_left
     ·
      rintro w' ⟨s0, s1, s2, s3, s4, s5, s6, s7, s8, s9, s10, s11⟩; go_simp; with_reducible rfl
     rotate_left
     ·
      simp only [Act.put, lT, l0_, lS, i64_w, i32_w]; rfl
     refine take_ (i := 6) (N := some 25) (v := ?_) (a' := ?_) B35_8 rfl rfl (take_ofW HT_.out HW_.out (by kernel_rfl)) (fun _ _ _ h => h) (Or.inl ⟨by rfl, ?_⟩) hHeld ?_ ?_; rotate_left
     ·
      rintro w' ⟨s0, s1, s2, s3, s4, s5, s6, s7, s8, s9, s10, s11⟩; go_simp; with_reducible rfl
     rotate_left
     ·
      simp only [Act.put, lT, l0_, lS, i64_w, i32_w]; rfl
     refine pureE 8 (some 27) B35_9 (any_of HT_.out (by kernel_rfl)) ?_
     refine take_ (i := 9) (N := some 28) (v := ?_) (a' := ?_) B35_10 rfl rfl (take_ofW HT_.out HW_.out (by kernel_rfl)) (fun _ _ _ h => h) (Or.inl ⟨by rfl, ?_⟩) hHeld ?_ ?_; rotate_left
     ·
      rintro w' ⟨s0, s1, s2, s3, s4, s5, s6, s7, s8, s9, s10, s11⟩; go_simp; with_reducible rfl
     rotate_left
     ·
      simp only [Act.put, lT, l0_, lS, i64_w, i32_w]; rfl
     refine one_ (i := 10) (N := some 29) B35_11 rfl rfl (one_of HT_.out (by kernel_rfl)) (by decide) (fun K hK => ?_); refine goes_ Try.func60 (by kernel_rfl) rfl #[.agg #[.int .i64 ((rd_T28 l0_0 x16_1).f0), .int .i64 ((rd_T28 l0_0 x16_1).f1), .int .i64 ((rd_T28 l0_0 x16_1).f2), .slice A496_3 ((rd_T28 l0_0 x16_1).f3).length c496_3, .slice A496_4 ((rd_T28 l0_0 x16_1).f4).length c496_4], .agg #[.int .i64 ((rd_T28 l1_0 x16_1).f0), .int .i64 ((rd_T28 l1_0 x16_1).f1), .int .i64 ((rd_T28 l1_0 x16_1).f2), .slice A497_3 ((rd_T28 l1_0 x16_1).f3).length c497_3, .slice A497_4 ((rd_T28 l1_0 x16_1).f4).length c497_4]] (by rfl) rfl rfl (by (try simp only [List.map_toArray, List.map_cons, List.map_nil]); first | done | rfl | (simp only [List.length_drop, List.length_take]; rfl)) ?_
     with_reducible refine (potsherdref12_SameNode.calls k1 ((rd_T28 l0_0 x16_1).f0) ((rd_T28 l0_0 x16_1).f1) ((rd_T28 l0_0 x16_1).f2) _ _ ((rd_T28 l0_0 x16_1).f3) _ _ ((rd_T28 l0_0 x16_1).f4) ((rd_T28 l1_0 x16_1).f0) ((rd_T28 l1_0 x16_1).f1) ((rd_T28 l1_0 x16_1).f2) _ _ ((rd_T28 l1_0 x16_1).f3) _ _ ((rd_T28 l1_0 x16_1).f4) true _ ?side1 ?side2 ?side3 ?side4 ?side5 ?side6 ?side7 ?side8 A13.out).mono ?_
     (case side1 => exact mC HR496_3 HB)
     (case side2 => exact HC496_3.out)
     (case side3 => exact mC HR496_4 HB)
     (case side4 => exact HC496_4.out)
     (case side5 => exact mC HR497_3 HB)
     (case side6 => exact HC497_3.out)
     (case side7 => exact mC HR497_4 HB)
     (case side8 => exact HC497_4.out)
     rintro e w16 ⟨rfl, hb⟩; refine ⟨_, rfl, ?_⟩; replace BK494 := kB BK494 hb; replace BK495 := kB BK495 hb; replace HB := kH HB hb
     (try clear hb)
     refine hK.out _ _ ⟨(bC BK494.out 0).trans rfl, (bC BK495.out 0).trans rfl, (xC HB hw496_0), (xC HB hw496_1), (xC HB hw496_2), (xC HB hw496_3), (xC HB hw496_4), (xC HB hw497_0), (xC HB hw497_1), (xC HB hw497_2), (xC HB hw497_3), (xC HB hw497_4)⟩ (fun hHeld => ?_); clear hK K; refine norm_ (a' := ?_) ?_ ?_; rotate_left
     ·
      show Act.put _ (some 29) _ = _
      simp only [Act.put, lT, l0_, lS, i64_w, i32_w]; rfl
     refine pureE 11 (some 30) B35_12 (any_of HT_.out (by kernel_rfl)) ?_
     refine done_ (done_of HT_.out (by kernel_rfl)) ?_
     try go_wp2
     go_roundg k1
     case measure => have := HK1.out; omega
     case rel => exact ⟨(wrap64 (x16_1 + 1)), sI, H', ⟨oK HK1⟩, ⟨mB BK494⟩, ⟨mB BK495⟩, ⟨mH HB⟩⟩
    ·
     replace c14 := Bool.eq_false_iff.mpr c14; subst c14
     have H1 : (none) = some r := by rw [if_neg (show ¬ (false = true) by decide)] at H; exact H
     clear H; have H := H1; clear H1; exact absurd H (by simp)
   ·
    rw [if_neg c9] at H; have c9b0 := decide_eq_false c9; clear c9; obtain rfl := Option.some.inj H
    go_wp2
    go_ret
    exact ⟨rT, mH HB⟩
def span_Pages.f (a0 : Int) : Option (Int) := some ((((mn (mx a0 0) 80) + 16) - 1) / 16)
set_option maxHeartbeats 8000000 in
set_option maxRecDepth 100000 in
theorem span_Pages.calls (a0 : Int) (r : Int) (w : World) (h : span_Pages.f a0 = some r) :
 Calls Try.prog 62 #[.int .i64 a0] w fun e w' => e = .returned (.int .i64 r) ∧ Below w.heap.size w w' := by
 have HB := Aside0.mk (Below.refl w.heap.size w); have H : (some ((((mn (mx a0 0) 80) + 16) - 1) / 16)) = some r := h; clear h; obtain ⟨ji2, hji2⟩ : ∃ j_ : Int, (mx a0 0) = j_ := ⟨_, rfl⟩
 replace H : (some ((((mn (ji2) 80) + 16) - 1) / 16)) = some r := by first | (rw [hji2] at H; exact H) | (simp only [hji2] at H ⊢; exact H)
 (try (have hji2l : 0 ≤ ji2 := by (rw [← hji2]; unfold mx; (repeat' split) <;> omega)))
 (try (have hji2m : 0 ≤ ji2 := by omega))
 have hji2_ : (if a0 < 0 then 0 else a0) = ji2 := hji2; obtain ⟨ji3, hji3⟩ : ∃ j_ : Int, (mn (ji2) 80) = j_ := ⟨_, rfl⟩
 replace H : (some ((((ji3) + 16) - 1) / 16)) = some r := by first | (rw [hji3] at H; exact H) | (simp only [hji3] at H ⊢; exact H)
 have hji3_ : (if 80 < (ji2) then 80 else (ji2)) = ji3 := hji3; obtain rfl := Option.some.inj H
 go_enter Try.func62, Try.ntmps62
 go_wp2
 go_ret
 exact ⟨by first | rfl | exact congrArg (fun b_ => Ending.returned (Value.bool b_)) HRET.out | (rw [HRET.out]) | (simp [errW_none, errW_some] <;> rfl) | (simp only [← hji2, ← hji3]; first | rfl | (simp [errW_none, errW_some] <;> rfl)) | (simp [*, errW_none, errW_some] <;> rfl), mH HB⟩
end Go.Proofs.Ytkigiehkckjlhaa.PGrows
