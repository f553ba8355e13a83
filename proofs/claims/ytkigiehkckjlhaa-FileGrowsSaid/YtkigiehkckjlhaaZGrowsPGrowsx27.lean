/- The Go functions that these laws reach, each as a Lean function with the same answers (a law itself where it answers true), and the proof that the code comes to them; conditions: those of each theorem. Laid by a program of this session over the print. -/
import Derived.Test.YtkigiehkckjlhaaZGrowsPGrowsShort
import Derived.Test.YtkigiehkckjlhaaZGrowsPGrowsx0
import Derived.Test.YtkigiehkckjlhaaZGrowsPGrowsx25
import Derived.Test.YtkigiehkckjlhaaZGrowsPGrowsx2
namespace Go.Proofs.Ytkigiehkckjlhaa.PGrows
open Go.RowKit Go.Proofs.YtkigiehkckjlhaaW.PrintWords Go.Proofs.YtkigiehkckjlhaaW.PrintLast Go.Proofs.YtkigiehkckjlhaaW.PrintMore
attribute [local go_sem] max2_int min2_int max_two min_two max_three min_three max_four min_four   -- for this text's walks alone
set_option linter.unusedVariables false
set_option linter.unusedSimpArgs false
open Go.Proofs.YtkigiehkckjlhaaW.PrintWords renaming blk_drewN → bN, blk_drew → bD, blk_alloc → bA, below_set → wS, below_alloc → wA, pw_below_drewN → wN, below_drew1 → wD, blk_below → bB, blk_far → bF, blk_cell → bC, blk_frozen → bZ
open List renaming setIfInBounds_toArray → lT, set_cons_zero → l0_, set_cons_succ → lS
abbrev B27_0 : Array Bool := #[false, false, false, false, false, false, false, false]
abbrev B27_1 : Array Bool := B27_0.set! 0 true
abbrev B27_2 : Array Bool := B27_1.set! 1 true
abbrev B27_3 : Array Bool := B27_2.set! 2 true
abbrev B27_4 : Array Bool := B27_3.set! 3 true
abbrev B27_5 : Array Bool := B27_4.set! 4 true
abbrev B27_6 : Array Bool := B27_5.set! 5 true
abbrev B27_7 : Array Bool := B27_6.set! 6 true
abbrev B27_8 : Array Bool := B27_7.set! 7 true
def potsherdref12_CopyTree.l0 : Nat → List (S28) → Int → Int → List (S28) → Option ((List (S28)))
 | 0, _, _, _, _ => none
 | k + 1, x7, x8, x9, x338000 => if x9 < x8 then (if 0 ≤ x9 then (if x9 < (x7.length : Int) then ((potsherdref12_CopyNode.f ((rd_T28 x7 x9).f0) ((rd_T28 x7 x9).f1) ((rd_T28 x7 x9).f2) ((rd_T28 x7 x9).f3) ((rd_T28 x7 x9).f4)).bind fun bt340 => (if x338000.length < 1954687338268 then (potsherdref12_CopyTree.l0 k x7 x8 (wrap64 (x9 + 1)) (x338000 ++ [(⟨bt340.1, bt340.2.1, bt340.2.2.1, bt340.2.2.2.1, bt340.2.2.2.2⟩ : S28)])) else (none))) else (none)) else (none)) else (some x338000)
def potsherdref12_CopyTree.f (k : Nat) (l0_0 : List (S28)) : Option ((List (S28))) := potsherdref12_CopyTree.l0 k l0_0 (l0_0.length : Int) 0 ([] : List (S28))
theorem potsherdref12_CopyTree.mono_l : ∀ k, (∀ y0 y1 y2 y3, LeO (potsherdref12_CopyTree.l0 k y0 y1 y2 y3) (potsherdref12_CopyTree.l0 (k + 1) y0 y1 y2 y3))
 | 0 => fun _ _ _ _ r h => by simp [potsherdref12_CopyTree.l0] at h
 | k + 1 => by
  have ih0 := potsherdref12_CopyTree.mono_l k
  ·
   intro y0 y1 y2 y3
   unfold potsherdref12_CopyTree.l0
   repeat' with_reducible first | apply ih0 | exact LeO.refl _ | exact LeO.none _ | refine LeO.ite ?_ ?_ | refine LeO.bind ?_ (fun _ => ?_)
theorem potsherdref12_CopyTree.mono : ∀ a0 k, LeO (potsherdref12_CopyTree.f k a0) (potsherdref12_CopyTree.f (k + 1) a0) := by
 intro a0 k; have ih0 := potsherdref12_CopyTree.mono_l k
 unfold potsherdref12_CopyTree.f
 repeat' with_reducible first | apply ih0 | exact LeO.refl _ | exact LeO.none _ | refine LeO.ite ?_ ?_ | refine LeO.bind ?_ (fun _ => ?_)
def potsherdref12_CopyTree.T5 : Bool × List (List Nat × List Nat) := (true, [([], []), ([0], [0]), ([], []), ([2], [2]), ([3], [3]), ([1, 4, 3], [1, 4]), ([0, 1, 2, 3, 4, 5], []), ([6, 5, 5, 0, 1, 2, 3, 4, 5], [5, 6])])
def potsherdref12_CopyTree.B5 : List Nat := [0, 1, 0, 4, 12, 31, 63, 127]
theorem potsherdref12_CopyTree.tab5 : rtab .any (opsOf Try.f32 5) = potsherdref12_CopyTree.T5 := by kernel_rfl
theorem potsherdref12_CopyTree.bits5 : waitsOk potsherdref12_CopyTree.T5.2 potsherdref12_CopyTree.B5 = true := by kernel_rfl
set_option maxHeartbeats 8000000 in
set_option maxRecDepth 100000 in
theorem potsherdref12_CopyTree.calls (k : Nat) (A0_0 : Option Addr) (c0_0 : Nat) (l0_0 : List (S28)) (r : List (S28)) (w : World) (hr0_0 : Kd.C k28 w A0_0 l0_0.length l0_0) (hc0_0 : l0_0.length ≤ c0_0) (h : potsherdref12_CopyTree.f k l0_0 = some r) :
 Calls Try.prog 32 #[.agg #[.slice A0_0 l0_0.length c0_0]] w fun e w' => ∃ v0_ : Value, e = .returned (.agg #[v0_]) ∧ Kd.S k28 28 w' w.heap.size (fun _ => True) v0_ r ∧ Below w.heap.size w w' := by
 have hu24 := Try.underlying24; have hu28 := Try.underlying28; have HR0_0 := Aside0.mk hr0_0; have HC0_0 := Aside0.mk hc0_0; clear hr0_0 hc0_0; have HB := Aside0.mk (Below.refl w.heap.size w); have H : (potsherdref12_CopyTree.l0 k l0_0 (l0_0.length : Int) 0 ([] : List (S28))) = some r := h; clear h; have H' := Aside0.mk H; clear H
 go_enter Try.func32, Try.ntmps32
 go_wp2_with (first | ((with_reducible refine gate_dst (N := 1) rfl ?_); refine bxE 24 (cs := #[.slice A0_0 l0_0.length c0_0]) ?_; intro gb335 hg w2 hbox hb; have BK335 := Aside0.mk hbox; have GW335 := kG HB hg; have GE335 := kG HB hg; replace HB := kH HB hb; clear hb hbox hg) | ((with_reducible refine gate_dst (N := 2) rfl ?_); refine bxE 24 (cs := #[.slice none 0 0]) ?_; intro gb336 hg w3 hbox hb; have BK336 := Aside0.mk hbox; have GW336 := kG HB hg; have GE336 := kG HB hg; replace HB := kH HB hb; have NB335_336 := kL BK335 hg; have NB336_335 := kQ BK335 hg; replace BK335 := kB BK335 hb; clear hb hbox hg) | ((with_reducible refine gate_dst (N := 3) rfl ?_); refine bxE 24 (cs := #[.slice none 0 0]) ?_; intro gb337 hg w4 hbox hb; have BK337 := Aside0.mk hbox; have GW337 := kG HB hg; have GE337 := kG HB hg; replace HB := kH HB hb; have NB335_337 := kL BK335 hg; have NB337_335 := kQ BK335 hg; replace BK335 := kB BK335 hb; have NB336_337 := kL BK336 hg; have NB337_336 := kQ BK336 hg; replace BK336 := kB BK336 hb; clear hb hbox hg; have hnb5 := NB335_336.out; have hnc5 := NB336_335.out; have hnb6 := NB335_337.out; have hnc6 := NB337_335.out; obtain ⟨hcz7_0, hfz7_0⟩ := cY0 BK335))
 go_loopg [9] k (fun kq v9 w' => ∃ (x9_1 : Int) (x338000_1 : List (S28)) (u338000 : Value), v9 = .int .i64 x9_1 ∧ Aside0 (potsherdref12_CopyTree.l0 kq l0_0 (l0_0.length : Int) x9_1 x338000_1 = some r) ∧ Aside0 (kq ≤ k) ∧ Aside0 (Kd.S k28 28 w' w.heap.size (fun _ => True) u338000 x338000_1) ∧ Aside0 (w'.heap[gb335]? = some (.cells #[(.slice A0_0 l0_0.length c0_0)] 24 (0, 0))) ∧ Aside0 (w'.heap[gb336]? = some (.cells #[(.slice none 0 0)] 24 (0, 0))) ∧ Aside0 (w'.heap[gb337]? = some (.cells #[u338000] 24 (0, 0))) ∧ Aside0 (Below w.heap.size w w'))
 case atStart => exact ⟨(0), (([] : List (S28))), (.slice none 0 0), sI, H', ⟨Nat.le_refl _⟩, ⟨by first | exact Kd.S_nil _ _ _ _ _ | exact Kd.N_nil _ _ _ _ _ | exact Kd.V_nil _ _ _ _ _ | exact Kd.Q_nil _ _ _ _ _ | exact Kd.R_nil _ _ _ _ _⟩, ⟨mB BK335⟩, ⟨mB BK336⟩, ⟨mB BK337⟩, ⟨mH HB⟩⟩
 case round =>
  clear H'
  (try clear hcz7_0); (try clear hfz7_0)
  obtain ⟨x9_1, x338000_1, u338000, rfl, HA, HK1, HO_338000, BK335, BK336, BK337, HB⟩ := hrel
  cases gk with
  | zero => exact absurd HA.out (by simp [potsherdref12_CopyTree.l0])
  | succ k1 =>
   have H := HA.out; clear HA; simp only [potsherdref12_CopyTree.l0] at H
   by_cases c8 : x9_1 < (l0_0.length : Int)
   ·
    rw [if_pos c8] at H; have c8b0 := decide_eq_true c8; clear c8
    replace H := nP H; obtain ⟨c9, H⟩ := H; have c9b0 := decide_eq_true c9; clear c9
    replace H := nP H; obtain ⟨c10, H⟩ := H; have c10b0 := decide_eq_true c10; clear c10; replace H := Option.bind_eq_some_iff.mp H; obtain ⟨⟨t340, t341, t342, t343, t346⟩, A110, H⟩ := H; replace H : (if x338000_1.length < 1954687338268 then (potsherdref12_CopyTree.l0 k1 l0_0 (l0_0.length : Int) (wrap64 (x9_1 + 1)) (x338000_1 ++ [(⟨t340, t341, t342, t343, t346⟩ : S28)])) else (none)) = some r := H; have A11 := Aside0.mk A110; clear A110
    replace H := nP H; obtain ⟨c12, H⟩ := H; have LMc12 := Aside0.mk c12; clear c12; obtain ⟨y349, hy349⟩ : ∃ y_ : List (S28), y_ = (x338000_1 ++ [(⟨t340, t341, t342, t343, t346⟩ : S28)]) := ⟨_, rfl⟩
    replace H : (potsherdref12_CopyTree.l0 k1 l0_0 (l0_0.length : Int) (wrap64 (x9_1 + 1)) y349) = some r := rH H hy349
    have Ny349 := Aside0.mk hy349; clear hy349; have H' := Aside0.mk H; clear H; have p338 : 0 ≤ (x9_1 : Int) := dT; have q338 : x9_1 < (l0_0.length : Int) := dT; obtain ⟨ad338, A338_3, c338_3, A338_4, c338_4, e338, hx338_0, hx338_1, hx338_2, hx338_3, hx338_4, hl338_3, hi338_3, hl338_4, hi338_4⟩ := at_T28 HR0_0.out x9_1 p338 q338
    cases e338
    replace hx338_0 := xC HB hx338_0; replace hx338_1 := xC HB hx338_1; replace hx338_2 := xC HB hx338_2; replace hx338_3 := xC HB hx338_3; replace hx338_4 := xC HB hx338_4; have HR338_3 := Aside0.mk hi338_3; have HC338_3 := Aside0.mk hl338_3; clear hi338_3 hl338_3; have HR338_4 := Aside0.mk hi338_4; have HC338_4 := Aside0.mk hl338_4; clear hi338_4 hl338_4; replace p338 := eq_true p338; replace q338 := eq_true q338
    try go_wp2_with (first | ((with_reducible refine gate_dst (N := 5) rfl ?_); refine bxE 28 (cs := #[.int .i64 0, .int .i64 0, .int .i64 0, .slice none 0 0, .slice none 0 0]) ?_; intro gb339 hg w13 hbox hb; replace HO_338000 := Aside0.mk (Kd.S_below (Kd.S_elderB (mS HO_338000) gb339 (Nat.le_of_eq hg.symm)) hb); have BK339 := Aside0.mk hbox; have GW339 := kG HB hg; have GE339 := kG HB hg; replace HB := kH HB hb; have NB335_339 := kL BK335 hg; have NB339_335 := kQ BK335 hg; replace BK335 := kB BK335 hb; have NB336_339 := kL BK336 hg; have NB339_336 := kQ BK336 hg; replace BK336 := kB BK336 hb; have NB337_339 := kL BK337 hg; have NB339_337 := kQ BK337 hg; replace BK337 := kB BK337 hb; clear hb hbox hg; have hnb14 := NB339_335.out; have hnc14 := NB335_339.out; have hnb15 := NB339_336.out; have hnc15 := NB336_339.out; have hnb16 := NB339_337.out; have hnc16 := NB337_339.out; obtain ⟨hcz17_0, hfz17_0⟩ := cY0 BK339; obtain ⟨hcz17_1, hfz17_1⟩ := cY1 BK339; obtain ⟨hcz17_2, hfz17_2⟩ := cY2 BK339; obtain ⟨hcz17_3, hfz17_3⟩ := cY3 BK339; obtain ⟨hcz17_4, hfz17_4⟩ := cY4 BK339))
    obtain ⟨w18, hw_, n_⟩ : ∃ W_, ((((w13.setCell ⟨gb339, 0, none⟩ (.int .i64 ((rd_T28 l0_0 x9_1).f0))).setCell ⟨gb339, 1, none⟩ (.int .i64 ((rd_T28 l0_0 x9_1).f1))).setCell ⟨gb339, 2, none⟩ (.int .i64 ((rd_T28 l0_0 x9_1).f2))).setCell ⟨gb339, 3, none⟩ (.slice A338_3 ((rd_T28 l0_0 x9_1).f3).length c338_3)).setCell ⟨gb339, 4, none⟩ (.slice A338_4 ((rd_T28 l0_0 x9_1).f4).length c338_4) = W_ ∧ Aside0 (Kd.S k28 28 W_ w.heap.size (fun k_ => k_ ≠ gb339) u338000 x338000_1) ∧ Aside0 (W_.heap[gb335]? = some (.cells #[.slice (some ad338) l0_0.length c0_0] 24 (0, 0))) ∧ Aside0 (W_.heap[gb336]? = some (.cells #[.slice none 0 0] 24 (0, 0))) ∧ Aside0 (W_.heap[gb337]? = some (.cells #[u338000] 24 (0, 0))) ∧ Aside0 (W_.heap[gb339]? = some (.cells #[.int .i64 ((rd_T28 l0_0 x9_1).f0), .int .i64 ((rd_T28 l0_0 x9_1).f1), .int .i64 ((rd_T28 l0_0 x9_1).f2), .slice A338_3 ((rd_T28 l0_0 x9_1).f3).length c338_3, .slice A338_4 ((rd_T28 l0_0 x9_1).f4).length c338_4] 28 (0, 0))) ∧ Aside0 (Below w.heap.size w W_) := ⟨_, rfl, ⟨fS HO_338000 (fun _ hk => hk.2)⟩, ⟨mF BK335⟩, ⟨mF BK336⟩, ⟨mF BK337⟩, ⟨pP BK339⟩, ⟨mH HB⟩⟩
    (try clear HO_338000); (try clear BK335); (try clear BK336); (try clear BK337); (try clear BK339); (try clear HB); rewrite [hw_]; clear hw_; obtain ⟨HO_338000, BK335, BK336, BK337, BK339, HB⟩ := n_; replace HO_338000 := Aside0.mk (Kd.S_drew HO_338000.out); replace BK335 := Aside0.mk (bD BK335.out); replace BK336 := Aside0.mk (bD BK336.out); replace BK337 := Aside0.mk (bD BK337.out); replace BK339 := Aside0.mk (bD BK339.out); replace HB := Aside0.mk (wD HB.out); refine start_ (n := 8) (S := fun w' => w'.cell? ⟨gb337, 0, none⟩ = some (u338000) ∧ w'.cell? ⟨gb339, 0, none⟩ = some (.int .i64 ((rd_T28 l0_0 x9_1).f0)) ∧ w'.cell? ⟨gb339, 1, none⟩ = some (.int .i64 ((rd_T28 l0_0 x9_1).f1)) ∧ w'.cell? ⟨gb339, 2, none⟩ = some (.int .i64 ((rd_T28 l0_0 x9_1).f2)) ∧ w'.cell? ⟨gb339, 3, none⟩ = some (.slice A338_3 ((rd_T28 l0_0 x9_1).f3).length c338_3) ∧ w'.cell? ⟨gb339, 4, none⟩ = some (.slice A338_4 ((rd_T28 l0_0 x9_1).f4).length c338_4)) (ds := [7]) B27_0 (by kernel_rfl) rfl rfl ⟨(bC BK337.out 0).trans rfl, (bC BK339.out 0).trans rfl, (bC BK339.out 1).trans rfl, (bC BK339.out 2).trans rfl, (bC BK339.out 3).trans rfl, (bC BK339.out 4).trans rfl⟩ (fun hHeld => ?_); refine with_tabW potsherdref12_CopyTree.tab5 potsherdref12_CopyTree.bits5 (fun HT_ HW_ => ?_); generalize w18.drew = w19 at HO_338000 BK335 BK336 BK337 BK339 HB hHeld ⊢; refine pure_ (i := 0) (N := some 13) (v := ?_) (a' := ?_) B27_1 rfl rfl (any_of HT_.out (by kernel_rfl)) (fun _ _ _ h => h) (Or.inl ⟨by rfl, ?_⟩) ?_ ?_; rotate_left
    ·
     intro w'; go_simp; with_reducible rfl
    rotate_left
    ·
     simp only [Act.put, lT, l0_, lS, i64_w, i32_w]; rfl
    refine take_ (i := 1) (N := some 14) (v := ?_) (a' := ?_) B27_2 rfl rfl (take_ofW HT_.out HW_.out (by kernel_rfl)) (fun _ _ _ h => h) (Or.inl ⟨by rfl, ?_⟩) hHeld ?_ ?_; rotate_left
    ·
     rintro w' ⟨s0, s1, s2, s3, s4, s5⟩; go_simp; with_reducible rfl
    rotate_left
    ·
     simp only [Act.put, lT, l0_, lS, i64_w, i32_w]; rfl
    refine take_ (i := 2) (N := some 15) (v := ?_) (a' := ?_) B27_3 rfl rfl (take_ofW HT_.out HW_.out (by kernel_rfl)) (fun _ _ _ h => h) (Or.inl ⟨by rfl, ?_⟩) hHeld ?_ ?_; rotate_left
    ·
     rintro w' ⟨s0, s1, s2, s3, s4, s5⟩; go_simp; with_reducible rfl
    rotate_left
    ·
     simp only [Act.put, lT, l0_, lS, i64_w, i32_w]; rfl
    refine one_ (i := 3) (N := some 16) B27_4 rfl rfl (one_of HT_.out (by kernel_rfl)) (by decide) (fun K hK => ?_); refine goes_ Try.func26 (by kernel_rfl) rfl #[.agg #[.int .i64 ((rd_T28 l0_0 x9_1).f0), .int .i64 ((rd_T28 l0_0 x9_1).f1), .int .i64 ((rd_T28 l0_0 x9_1).f2), .slice A338_3 ((rd_T28 l0_0 x9_1).f3).length c338_3, .slice A338_4 ((rd_T28 l0_0 x9_1).f4).length c338_4]] (by rfl) rfl rfl (by (try simp only [List.map_toArray, List.map_cons, List.map_nil]); first | done | rfl | (simp only [List.length_drop, List.length_take]; rfl)) ?_
    with_reducible refine (potsherdref12_CopyNode.calls ((rd_T28 l0_0 x9_1).f0) ((rd_T28 l0_0 x9_1).f1) ((rd_T28 l0_0 x9_1).f2) _ _ ((rd_T28 l0_0 x9_1).f3) _ _ ((rd_T28 l0_0 x9_1).f4) t340 t341 t342 t343 t346 _ ?side1 ?side2 ?side3 ?side4 A11.out).mono ?_
    (case side1 => exact mC HR338_3 HB)
    (case side2 => exact HC338_3.out)
    (case side3 => exact mC HR338_4 HB)
    (case side4 => exact HC338_4.out)
    rintro e w20 ⟨v344, v347, rfl, ho0, ho1, hb⟩; refine ⟨_, rfl, ?_⟩; replace HO_338000 := Aside0.mk (Kd.S_mono (Kd.S_told (Kd.S_told (Kd.S_old (mS HO_338000) hb) (Kd.R_base ho0)) (Kd.R_base ho1)) (fun _ h_ => h_.1)); have HO345 := Aside0.mk (Kd.R_lower ho0 (below_size (mH HB))); have HO348 := Aside0.mk (Kd.R_lower ho1 (below_size (mH HB))); replace BK335 := kB BK335 hb; replace BK336 := kB BK336 hb; replace BK337 := kB BK337 hb; replace BK339 := kB BK339 hb; replace HB := kH HB hb
    (try clear hb); (try clear hk); (try clear ho0); (try clear ho1)
    obtain ⟨Ao22, co22, eo22⟩ := Kd.R_slice HO345.out
    (first | subst eo22 | (injection eo22 with f1_ f2_ f3_; have f4_ := f1_.symm; have f5_ := f3_.symm; clear f1_ f2_ f3_; subst f4_; subst f5_))
    obtain ⟨Ao23, co23, eo23⟩ := Kd.R_slice HO348.out
    (first | subst eo23 | (injection eo23 with f1_ f2_ f3_; have f4_ := f1_.symm; have f5_ := f3_.symm; clear f1_ f2_ f3_; subst f4_; subst f5_))
    refine hK.out _ _ ⟨(bC BK337.out 0).trans rfl, (bC BK339.out 0).trans rfl, (bC BK339.out 1).trans rfl, (bC BK339.out 2).trans rfl, (bC BK339.out 3).trans rfl, (bC BK339.out 4).trans rfl⟩ (fun hHeld => ?_); clear hK K; refine norm_ (a' := ?_) ?_ ?_; rotate_left
    ·
     show Act.put _ (some 16) _ = _
     simp only [Act.put, lT, l0_, lS, i64_w, i32_w]; rfl
    refine one_ (i := 4) (N := some 17) B27_5 rfl rfl (one_of HT_.out (by kernel_rfl)) (by decide) (fun K hK => ?_); refine value_ (w1 := ?_) (v := ?_) (by rfl) rfl ?_ ?_; rotate_left 2
    ·
     go_simp
     constructor
     ·
      rfl
     ·
      rfl
    refine hK.out _ _ ⟨(bC (bA BK337.out _) 0).trans rfl, (bC (bA BK339.out _) 0).trans rfl, (bC (bA BK339.out _) 1).trans rfl, (bC (bA BK339.out _) 2).trans rfl, (bC (bA BK339.out _) 3).trans rfl, (bC (bA BK339.out _) 4).trans rfl⟩ (fun hHeld => ?_); clear hK K; refine norm_ (a' := ?_) ?_ ?_; rotate_left
    ·
     show Act.put _ (some 17) _ = _
     simp only [Act.put, lT, l0_, lS, i64_w, i32_w]; rfl
    refine one_ (i := 5) (N := some 18) B27_6 rfl rfl (one_of HT_.out (by kernel_rfl)) (by decide) (fun K hK => ?_); refine Kd.S_append_step k28 (w0 := w) w.heap.size (by rfl) (.tmp 14) (.tmp 17) 22 28 (.agg #[(.int .i64 0), (.int .i64 0), (.int .i64 0), (.slice none 0 0), (.slice none 0 0)]) 72 rfl Try.underlying22 info28 rfl (by decide) (by omega) u338000 x338000_1 (⟨t340, t341, t342, t343, t346⟩ : S28) [.int .i64 t340, .int .i64 t341, .int .i64 t342, .slice Ao22 t343.length co22, .slice Ao23 t346.length co23] (fun k_ => k_ ≠ gb339) (fun k_ => some k_ = (.slice Ao22 t343.length co22 : Value).ownBlock ∨ some k_ = (.slice Ao23 t346.length co23 : Value).ownBlock) rfl rfl ?aP (fun k_ hk_ => hk_.elim (fun h_ => ((Kd.R_mono (ok' := fun k_ => ((fun k_ => k_ ≠ gb339)) k_ ∧ some k_ ≠ (u338000 : Value).ownBlock) (Kd.R_types (Kd.R_apart' (HO345.out) (Kd.S_typed HO_338000.out) (by decide)) BK339.out (by decide)) (fun k_ hk => ⟨hk.2, hk.1.2⟩))).1 k_ h_.symm) (fun h_ => ((Kd.R_mono (ok' := fun k_ => ((fun k_ => k_ ≠ gb339)) k_ ∧ some k_ ≠ (u338000 : Value).ownBlock) (Kd.R_types (Kd.R_apart' (HO348.out) (Kd.S_typed HO_338000.out) (by decide)) BK339.out (by decide)) (fun k_ hk => ⟨hk.2, hk.1.2⟩))).1 k_ h_.symm)) ?aF ?aO ?aB ?aS ?aL ?_
    (case aP => exact k28_mkM _ _ _ (⟨t340, t341, t342, t343, t346⟩ : S28) (Kd.R_mono (Kd.R_tight rfl (Kd.R_mono (ok' := fun k_ => ((fun k_ => k_ ≠ gb339)) k_ ∧ some k_ ≠ (u338000 : Value).ownBlock) (Kd.R_types (Kd.R_apart' (HO345.out) (Kd.S_typed HO_338000.out) (by decide)) BK339.out (by decide)) (fun k_ hk => ⟨hk.2, hk.1.2⟩))) (fun _ h_ => Or.inl h_)) (Kd.R_mono (Kd.R_tight rfl (Kd.R_mono (ok' := fun k_ => ((fun k_ => k_ ≠ gb339)) k_ ∧ some k_ ≠ (u338000 : Value).ownBlock) (Kd.R_types (Kd.R_apart' (HO348.out) (Kd.S_typed HO_338000.out) (by decide)) BK339.out (by decide)) (fun k_ hk => ⟨hk.2, hk.1.2⟩))) (fun _ h_ => Or.inr (h_))))
    (case aB => exact (mH HB))
    (case aF => exact (fun k_ hk => Kd.freshB (g := gb339) (o := .cells #[.int .i64 ((rd_T28 l0_0 x9_1).f0), .int .i64 ((rd_T28 l0_0 x9_1).f1), .int .i64 ((rd_T28 l0_0 x9_1).f2), .slice A338_3 ((rd_T28 l0_0 x9_1).f3).length c338_3, .slice A338_4 ((rd_T28 l0_0 x9_1).f4).length c338_4] 28 (0, 0)) (mB BK339) k_ hk))
    (case aO => exact (by (with_reducible repeat (first | apply Kd.S_alloc | apply Kd.S_drewN | apply Kd.S_drew)); exact Kd.S_mono HO_338000.out (fun k_ hk => ⟨hk.1.1, fun e_ => e_.elim (fun h_ => hk.1.2 h_) (fun h_ => hk.2 h_)⟩)))
    (case aS => exact (below_size (mH HB)))
    (case aL => have := LMc12.out; omega)
    intro v350 w21 ho hb hg hat; rw [← Ny349.out] at ho; replace BK335 := Aside0.mk (blk_grown (g := gb335) (o := .cells #[.slice (some ad338) l0_0.length c0_0] 24 (0, 0)) (mB BK335) hg (Kd.S_ne HO_338000.out BK335.out (by decide))); replace BK336 := Aside0.mk (blk_grown (g := gb336) (o := .cells #[.slice none 0 0] 24 (0, 0)) (mB BK336) hg (Kd.S_ne HO_338000.out BK336.out (by decide))); replace BK337 := Aside0.mk (blk_grown (g := gb337) (o := .cells #[u338000] 24 (0, 0)) (mB BK337) hg (Kd.S_ne HO_338000.out BK337.out (by decide))); replace BK339 := Aside0.mk (blk_grown (g := gb339) (o := .cells #[.int .i64 ((rd_T28 l0_0 x9_1).f0), .int .i64 ((rd_T28 l0_0 x9_1).f1), .int .i64 ((rd_T28 l0_0 x9_1).f2), .slice A338_3 ((rd_T28 l0_0 x9_1).f3).length c338_3, .slice A338_4 ((rd_T28 l0_0 x9_1).f4).length c338_4] 28 (0, 0)) (mB BK339) hg (Kd.S_away HO_338000.out (fun _ hk => hk.1.1))); replace HB := Aside0.mk (hb); have HO351 := Aside0.mk (ho); clear HO_338000 HO345 HO348; clear ho hb hg hat; obtain ⟨Ao24, co24, eo24⟩ := Kd.S_slice HO351.out
    (first | subst eo24 | (injection eo24 with f1_ f2_ f3_; have f4_ := f1_.symm; have f5_ := f3_.symm; clear f1_ f2_ f3_; subst f4_; subst f5_))
    refine hK.out _ _ ⟨(bC BK337.out 0).trans rfl, (bC BK339.out 0).trans rfl, (bC BK339.out 1).trans rfl, (bC BK339.out 2).trans rfl, (bC BK339.out 3).trans rfl, (bC BK339.out 4).trans rfl⟩ (fun hHeld => ?_); clear hK K; refine norm_ (a' := ?_) ?_ ?_; rotate_left
    ·
     show Act.put _ (some 18) _ = _
     simp only [Act.put, lT, l0_, lS, i64_w, i32_w]; rfl
    refine pureE 6 (some 19) B27_7 (any_of HT_.out (by kernel_rfl)) ?_
    refine last_ (i := 7) (N := none) B27_8 rfl rfl (one_of HT_.out (by kernel_rfl)) (by decide) (fun K hK => ?_); have hs25 := cZ0 BK337; have hfs25 := bZ BK337.out 0; have hns25_0 := NB335_337.out; have hns25_1 := NB336_337.out; have hns25_3 := NB339_337.out; have hms25_0 := NB337_335.out; have hms25_1 := NB337_336.out; have hms25_3 := NB337_339.out; refine skip_ (w1 := ?_) (by rfl) rfl ?_ ?_; rotate_left
    ·
     go_simp; rfl
    refine hK.out _ _ ?_; clear hK K; refine done_ (done_of HT_.out (by kernel_rfl)) ?_
    try go_wp2
    go_roundg k1
    case measure => have := HK1.out; omega
    case rel => exact ⟨(wrap64 (x9_1 + 1)), (y349), (.slice Ao24 y349.length co24), sI, H', ⟨oK HK1⟩, ⟨fS ⟨Kd.S_types HO351.out BK337.out (by decide)⟩⟩, ⟨mF BK335⟩, ⟨mF BK336⟩, ⟨pP BK337⟩, ⟨mH HB⟩⟩
   ·
    rw [if_neg c8] at H; have c8b0 := decide_eq_false c8; clear c8; obtain rfl := Option.some.inj H; have hnb26 := NB337_335.out; have hnc26 := NB335_337.out; have hnb27 := NB337_336.out; have hnc27 := NB336_337.out; obtain ⟨hcz28_0, hfz28_0⟩ := cY0 BK337; obtain ⟨Ao29, co29, eo29⟩ := Kd.S_slice HO_338000.out; subst eo29; have hnb30 := NB336_335.out; have hnc30 := NB335_336.out; obtain ⟨hcz31_0, hfz31_0⟩ := cY0 BK336
    go_wp2
    refine bodyPost_ret (results_cell_row rfl _ _ gb336 24 #[.slice Ao29 x338000_1.length co29] (0, 0) _ rfl (pP BK336) Try.underlying24 rfl (by kernel_rfl)) rfl ?_
    exact ⟨_, rT, fS ⟨Kd.S_types HO_338000.out BK336.out (by decide)⟩, mH HB⟩
mutual
def potsherdref12_Split.j0 : Nat → ByteArray → Bool → Option (List ByteArray × Int)
 | 0, _, _ => none
 | k + 1, x0, x19 => if x19 = true then (none) else (if x0.toList = ([47] : List UInt8) then (some (([] : List ByteArray), 0)) else (potsherdref12_Split.l0 k x0 ([] : List ByteArray) 1 1))
def potsherdref12_Split.l0 : Nat → ByteArray → List ByteArray → Int → Int → Option (List ByteArray × Int)
 | 0, _, _, _, _ => none
 | k + 1, x0, x4, x5, x6 => if x6 ≤ (x0.size : Int) then (if x6 < (x0.size : Int) then (if 0 ≤ x6 then (potsherdref12_Split.j2 k x0 x4 x5 x6 ((bt x0 x6) != 47)) else (none)) else (potsherdref12_Split.j2 k x0 x4 x5 x6 false)) else (some (x4, 0))
def potsherdref12_Split.j2 : Nat → ByteArray → List ByteArray → Int → Int → Bool → Option (List ByteArray × Int)
 | 0, _, _, _, _, _ => none
 | k + 1, x0, x4, x5, x6, x37 => if x37 = true then (potsherdref12_Split.l0 k x0 x4 x5 (wrap64 (x6 + 1))) else (if 0 ≤ x5 then (if x5 ≤ x6 then (if x6 ≤ (x0.size : Int) then ((potsherdref12_Name.f k (x0.extract (x5 : Int).toNat (x6 : Int).toNat)).bind fun t352 => (if t352 = true then (if x4.length < 8796093022208 then (potsherdref12_Split.l0 k x0 (x4 ++ [x0.extract (x5 : Int).toNat (x6 : Int).toNat]) (wrap64 (x6 + 1)) (wrap64 (x6 + 1))) else (none)) else (none))) else (none)) else (none)) else (none))
end
def potsherdref12_Split.f (k : Nat) (a0 : ByteArray) : Option (List ByteArray × Int) := if (a0.size : Int) > 60 then (none) else (if (a0.size : Int) < 1 then (none) else (if 0 < (a0.size : Int) then (potsherdref12_Split.j0 k a0 ((bt a0 0) != 47)) else (none)))
theorem potsherdref12_Split.mono_l : ∀ k, (∀ y0 y1, LeO (potsherdref12_Split.j0 k y0 y1) (potsherdref12_Split.j0 (k + 1) y0 y1)) ∧ (∀ y0 y1 y2 y3, LeO (potsherdref12_Split.l0 k y0 y1 y2 y3) (potsherdref12_Split.l0 (k + 1) y0 y1 y2 y3)) ∧ (∀ y0 y1 y2 y3 y4, LeO (potsherdref12_Split.j2 k y0 y1 y2 y3 y4) (potsherdref12_Split.j2 (k + 1) y0 y1 y2 y3 y4))
 | 0 => ⟨fun _ _ r h => by simp [potsherdref12_Split.j0] at h, fun _ _ _ _ r h => by simp [potsherdref12_Split.l0] at h, fun _ _ _ _ _ r h => by simp [potsherdref12_Split.j2] at h⟩
 | k + 1 => by
  obtain ⟨ih0, ih1, ih2⟩ := potsherdref12_Split.mono_l k; refine ⟨?_, ?_, ?_⟩
  ·
   intro y0 y1
   unfold potsherdref12_Split.j0
   repeat' with_reducible first | apply ih0 | apply ih1 | apply ih2 | apply potsherdref12_Name.mono | exact LeO.refl _ | exact LeO.none _ | refine LeO.ite ?_ ?_ | refine LeO.bind ?_ (fun _ => ?_)
  ·
   intro y0 y1 y2 y3
   unfold potsherdref12_Split.l0
   repeat' with_reducible first | apply ih0 | apply ih1 | apply ih2 | apply potsherdref12_Name.mono | exact LeO.refl _ | exact LeO.none _ | refine LeO.ite ?_ ?_ | refine LeO.bind ?_ (fun _ => ?_)
  ·
   intro y0 y1 y2 y3 y4
   unfold potsherdref12_Split.j2
   repeat' with_reducible first | apply ih0 | apply ih1 | apply ih2 | apply potsherdref12_Name.mono | exact LeO.refl _ | exact LeO.none _ | refine LeO.ite ?_ ?_ | refine LeO.bind ?_ (fun _ => ?_)
theorem potsherdref12_Split.mono : ∀ a0 k, LeO (potsherdref12_Split.f k a0) (potsherdref12_Split.f (k + 1) a0) := by
 intro a0 k; obtain ⟨ih0, ih1, ih2⟩ := potsherdref12_Split.mono_l k
 unfold potsherdref12_Split.f
 repeat' with_reducible first | apply ih0 | apply ih1 | apply ih2 | apply potsherdref12_Name.mono | exact LeO.refl _ | exact LeO.none _ | refine LeO.ite ?_ ?_ | refine LeO.bind ?_ (fun _ => ?_)
set_option maxHeartbeats 8000000 in
set_option maxRecDepth 100000 in
theorem potsherdref12_Split.calls (k : Nat) (a0 : ByteArray) (r1 : List ByteArray) (r2 : Int) (w : World) (h : potsherdref12_Split.f k a0 = some (r1, r2)) :
 Calls Try.prog 91 #[.string a0] w fun e w' => ∃ v0_ : Value, e = .returned (.tuple #[v0_, .int .i64 r2]) ∧ Kd.R Kd.string 9 w' w.heap.size (fun _ => True) v0_ r1 ∧ Below w.heap.size w w' := by
 have HB := Aside0.mk (Below.refl w.heap.size w); have H : (if (a0.size : Int) > 60 then (none) else (if (a0.size : Int) < 1 then (none) else (if 0 < (a0.size : Int) then (potsherdref12_Split.j0 k a0 ((bt a0 0) != 47)) else (none)))) = some (r1, r2) := h; clear h; have HC2 := Aside0.mk H; clear H
 go_enter Try.func91, Try.ntmps91
 go_upto_region 1 with (fail)
 go_cut [19] (fun v19 wc => ∃ (kq : Nat) (x19_1 : Bool), v19 = .bool x19_1 ∧ Aside0 (potsherdref12_Split.j0 kq a0 x19_1 = some (r1, r2)) ∧ Aside0 (kq ≤ k) ∧ Aside0 (Below w.heap.size w wc))
 case first =>
  have H := HC2.out; clear HC2
  replace H := nQ H; obtain ⟨c3, H⟩ := H; have c3b0 : decide (60 < (a0.size : Int)) = false := decide_eq_false c3; have c3b1 : decide (60 < a0.size) = false := decide_eq_false (by omega); clear c3
  (first | rw [c3b0] | (simp only [i64_w, i32_w]; rw [c3b0]) | skip)
  replace H := nQ H; obtain ⟨c4, H⟩ := H; have c4b0 := decide_eq_false c4; have c4b1 : decide (a0.size < 1) = false := decide_eq_false (by omega); clear c4
  replace H := nP H; obtain ⟨c5, H⟩ := H; have c5b0 := decide_eq_true c5; have c5b1 : decide (0 < a0.size) = true := decide_eq_true (by omega); clear c5; have H' := Aside0.mk H; clear H; have p6 : 0 ≤ (0 : Int) := (by omega); have q6 : 0 < a0.size := (by have : (0 : Int) < (a0.size : Int) := dT; omega)
  have hx6 : ∀ h : 0 < a0.size, ((a0[0]'h).toNat : Int) = bt a0 0 := bt_at a0 0; clear p6; have qi6 : (0 < (a0.size : Int)) = True := eq_true (dT); replace q6 := eq_true q6
  go_wp2
  go_meet
  case rel => exact ⟨_, (((bt a0 0) != 47)), sI, H', ⟨by first | omega | exact Nat.le_refl _⟩, ⟨mH HB⟩⟩
 case rest =>
  clear HC2
  obtain ⟨kq, x19_1, rfl, HA, HJ1, HB⟩ := hcut
  cases kq with
  | zero => exact absurd HA.out (by simp [potsherdref12_Split.j0])
  | succ kj1 =>
   have H := HA.out; clear HA; simp only [potsherdref12_Split.j0] at H
   by_cases c7 : x19_1 = true
   ·
    subst c7
    have H1 : (none) = some (r1, r2) := by rw [if_pos rfl] at H; exact H
    clear H; have H := H1; clear H1; exact absurd H (by simp)
   ·
    replace c7 := Bool.eq_false_iff.mpr c7; subst c7
    have H1 : (if a0.toList = ([47] : List UInt8) then (some (([] : List ByteArray), 0)) else (potsherdref12_Split.l0 kj1 a0 ([] : List ByteArray) 1 1)) = some (r1, r2) := by rw [if_neg (show ¬ (false = true) by decide)] at H; exact H
    clear H; have H := H1; clear H1
    by_cases c8 : a0.toList = ([47] : List UInt8)
    ·
     rw [if_pos c8] at H; obtain ⟨c8b0, c8b1⟩ := eP c8; clear c8; simp only [Option.some.injEq, Prod.mk.injEq] at H; obtain ⟨rfl, rfl⟩ := H
     go_wp2
     go_ret2
     exact ⟨_, rT, by first | exact Kd.R_nil _ _ _ _ _ | exact Kd.N_nil _ _ _ _ _ | exact Kd.V_nil _ _ _ _ _ | exact Kd.Q_nil _ _ _ _ _ | exact Kd.S_nil _ _ _ _ _, mH HB⟩
    ·
     rw [if_neg c8] at H; obtain ⟨c8b0, c8b1⟩ := eN c8; have H' := Aside0.mk H; clear H
     go_wp2
     go_loopg [4, 5, 6] kj1 (fun kq v4 v5 v6 w' => ∃ (x4_2 : List ByteArray) (x5_2 : Int) (x6_2 : Int), v5 = .int .i64 x5_2 ∧ v6 = .int .i64 x6_2 ∧ Aside0 (potsherdref12_Split.l0 kq a0 x4_2 x5_2 x6_2 = some (r1, r2)) ∧ Aside0 (kq ≤ kj1) ∧ Aside0 (Kd.R Kd.string 9 w' w.heap.size (fun _ => True) v4 x4_2) ∧ Aside0 (Below w.heap.size w w'))
     case atStart => exact ⟨(([] : List ByteArray)), (1), (1), sI, sI, H', ⟨Nat.le_refl _⟩, ⟨by first | exact Kd.R_nil _ _ _ _ _ | exact Kd.N_nil _ _ _ _ _ | exact Kd.V_nil _ _ _ _ _ | exact Kd.Q_nil _ _ _ _ _ | exact Kd.S_nil _ _ _ _ _⟩, ⟨mH HB⟩⟩
     case round =>
      clear H'
      (try clear c7); (try clear c8); (try clear c8b0); (try clear c8b1)
      obtain ⟨x4_2, x5_2, x6_2, rfl, rfl, HA, HK2, HO_4, HB⟩ := hrel
      cases gk with
      | zero => exact absurd HA.out (by simp [potsherdref12_Split.l0])
      | succ k2 =>
       have H := HA.out; clear HA; simp only [potsherdref12_Split.l0] at H
       by_cases c9 : x6_2 ≤ (a0.size : Int)
       ·
        rw [if_pos c9] at H; have c9b0 := decide_eq_true c9; clear c9; have HC10 := Aside0.mk H; clear H
        go_upto_region 10 with (fail)
        go_cut [37] (fun v37 wc => ∃ (kq : Nat) (x37_9 : Bool), v37 = .bool x37_9 ∧ Aside0 (potsherdref12_Split.j2 kq a0 x4_2 x5_2 x6_2 x37_9 = some (r1, r2)) ∧ Aside0 (kq ≤ k2) ∧ Aside0 (Kd.R Kd.string 9 wc w.heap.size (fun _ => True) u4 x4_2) ∧ Aside0 (Below w.heap.size w wc))
        case first =>
         have H := HC10.out; clear HC10
         by_cases c11 : x6_2 < (a0.size : Int)
         ·
          rw [if_pos c11] at H; have c11b0 := decide_eq_true c11; clear c11
          (first | rw [c11b0] | (simp only [i64_w, i32_w]; rw [c11b0]) | skip)
          replace H := nP H; obtain ⟨c12, H⟩ := H; have c12b0 := decide_eq_true c12; clear c12; have H' := Aside0.mk H; clear H; have p13 : 0 ≤ (x6_2 : Int) := dT; have q13 : x6_2 < (a0.size : Int) := dT; have hx13 := bt_at a0 x6_2; replace p13 := eq_true p13; replace q13 := eq_true q13
          go_wp2
          go_meet
          case rel => exact ⟨_, (((bt a0 x6_2) != 47)), sI, H', ⟨by have := HJ1.out; have := HK2.out; first | omega | exact Nat.le_refl _⟩, ⟨mR HO_4⟩, ⟨mH HB⟩⟩
         ·
          rw [if_neg c11] at H; have c11b0 := decide_eq_false c11; clear c11
          (first | rw [c11b0] | (simp only [i64_w, i32_w]; rw [c11b0]) | skip)
          have H' := Aside0.mk H; clear H
          go_wp2
          go_meet
          case rel => exact ⟨_, (false), sI, H', ⟨by have := HJ1.out; have := HK2.out; first | omega | exact Nat.le_refl _⟩, ⟨mR HO_4⟩, ⟨mH HB⟩⟩
        case rest =>
         clear HC10
         (try clear c7); (try clear c8); (try clear c8b0); (try clear c8b1); (try clear c9); (try clear c9b0)
         obtain ⟨kq, x37_9, rfl, HA, HJ9, HO_4, HB⟩ := hcut
         cases kq with
         | zero => exact absurd HA.out (by simp [potsherdref12_Split.j2])
         | succ kj9 =>
          have H := HA.out; clear HA; simp only [potsherdref12_Split.j2] at H
          by_cases c14 : x37_9 = true
          ·
           subst c14
           have H1 : (potsherdref12_Split.l0 kj9 a0 x4_2 x5_2 (wrap64 (x6_2 + 1))) = some (r1, r2) := by rw [if_pos rfl] at H; exact H
           clear H; have H := H1; clear H1; have H' := Aside0.mk H; clear H
           go_wp2
           go_roundg kj9
           case measure => have := HJ1.out; have := HK2.out; have := HJ9.out; omega
           case rel => exact ⟨(x4_2), (x5_2), (wrap64 (x6_2 + 1)), sI, sI, H', ⟨by have := HJ1.out; have := HK2.out; have := HJ9.out; omega⟩, ⟨mR HO_4⟩, ⟨mH HB⟩⟩
          ·
           replace c14 := Bool.eq_false_iff.mpr c14; subst c14
           have H1 : (if 0 ≤ x5_2 then (if x5_2 ≤ x6_2 then (if x6_2 ≤ (a0.size : Int) then ((potsherdref12_Name.f kj9 (a0.extract (x5_2 : Int).toNat (x6_2 : Int).toNat)).bind fun t352 => (if t352 = true then (if x4_2.length < 8796093022208 then (potsherdref12_Split.l0 kj9 a0 (x4_2 ++ [a0.extract (x5_2 : Int).toNat (x6_2 : Int).toNat]) (wrap64 (x6_2 + 1)) (wrap64 (x6_2 + 1))) else (none)) else (none))) else (none)) else (none)) else (none)) = some (r1, r2) := by rw [if_neg (show ¬ (false = true) by decide)] at H; exact H
           clear H; have H := H1; clear H1
           replace H := nP H; obtain ⟨c15, H⟩ := H; have c15b0 := eq_true c15; have c15b1 := decide_eq_true c15; clear c15
           replace H := nP H; obtain ⟨c16, H⟩ := H; have c16b0 := eq_true c16; have c16b1 := decide_eq_true c16; clear c16
           replace H := nP H; obtain ⟨c17, H⟩ := H; have c17b0 := eq_true c17; have c17b1 := decide_eq_true c17; clear c17; replace H := Option.bind_eq_some_iff.mp H; obtain ⟨t352, A180, H⟩ := H; have A18 := Aside0.mk A180; clear A180
           by_cases c19 : t352 = true
           ·
            subst c19
            have H1 : (if x4_2.length < 8796093022208 then (potsherdref12_Split.l0 kj9 a0 (x4_2 ++ [a0.extract (x5_2 : Int).toNat (x6_2 : Int).toNat]) (wrap64 (x6_2 + 1)) (wrap64 (x6_2 + 1))) else (none)) = some (r1, r2) := by rw [if_pos rfl] at H; exact H
            clear H; have H := H1; clear H1; have c20b0 := eq_true (dT : 0 ≤ x5_2); have c21b0 := eq_true (dT : x5_2 ≤ x6_2); have c22b0 := eq_true (dT : x6_2 ≤ (a0.size : Int))
            replace H := nP H; obtain ⟨c23, H⟩ := H; have LMc23 := Aside0.mk c23; clear c23; obtain ⟨y353, hy353⟩ : ∃ y_ : List ByteArray, y_ = (x4_2 ++ [a0.extract (x5_2 : Int).toNat (x6_2 : Int).toNat]) := ⟨_, rfl⟩
            replace H : (potsherdref12_Split.l0 kj9 a0 y353 (wrap64 (x6_2 + 1)) (wrap64 (x6_2 + 1))) = some (r1, r2) := rH H hy353
            have Ny353 := Aside0.mk hy353; clear hy353; have H' := Aside0.mk H; clear H
            go_wp2_with (first | ((with_reducible refine gate_callee (f := 69) rfl ?_); refine goesK (some 42) Try.func69 #[.string (a0.extract (x5_2 : Int).toNat (x6_2 : Int).toNat)] ?_; (with_reducible refine (potsherdref12_Name.calls kj9 (a0.extract (x5_2 : Int).toNat (x6_2 : Int).toNat) true _ A18.out).mono ?_); rintro e w' ⟨rfl, ⟨nd, rfl⟩⟩; refine ⟨_, rfl, ?_⟩) | ((with_reducible refine gate_builtin (b := .append) (xs := #[.tmp 44, .tmp 49]) rfl ?_); (try (refine gate_guard (by rfl) ?_; dsimp only)); at_builtin; refine Kd.R_append Kd.string (w0 := w) w.heap.size rfl (.tmp 44) (.tmp 49) 113 9 (.string ⟨#[]⟩) 16 rfl Try.underlying113 info9 rfl (by decide) (by omega) u4 x4_2 (a0.extract (x5_2 : Int).toNat (x6_2 : Int).toNat) [.string (a0.extract (x5_2 : Int).toNat (x6_2 : Int).toNat)] (fun _ => True) (fun _ => False) rfl rfl ?aP (fun _ hk => hk.elim) ?aF ?aO ?aB ?aS ?aL ?_; (case aP => exact rfl); (case aB => exact (mH HB)); (case aF => exact (fun _ _ => trivial)); (case aO => exact (mR HO_4)); (case aS => exact (below_size (mH HB))); (case aL => have := LMc23.out; omega); intro v354 w24 ho hb hg hat; rw [← Ny353.out] at ho; replace HB := Aside0.mk (hb); have HO355 := Aside0.mk (ho); clear HO_4; clear ho hb hg hat))
            go_roundg kj9
            case measure => have := HJ1.out; have := HK2.out; have := HJ9.out; omega
            case rel => exact ⟨(y353), (wrap64 (x6_2 + 1)), (wrap64 (x6_2 + 1)), sI, sI, H', ⟨by have := HJ1.out; have := HK2.out; have := HJ9.out; omega⟩, ⟨mR HO355⟩, ⟨mH HB⟩⟩
           ·
            replace c19 := Bool.eq_false_iff.mpr c19; subst c19
            have H1 : (none) = some (r1, r2) := by rw [if_neg (show ¬ (false = true) by decide)] at H; exact H
            clear H; have H := H1; clear H1; exact absurd H (by simp)
       ·
        rw [if_neg c9] at H; have c9b0 := decide_eq_false c9; clear c9; simp only [Option.some.injEq, Prod.mk.injEq] at H; obtain ⟨rfl, rfl⟩ := H
        go_wp2
        go_ret2
        exact ⟨_, rT, mR HO_4, mH HB⟩
def potsherdref12_Join.f (k : Nat) (l0 : List ByteArray) : Option (ByteArray) := if (l0.length : Int) = 0 then (some (⟨#[47]⟩ : ByteArray)) else (none)
theorem potsherdref12_Join.mono : ∀ a0 k, LeO (potsherdref12_Join.f k a0) (potsherdref12_Join.f (k + 1) a0) := by
 intro a0 k
 unfold potsherdref12_Join.f
 repeat' with_reducible first | apply potsherdref12_Name.mono | exact LeO.refl _ | exact LeO.none _ | refine LeO.ite ?_ ?_ | refine LeO.bind ?_ (fun _ => ?_)
set_option maxHeartbeats 8000000 in
set_option maxRecDepth 100000 in
theorem potsherdref12_Join.calls (k : Nat) (A0 : Option Addr) (c0 : Nat) (l0 : List ByteArray) (r : ByteArray) (w : World) (hr0 : Kd.C Kd.string w A0 l0.length l0) (hc0 : l0.length ≤ c0) (h : potsherdref12_Join.f k l0 = some r) :
 Calls Try.prog 93 #[.slice A0 l0.length c0] w fun e w' => e = .returned (.string r) ∧ Drawn0 w w' := by
 have HR0 := Aside0.mk hr0; have HC0 := Aside0.mk hc0; clear hr0 hc0; have H : (if (l0.length : Int) = 0 then (some (⟨#[47]⟩ : ByteArray)) else (none)) = some r := h; clear h
 replace H := nP H; obtain ⟨c2, H⟩ := H; obtain ⟨c2b0, c2b1⟩ := eP c2; clear c2; obtain rfl := Option.some.inj H
 go_enter Try.func93, Try.ntmps93
 go_wp2
 go_ret
 exact ⟨sI, by repeat (first | exact Drawn0.refl _ | apply Drawn0.step)⟩
end Go.Proofs.Ytkigiehkckjlhaa.PGrows
