/- The Go functions that these laws reach, each as a Lean function with the same answers (a law itself where it answers true), and the proof that the code comes to them; conditions: those of each theorem. Laid by a program of this session over the print. -/
import Derived.Test.YtkigiehkckjlhaaZGrowsPGrowsShort
import Derived.Test.YtkigiehkckjlhaaZGrowsPGrowsx0
import Derived.Test.YtkigiehkckjlhaaZGrowsPGrowsx11
import Derived.Test.YtkigiehkckjlhaaZGrowsPGrowsx9
namespace Go.Proofs.Ytkigiehkckjlhaa.PGrows
open Go.RowKit Go.Proofs.YtkigiehkckjlhaaW.PrintWords Go.Proofs.YtkigiehkckjlhaaW.PrintLast Go.Proofs.YtkigiehkckjlhaaW.PrintMore
attribute [local go_sem] max2_int min2_int max_two min_two max_three min_three max_four min_four   -- for this text's walks alone
set_option linter.unusedVariables false
set_option linter.unusedSimpArgs false
open Go.Proofs.YtkigiehkckjlhaaW.PrintWords renaming blk_drewN → bN, blk_drew → bD, blk_alloc → bA, below_set → wS, below_alloc → wA, pw_below_drewN → wN, below_drew1 → wD, blk_below → bB, blk_far → bF, blk_cell → bC, blk_frozen → bZ
open List renaming setIfInBounds_toArray → lT, set_cons_zero → l0_, set_cons_succ → lS
abbrev B12_0 : Array Bool := #[false, false, false, false, false, false, false, false, false, false, false, false, false, false, false, false, false, false]
abbrev B12_1 : Array Bool := B12_0.set! 0 true
abbrev B12_2 : Array Bool := B12_1.set! 1 true
abbrev B12_3 : Array Bool := B12_2.set! 2 true
abbrev B12_4 : Array Bool := B12_3.set! 3 true
abbrev B12_5 : Array Bool := B12_4.set! 4 true
abbrev B12_6 : Array Bool := B12_5.set! 5 true
abbrev B12_7 : Array Bool := B12_6.set! 6 true
abbrev B12_8 : Array Bool := B12_7.set! 7 true
abbrev B12_9 : Array Bool := B12_8.set! 8 true
abbrev B12_10 : Array Bool := B12_9.set! 9 true
abbrev B12_11 : Array Bool := B12_10.set! 10 true
abbrev B12_12 : Array Bool := B12_11.set! 11 true
abbrev B12_13 : Array Bool := B12_12.set! 13 true
abbrev B12_14 : Array Bool := B12_13.set! 12 true
abbrev B12_15 : Array Bool := B12_14.set! 14 true
abbrev B12_16 : Array Bool := B12_15.set! 15 true
abbrev B12_17 : Array Bool := B12_16.set! 16 true
abbrev B12_18 : Array Bool := B12_17.set! 17 true
abbrev B12_19 : Array Bool := B12_12.set! 12 true
def name_May.l0 : Nat → List (S78) → List (S78) → Int → Int → Option (Bool)
 | 0, _, _, _, _ => none
 | k + 1, x0, x5, x6, x7 => if x7 < x6 then (if 0 ≤ x7 then (if x7 < (x5.length : Int) then ((name_sole.f k ((rd_T78 x5 x7).f0) ((rd_T78 x5 x7).f1)).bind fun t143 => (if t143 = true then (if x7 > 0 then (if 0 ≤ (wrap64 (x7 - 1)) then (if (wrap64 (x7 - 1)) < (x0.length : Int) then (if ((Op.bytesLess (((rd_T78 x0 (wrap64 (x7 - 1))).f0).toList) (((rd_T78 x5 x7).f0).toList)) = true) then (name_May.l0 k x0 x5 x6 (wrap64 (x7 + 1))) else (some false)) else (none)) else (none)) else (name_May.l0 k x0 x5 x6 (wrap64 (x7 + 1)))) else (some false))) else (none)) else (none)) else (some (decide ((x0.length : Int) ≤ 10)))
def name_May.f (k : Nat) (l0 : List (S78)) : Option (Bool) := name_May.l0 k l0 l0 (l0.length : Int) 0
theorem name_May.mono_l : ∀ k, (∀ y0 y1 y2 y3, LeO (name_May.l0 k y0 y1 y2 y3) (name_May.l0 (k + 1) y0 y1 y2 y3))
 | 0 => fun _ _ _ _ r h => by simp [name_May.l0] at h
 | k + 1 => by
  have ih0 := name_May.mono_l k
  ·
   intro y0 y1 y2 y3
   unfold name_May.l0
   repeat' with_reducible first | apply ih0 | apply name_sole.mono | exact LeO.refl _ | exact LeO.none _ | refine LeO.ite ?_ ?_ | refine LeO.bind ?_ (fun _ => ?_)
theorem name_May.mono : ∀ a0 k, LeO (name_May.f k a0) (name_May.f (k + 1) a0) := by
 intro a0 k; have ih0 := name_May.mono_l k
 unfold name_May.f
 repeat' with_reducible first | apply ih0 | apply name_sole.mono | exact LeO.refl _ | exact LeO.none _ | refine LeO.ite ?_ ?_ | refine LeO.bind ?_ (fun _ => ?_)
def name_May.T4 : Bool × List (List Nat × List Nat) := (true, [([], []), ([0], [0]), ([1], [1]), ([2, 1], [2]), ([3], [3]), ([4, 3], [3, 4]), ([5, 3, 3], [3, 5]), ([6], [6]), ([6], [6]), ([8, 6], [6, 8]), ([7, 9, 6], [6, 7, 9]), ([10, 6], [6, 10]), ([11, 6], [6, 11]), ([6], [6]), ([13, 6], [6, 13]), ([12, 14, 6], [6, 12, 14]), ([6, 15, 3], [3, 6, 15]), ([3, 16], [3, 16])])
def name_May.B4 : List Nat := [0, 1, 3, 7, 15, 31, 63, 127, 127, 383, 1023, 2047, 4095, 127, 8319, 32767, 65535, 131071]
theorem name_May.tab4 : rtab .any (opsOf Try.f68 4) = name_May.T4 := by kernel_rfl
theorem name_May.bits4 : waitsOk name_May.T4.2 name_May.B4 = true := by kernel_rfl
set_option maxHeartbeats 8000000 in
set_option maxRecDepth 100000 in
theorem name_May.calls (k : Nat) (A0 : Option Addr) (c0 : Nat) (l0 : List (S78)) (r : Bool) (w : World) (hr0 : Kd.C k78 w A0 l0.length l0) (hc0 : l0.length ≤ c0) (h : name_May.f k l0 = some r) :
 Calls Try.prog 68 #[.slice A0 l0.length c0] w fun e w' => e = .returned (.bool r) ∧ Below w.heap.size w w' := by
 have hu78 := Try.underlying78; have HR0 := Aside0.mk hr0; have HC0 := Aside0.mk hc0; clear hr0 hc0; have HB := Aside0.mk (Below.refl w.heap.size w); have H : (name_May.l0 k l0 l0 (l0.length : Int) 0) = some r := h; clear h; have H' := Aside0.mk H; clear H
 go_enter Try.func68, Try.ntmps68
 go_wp2
 go_loopg [7] k (fun kq v7 w' => ∃ (x7_1 : Int), v7 = .int .i64 x7_1 ∧ Aside0 (name_May.l0 kq l0 l0 (l0.length : Int) x7_1 = some r) ∧ Aside0 (kq ≤ k) ∧ Aside0 (Below w.heap.size w w'))
 case atStart => exact ⟨(0), sI, H', ⟨Nat.le_refl _⟩, ⟨mH HB⟩⟩
 case round =>
  clear H'; obtain ⟨x7_1, rfl, HA, HK1, HB⟩ := hrel
  cases gk with
  | zero => exact absurd HA.out (by simp [name_May.l0])
  | succ k1 =>
   have H := HA.out; clear HA; simp only [name_May.l0] at H
   by_cases c2 : x7_1 < (l0.length : Int)
   ·
    rw [if_pos c2] at H; have c2b0 := decide_eq_true c2; clear c2
    replace H := nP H; obtain ⟨c3, H⟩ := H; have c3b0 := decide_eq_true c3; clear c3
    replace H := nP H; obtain ⟨c4, H⟩ := H; have c4b0 := decide_eq_true c4; clear c4; replace H := Option.bind_eq_some_iff.mp H; obtain ⟨t143, A50, H⟩ := H; have A5 := Aside0.mk A50; clear A50
    by_cases c6 : t143 = true
    ·
     subst c6
     have H1 : (if x7_1 > 0 then (if 0 ≤ (wrap64 (x7_1 - 1)) then (if (wrap64 (x7_1 - 1)) < (l0.length : Int) then (if ((Op.bytesLess (((rd_T78 l0 (wrap64 (x7_1 - 1))).f0).toList) (((rd_T78 l0 x7_1).f0).toList)) = true) then (name_May.l0 k1 l0 l0 (l0.length : Int) (wrap64 (x7_1 + 1))) else (some false)) else (none)) else (none)) else (name_May.l0 k1 l0 l0 (l0.length : Int) (wrap64 (x7_1 + 1)))) = some r := by rw [if_pos rfl] at H; exact H
     clear H; have H := H1; clear H1
     by_cases c7 : x7_1 > 0
     ·
      rw [if_pos c7] at H; have c7b0 : decide (0 < x7_1) = true := decide_eq_true c7; clear c7; obtain ⟨ji8, hji8⟩ : ∃ j_ : Int, (wrap64 (x7_1 - 1)) = j_ := ⟨_, rfl⟩
      replace H : (if 0 ≤ (ji8) then (if (ji8) < (l0.length : Int) then (if ((Op.bytesLess (((rd_T78 l0 (ji8)).f0).toList) (((rd_T78 l0 x7_1).f0).toList)) = true) then (name_May.l0 k1 l0 l0 (l0.length : Int) (wrap64 (x7_1 + 1))) else (some false)) else (none)) else (none)) = some r := by first | (rw [hji8] at H; exact H) | (simp only [hji8] at H ⊢; exact H)
      (try rw [hji8] at A5)
      have hji8w : (IntKind.i64.wrap (x7_1 - 1)) = ji8 := (i64_w _).trans hji8
      replace H := nP H; obtain ⟨c9, H⟩ := H; have c9b0 := decide_eq_true c9; clear c9
      replace H := nP H; obtain ⟨c10, H⟩ := H; have c10b0 := decide_eq_true c10; clear c10
      by_cases c11 : ((Op.bytesLess (((rd_T78 l0 (ji8)).f0).toList) (((rd_T78 l0 x7_1).f0).toList)) = true)
      ·
       rw [if_pos c11] at H; have c11b0 : (Op.bytesLess (((rd_T78 l0 (ji8)).f0).toList) (((rd_T78 l0 x7_1).f0).toList)) = true := c11; clear c11; have H' := Aside0.mk H; clear H; have p141 : 0 ≤ (x7_1 : Int) := dT; have q141 : x7_1 < (l0.length : Int) := dT; obtain ⟨ad141, e141, hx141_0, hx141_1⟩ := at_T78 HR0.out x7_1 p141 q141
       cases e141
       replace hx141_0 := xC HB hx141_0; replace hx141_1 := xC HB hx141_1; replace p141 := eq_true p141; replace q141 := eq_true q141
       try go_wp2_with (first | ((with_reducible refine gate_dst (N := 4) rfl ?_); refine bxE 78 (cs := #[.string (⟨#[]⟩ : ByteArray), .int .i64 0]) ?_; intro gb142 hg w12 hbox hb; have BK142 := Aside0.mk hbox; have GW142 := kG HB hg; have GE142 := kG HB hg; replace HB := kH HB hb; clear hb hbox hg; obtain ⟨hcz13_0, hfz13_0⟩ := cY0 BK142; obtain ⟨hcz13_1, hfz13_1⟩ := cY1 BK142))
       obtain ⟨w14, hw_, n_⟩ : ∃ W_, (w12.setCell ⟨gb142, 0, none⟩ (.string ((rd_T78 l0 x7_1).f0))).setCell ⟨gb142, 1, none⟩ (.int .i64 ((rd_T78 l0 x7_1).f1)) = W_ ∧ Aside0 (W_.heap[gb142]? = some (.cells #[.string ((rd_T78 l0 x7_1).f0), .int .i64 ((rd_T78 l0 x7_1).f1)] 78 (0, 0))) ∧ Aside0 (Below w.heap.size w W_) := ⟨_, rfl, ⟨pP BK142⟩, ⟨mH HB⟩⟩
       (try clear BK142); (try clear HB); rewrite [hw_]; clear hw_; obtain ⟨BK142, HB⟩ := n_; replace BK142 := Aside0.mk (bD BK142.out); replace HB := Aside0.mk (wD HB.out); have p144 : 0 ≤ ((ji8) : Int) := dT; have q144 : (ji8) < (l0.length : Int) := dT; obtain ⟨ad144, e144, hx144_0, hx144_1⟩ := at_T78 HR0.out (ji8) p144 q144; have hw144_1 := hx144_1; have hw144_0 := hx144_0; obtain rfl : ad141 = ad144 := (by injection e144); replace hx144_0 := xC HB hx144_0; replace hx144_1 := xC HB hx144_1; replace p144 := eq_true p144; replace q144 := eq_true q144; refine start_ (n := 18) (S := fun w' => w'.cell? ⟨gb142, 0, none⟩ = some (.string ((rd_T78 l0 x7_1).f0)) ∧ w'.cell? ⟨gb142, 1, none⟩ = some (.int .i64 ((rd_T78 l0 x7_1).f1)) ∧ w'.cell? (ad141.add (((ji8)).toNat * 2)) = some (.string ((rd_T78 l0 (ji8)).f0)) ∧ w'.cell? ⟨(ad141.add (((ji8)).toNat * 2)).block, (ad141.add (((ji8)).toNat * 2)).off + 1, none⟩ = some (.int .i64 ((rd_T78 l0 (ji8)).f1))) (ds := []) B12_0 (by kernel_rfl) rfl rfl ⟨(bC BK142.out 0).trans rfl, (bC BK142.out 1).trans rfl, (xC HB hw144_0), (xC HB hw144_1)⟩ (fun hHeld => ?_); refine with_tabW name_May.tab4 name_May.bits4 (fun HT_ HW_ => ?_); generalize w14.drew = w15 at BK142 HB hx144_0 hx144_1 hHeld ⊢; refine take_ (i := 0) (N := some 12) (v := ?_) (a' := ?_) B12_1 rfl rfl (take_ofW HT_.out HW_.out (by kernel_rfl)) (fun _ _ _ h => h) (Or.inl ⟨by rfl, ?_⟩) hHeld ?_ ?_; rotate_left
       ·
        rintro w' ⟨s0, s1, s2, s3⟩; go_simp; with_reducible rfl
       rotate_left
       ·
        simp only [Act.put, lT, l0_, lS, i64_w, i32_w]; rfl
       refine one_ (i := 1) (N := some 13) B12_2 rfl rfl (one_of HT_.out (by kernel_rfl)) (by decide) (fun K hK => ?_); refine goes_ Try.func82 (by kernel_rfl) rfl #[.agg #[.string ((rd_T78 l0 x7_1).f0), .int .i64 ((rd_T78 l0 x7_1).f1)]] (by rfl) rfl rfl (by (try simp only [List.map_toArray, List.map_cons, List.map_nil]); first | done | rfl | (simp only [List.length_drop, List.length_take]; rfl)) ?_
       with_reducible refine (name_sole.calls k1 ((rd_T78 l0 x7_1).f0) ((rd_T78 l0 x7_1).f1) true _ A5.out).mono ?_
       rintro e w16 ⟨rfl, hb⟩; refine ⟨_, rfl, ?_⟩; replace BK142 := kB BK142 hb; replace HB := kH HB hb
       (try clear hb)
       refine hK.out _ _ ⟨(bC BK142.out 0).trans rfl, (bC BK142.out 1).trans rfl, (xC HB hw144_0), (xC HB hw144_1)⟩ (fun hHeld => ?_); clear hK K; refine norm_ (a' := ?_) ?_ ?_; rotate_left
       ·
        show Act.put _ (some 13) _ = _
        simp only [Act.put, lT, l0_, lS, i64_w, i32_w]; rfl
       refine pureE 2 (some 14) B12_3 (any_of HT_.out (by kernel_rfl)) ?_
       refine pureE 3 (some 15) B12_4 (any_of HT_.out (by kernel_rfl)) ?_
       refine pureE 4 (some 16) B12_5 (any_of HT_.out (by kernel_rfl)) ?_
       refine pureE 5 (some 17) B12_6 (any_of HT_.out (by kernel_rfl)) ?_
       refine pureE 6 (some 18) B12_7 (any_of HT_.out (by kernel_rfl)) ?_
       refine pureE 7 (some 19) B12_8 (any_of HT_.out (by kernel_rfl)) ?_
       refine pureE 8 (some 20) B12_9 (any_of HT_.out (by kernel_rfl)) ?_
       refine pureE 9 (some 21) B12_10 (any_of HT_.out (by kernel_rfl)) ?_
       refine pureE 10 (some 22) B12_11 (any_of HT_.out (by kernel_rfl)) ?_
       refine pureE 11 (some 23) B12_12 (any_of HT_.out (by kernel_rfl)) ?_
       refine pureE 13 (some 25) B12_13 (any_of HT_.out (by kernel_rfl)) ?_
       refine take_ (i := 12) (N := some 24) (v := ?_) (a' := ?_) B12_14 rfl rfl (take_ofW HT_.out HW_.out (by kernel_rfl)) (fun _ _ _ h => h) (Or.inl ⟨by rfl, ?_⟩) hHeld ?_ ?_; rotate_left
       ·
        rintro w' ⟨s0, s1, s2, s3⟩; go_simp; with_reducible rfl
       rotate_left
       ·
        simp only [Act.put, lT, l0_, lS, i64_w, i32_w]; rfl
       refine take_ (i := 14) (N := some 26) (v := ?_) (a' := ?_) B12_15 rfl rfl (take_ofW HT_.out HW_.out (by kernel_rfl)) (fun _ _ _ h => h) (Or.inl ⟨by rfl, ?_⟩) hHeld ?_ ?_; rotate_left
       ·
        rintro w' ⟨s0, s1, s2, s3⟩; go_simp; with_reducible rfl
       rotate_left
       ·
        simp only [Act.put, lT, l0_, lS, i64_w, i32_w]; rfl
       refine pureE 15 (some 27) B12_16 (any_of HT_.out (by kernel_rfl)) ?_
       refine pureE 16 (some 28) B12_17 (any_of HT_.out (by kernel_rfl)) ?_
       refine pureE 17 (some 29) B12_18 (any_of HT_.out (by kernel_rfl)) ?_
       refine done_ (done_of HT_.out (by kernel_rfl)) ?_
       try go_wp2
       go_roundg k1
       case measure => have := HK1.out; omega
       case rel => exact ⟨(wrap64 (x7_1 + 1)), sI, H', ⟨oK HK1⟩, ⟨mH HB⟩⟩
      ·
       rw [if_neg c11] at H
       have c11b0 : (Op.bytesLess (((rd_T78 l0 (ji8)).f0).toList) (((rd_T78 l0 x7_1).f0).toList)) = false := by simpa using c11
       clear c11; obtain rfl := Option.some.inj H; have p141 : 0 ≤ (x7_1 : Int) := dT; have q141 : x7_1 < (l0.length : Int) := dT; obtain ⟨ad141, e141, hx141_0, hx141_1⟩ := at_T78 HR0.out x7_1 p141 q141
       cases e141
       replace hx141_0 := xC HB hx141_0; replace hx141_1 := xC HB hx141_1; replace p141 := eq_true p141; replace q141 := eq_true q141
       try go_wp2_with (first | ((with_reducible refine gate_dst (N := 4) rfl ?_); refine bxE 78 (cs := #[.string (⟨#[]⟩ : ByteArray), .int .i64 0]) ?_; intro gb142 hg w17 hbox hb; have BK142 := Aside0.mk hbox; have GW142 := kG HB hg; have GE142 := kG HB hg; replace HB := kH HB hb; clear hb hbox hg; obtain ⟨hcz18_0, hfz18_0⟩ := cY0 BK142; obtain ⟨hcz18_1, hfz18_1⟩ := cY1 BK142))
       obtain ⟨w19, hw_, n_⟩ : ∃ W_, (w17.setCell ⟨gb142, 0, none⟩ (.string ((rd_T78 l0 x7_1).f0))).setCell ⟨gb142, 1, none⟩ (.int .i64 ((rd_T78 l0 x7_1).f1)) = W_ ∧ Aside0 (W_.heap[gb142]? = some (.cells #[.string ((rd_T78 l0 x7_1).f0), .int .i64 ((rd_T78 l0 x7_1).f1)] 78 (0, 0))) ∧ Aside0 (Below w.heap.size w W_) := ⟨_, rfl, ⟨pP BK142⟩, ⟨mH HB⟩⟩
       (try clear BK142); (try clear HB); rewrite [hw_]; clear hw_; obtain ⟨BK142, HB⟩ := n_; replace BK142 := Aside0.mk (bD BK142.out); replace HB := Aside0.mk (wD HB.out); have p144 : 0 ≤ ((ji8) : Int) := dT; have q144 : (ji8) < (l0.length : Int) := dT; obtain ⟨ad144, e144, hx144_0, hx144_1⟩ := at_T78 HR0.out (ji8) p144 q144; have hw144_1 := hx144_1; have hw144_0 := hx144_0; obtain rfl : ad141 = ad144 := (by injection e144); replace hx144_0 := xC HB hx144_0; replace hx144_1 := xC HB hx144_1; replace p144 := eq_true p144; replace q144 := eq_true q144; refine start_ (n := 18) (S := fun w' => w'.cell? ⟨gb142, 0, none⟩ = some (.string ((rd_T78 l0 x7_1).f0)) ∧ w'.cell? ⟨gb142, 1, none⟩ = some (.int .i64 ((rd_T78 l0 x7_1).f1)) ∧ w'.cell? (ad141.add (((ji8)).toNat * 2)) = some (.string ((rd_T78 l0 (ji8)).f0)) ∧ w'.cell? ⟨(ad141.add (((ji8)).toNat * 2)).block, (ad141.add (((ji8)).toNat * 2)).off + 1, none⟩ = some (.int .i64 ((rd_T78 l0 (ji8)).f1))) (ds := []) B12_0 (by kernel_rfl) rfl rfl ⟨(bC BK142.out 0).trans rfl, (bC BK142.out 1).trans rfl, (xC HB hw144_0), (xC HB hw144_1)⟩ (fun hHeld => ?_); refine with_tabW name_May.tab4 name_May.bits4 (fun HT_ HW_ => ?_); generalize w19.drew = w20 at BK142 HB hx144_0 hx144_1 hHeld ⊢; refine take_ (i := 0) (N := some 12) (v := ?_) (a' := ?_) B12_1 rfl rfl (take_ofW HT_.out HW_.out (by kernel_rfl)) (fun _ _ _ h => h) (Or.inl ⟨by rfl, ?_⟩) hHeld ?_ ?_; rotate_left
       ·
        rintro w' ⟨s0, s1, s2, s3⟩; go_simp; with_reducible rfl
       rotate_left
       ·
        simp only [Act.put, lT, l0_, lS, i64_w, i32_w]; rfl
       refine one_ (i := 1) (N := some 13) B12_2 rfl rfl (one_of HT_.out (by kernel_rfl)) (by decide) (fun K hK => ?_); refine goes_ Try.func82 (by kernel_rfl) rfl #[.agg #[.string ((rd_T78 l0 x7_1).f0), .int .i64 ((rd_T78 l0 x7_1).f1)]] (by rfl) rfl rfl (by (try simp only [List.map_toArray, List.map_cons, List.map_nil]); first | done | rfl | (simp only [List.length_drop, List.length_take]; rfl)) ?_
       with_reducible refine (name_sole.calls k1 ((rd_T78 l0 x7_1).f0) ((rd_T78 l0 x7_1).f1) true _ A5.out).mono ?_
       rintro e w21 ⟨rfl, hb⟩; refine ⟨_, rfl, ?_⟩; replace BK142 := kB BK142 hb; replace HB := kH HB hb
       (try clear hb)
       refine hK.out _ _ ⟨(bC BK142.out 0).trans rfl, (bC BK142.out 1).trans rfl, (xC HB hw144_0), (xC HB hw144_1)⟩ (fun hHeld => ?_); clear hK K; refine norm_ (a' := ?_) ?_ ?_; rotate_left
       ·
        show Act.put _ (some 13) _ = _
        simp only [Act.put, lT, l0_, lS, i64_w, i32_w]; rfl
       refine pureE 2 (some 14) B12_3 (any_of HT_.out (by kernel_rfl)) ?_
       refine pureE 3 (some 15) B12_4 (any_of HT_.out (by kernel_rfl)) ?_
       refine pureE 4 (some 16) B12_5 (any_of HT_.out (by kernel_rfl)) ?_
       refine pureE 5 (some 17) B12_6 (any_of HT_.out (by kernel_rfl)) ?_
       refine pureE 6 (some 18) B12_7 (any_of HT_.out (by kernel_rfl)) ?_
       refine pureE 7 (some 19) B12_8 (any_of HT_.out (by kernel_rfl)) ?_
       refine pureE 8 (some 20) B12_9 (any_of HT_.out (by kernel_rfl)) ?_
       refine pureE 9 (some 21) B12_10 (any_of HT_.out (by kernel_rfl)) ?_
       refine pureE 10 (some 22) B12_11 (any_of HT_.out (by kernel_rfl)) ?_
       refine pureE 11 (some 23) B12_12 (any_of HT_.out (by kernel_rfl)) ?_
       refine pureE 13 (some 25) B12_13 (any_of HT_.out (by kernel_rfl)) ?_
       refine take_ (i := 12) (N := some 24) (v := ?_) (a' := ?_) B12_14 rfl rfl (take_ofW HT_.out HW_.out (by kernel_rfl)) (fun _ _ _ h => h) (Or.inl ⟨by rfl, ?_⟩) hHeld ?_ ?_; rotate_left
       ·
        rintro w' ⟨s0, s1, s2, s3⟩; go_simp; with_reducible rfl
       rotate_left
       ·
        simp only [Act.put, lT, l0_, lS, i64_w, i32_w]; rfl
       refine take_ (i := 14) (N := some 26) (v := ?_) (a' := ?_) B12_15 rfl rfl (take_ofW HT_.out HW_.out (by kernel_rfl)) (fun _ _ _ h => h) (Or.inl ⟨by rfl, ?_⟩) hHeld ?_ ?_; rotate_left
       ·
        rintro w' ⟨s0, s1, s2, s3⟩; go_simp; with_reducible rfl
       rotate_left
       ·
        simp only [Act.put, lT, l0_, lS, i64_w, i32_w]; rfl
       refine pureE 15 (some 27) B12_16 (any_of HT_.out (by kernel_rfl)) ?_
       refine pureE 16 (some 28) B12_17 (any_of HT_.out (by kernel_rfl)) ?_
       refine pureE 17 (some 29) B12_18 (any_of HT_.out (by kernel_rfl)) ?_
       refine done_ (done_of HT_.out (by kernel_rfl)) ?_
       try go_wp2
       go_ret
       exact ⟨by first | rfl | exact congrArg (fun b_ => Ending.returned (Value.bool b_)) HRET.out | (rw [HRET.out]) | (simp [errW_none, errW_some] <;> rfl) | (simp only [← hji8]; first | rfl | (simp [errW_none, errW_some] <;> rfl)) | (simp [*, errW_none, errW_some] <;> rfl), mH HB⟩
     ·
      rw [if_neg c7] at H; have c7b0 : decide (0 < x7_1) = false := decide_eq_false c7; clear c7; have H' := Aside0.mk H; clear H; have p141 : 0 ≤ (x7_1 : Int) := dT; have q141 : x7_1 < (l0.length : Int) := dT; obtain ⟨ad141, e141, hx141_0, hx141_1⟩ := at_T78 HR0.out x7_1 p141 q141
      cases e141
      replace hx141_0 := xC HB hx141_0; replace hx141_1 := xC HB hx141_1; replace p141 := eq_true p141; replace q141 := eq_true q141
      try go_wp2_with (first | ((with_reducible refine gate_dst (N := 4) rfl ?_); refine bxE 78 (cs := #[.string (⟨#[]⟩ : ByteArray), .int .i64 0]) ?_; intro gb142 hg w22 hbox hb; have BK142 := Aside0.mk hbox; have GW142 := kG HB hg; have GE142 := kG HB hg; replace HB := kH HB hb; clear hb hbox hg; obtain ⟨hcz23_0, hfz23_0⟩ := cY0 BK142; obtain ⟨hcz23_1, hfz23_1⟩ := cY1 BK142))
      obtain ⟨w24, hw_, n_⟩ : ∃ W_, (w22.setCell ⟨gb142, 0, none⟩ (.string ((rd_T78 l0 x7_1).f0))).setCell ⟨gb142, 1, none⟩ (.int .i64 ((rd_T78 l0 x7_1).f1)) = W_ ∧ Aside0 (W_.heap[gb142]? = some (.cells #[.string ((rd_T78 l0 x7_1).f0), .int .i64 ((rd_T78 l0 x7_1).f1)] 78 (0, 0))) ∧ Aside0 (Below w.heap.size w W_) := ⟨_, rfl, ⟨pP BK142⟩, ⟨mH HB⟩⟩
      (try clear BK142); (try clear HB); rewrite [hw_]; clear hw_; obtain ⟨BK142, HB⟩ := n_; replace BK142 := Aside0.mk (bD BK142.out); replace HB := Aside0.mk (wD HB.out); refine start_ (n := 18) (S := fun w' => w'.cell? ⟨gb142, 0, none⟩ = some (.string ((rd_T78 l0 x7_1).f0)) ∧ w'.cell? ⟨gb142, 1, none⟩ = some (.int .i64 ((rd_T78 l0 x7_1).f1))) (ds := []) B12_0 (by kernel_rfl) rfl rfl ⟨(bC BK142.out 0).trans rfl, (bC BK142.out 1).trans rfl⟩ (fun hHeld => ?_); refine with_tabW name_May.tab4 name_May.bits4 (fun HT_ HW_ => ?_); generalize w24.drew = w25 at BK142 HB hHeld ⊢; refine take_ (i := 0) (N := some 12) (v := ?_) (a' := ?_) B12_1 rfl rfl (take_ofW HT_.out HW_.out (by kernel_rfl)) (fun _ _ _ h => h) (Or.inl ⟨by rfl, ?_⟩) hHeld ?_ ?_; rotate_left
      ·
       rintro w' ⟨s0, s1⟩; go_simp; with_reducible rfl
      rotate_left
      ·
       simp only [Act.put, lT, l0_, lS, i64_w, i32_w]; rfl
      refine one_ (i := 1) (N := some 13) B12_2 rfl rfl (one_of HT_.out (by kernel_rfl)) (by decide) (fun K hK => ?_); refine goes_ Try.func82 (by kernel_rfl) rfl #[.agg #[.string ((rd_T78 l0 x7_1).f0), .int .i64 ((rd_T78 l0 x7_1).f1)]] (by rfl) rfl rfl (by (try simp only [List.map_toArray, List.map_cons, List.map_nil]); first | done | rfl | (simp only [List.length_drop, List.length_take]; rfl)) ?_
      with_reducible refine (name_sole.calls k1 ((rd_T78 l0 x7_1).f0) ((rd_T78 l0 x7_1).f1) true _ A5.out).mono ?_
      rintro e w26 ⟨rfl, hb⟩; refine ⟨_, rfl, ?_⟩; replace BK142 := kB BK142 hb; replace HB := kH HB hb
      (try clear hb)
      refine hK.out _ _ ⟨(bC BK142.out 0).trans rfl, (bC BK142.out 1).trans rfl⟩ (fun hHeld => ?_); clear hK K; refine norm_ (a' := ?_) ?_ ?_; rotate_left
      ·
       show Act.put _ (some 13) _ = _
       simp only [Act.put, lT, l0_, lS, i64_w, i32_w]; rfl
      refine pureE 2 (some 14) B12_3 (any_of HT_.out (by kernel_rfl)) ?_
      refine pureE 3 (some 15) B12_4 (any_of HT_.out (by kernel_rfl)) ?_
      refine pureE 4 (some 16) B12_5 (any_of HT_.out (by kernel_rfl)) ?_
      refine pureE 5 (some 17) B12_6 (any_of HT_.out (by kernel_rfl)) ?_
      refine pureE 6 (some 18) B12_7 (any_of HT_.out (by kernel_rfl)) ?_
      refine pureU 7 (some 19) B12_8 (any_of HT_.out (by kernel_rfl)) ?_
      refine pureU 8 (some 20) B12_9 (any_of HT_.out (by kernel_rfl)) ?_
      refine pureU 9 (some 21) B12_10 (any_of HT_.out (by kernel_rfl)) ?_
      refine pureU 10 (some 22) B12_11 (any_of HT_.out (by kernel_rfl)) ?_
      refine pureU 11 (some 23) B12_12 (any_of HT_.out (by kernel_rfl)) ?_
      refine pureU 12 (some 24) B12_19 (any_of HT_.out (by kernel_rfl)) ?_
      refine pureU 13 (some 25) B12_14 (any_of HT_.out (by kernel_rfl)) ?_
      refine pureU 14 (some 26) B12_15 (any_of HT_.out (by kernel_rfl)) ?_
      refine pureU 15 (some 27) B12_16 (any_of HT_.out (by kernel_rfl)) ?_
      refine pureE 16 (some 28) B12_17 (any_of HT_.out (by kernel_rfl)) ?_
      refine pureE 17 (some 29) B12_18 (any_of HT_.out (by kernel_rfl)) ?_
      refine done_ (done_of HT_.out (by kernel_rfl)) ?_
      try go_wp2
      go_roundg k1
      case measure => have := HK1.out; omega
      case rel => exact ⟨(wrap64 (x7_1 + 1)), sI, H', ⟨oK HK1⟩, ⟨mH HB⟩⟩
    ·
     replace c6 := Bool.eq_false_iff.mpr c6; subst c6
     have H1 : (some false) = some r := by rw [if_neg (show ¬ (false = true) by decide)] at H; exact H
     clear H; have H := H1; clear H1; obtain rfl := Option.some.inj H; have p141 : 0 ≤ (x7_1 : Int) := dT; have q141 : x7_1 < (l0.length : Int) := dT; obtain ⟨ad141, e141, hx141_0, hx141_1⟩ := at_T78 HR0.out x7_1 p141 q141
     cases e141
     replace hx141_0 := xC HB hx141_0; replace hx141_1 := xC HB hx141_1; replace p141 := eq_true p141; replace q141 := eq_true q141
     try go_wp2_with (first | ((with_reducible refine gate_dst (N := 4) rfl ?_); refine bxE 78 (cs := #[.string (⟨#[]⟩ : ByteArray), .int .i64 0]) ?_; intro gb142 hg w27 hbox hb; have BK142 := Aside0.mk hbox; have GW142 := kG HB hg; have GE142 := kG HB hg; replace HB := kH HB hb; clear hb hbox hg; obtain ⟨hcz28_0, hfz28_0⟩ := cY0 BK142; obtain ⟨hcz28_1, hfz28_1⟩ := cY1 BK142))
     obtain ⟨w29, hw_, n_⟩ : ∃ W_, (w27.setCell ⟨gb142, 0, none⟩ (.string ((rd_T78 l0 x7_1).f0))).setCell ⟨gb142, 1, none⟩ (.int .i64 ((rd_T78 l0 x7_1).f1)) = W_ ∧ Aside0 (W_.heap[gb142]? = some (.cells #[.string ((rd_T78 l0 x7_1).f0), .int .i64 ((rd_T78 l0 x7_1).f1)] 78 (0, 0))) ∧ Aside0 (Below w.heap.size w W_) := ⟨_, rfl, ⟨pP BK142⟩, ⟨mH HB⟩⟩
     (try clear BK142); (try clear HB); rewrite [hw_]; clear hw_; obtain ⟨BK142, HB⟩ := n_; replace BK142 := Aside0.mk (bD BK142.out); replace HB := Aside0.mk (wD HB.out); refine start_ (n := 18) (S := fun w' => w'.cell? ⟨gb142, 0, none⟩ = some (.string ((rd_T78 l0 x7_1).f0)) ∧ w'.cell? ⟨gb142, 1, none⟩ = some (.int .i64 ((rd_T78 l0 x7_1).f1))) (ds := []) B12_0 (by kernel_rfl) rfl rfl ⟨(bC BK142.out 0).trans rfl, (bC BK142.out 1).trans rfl⟩ (fun hHeld => ?_); refine with_tabW name_May.tab4 name_May.bits4 (fun HT_ HW_ => ?_); generalize w29.drew = w30 at BK142 HB hHeld ⊢; refine take_ (i := 0) (N := some 12) (v := ?_) (a' := ?_) B12_1 rfl rfl (take_ofW HT_.out HW_.out (by kernel_rfl)) (fun _ _ _ h => h) (Or.inl ⟨by rfl, ?_⟩) hHeld ?_ ?_; rotate_left
     ·
      rintro w' ⟨s0, s1⟩; go_simp; with_reducible rfl
     rotate_left
     ·
      simp only [Act.put, lT, l0_, lS, i64_w, i32_w]; rfl
     refine one_ (i := 1) (N := some 13) B12_2 rfl rfl (one_of HT_.out (by kernel_rfl)) (by decide) (fun K hK => ?_); refine goes_ Try.func82 (by kernel_rfl) rfl #[.agg #[.string ((rd_T78 l0 x7_1).f0), .int .i64 ((rd_T78 l0 x7_1).f1)]] (by rfl) rfl rfl (by (try simp only [List.map_toArray, List.map_cons, List.map_nil]); first | done | rfl | (simp only [List.length_drop, List.length_take]; rfl)) ?_
     with_reducible refine (name_sole.calls k1 ((rd_T78 l0 x7_1).f0) ((rd_T78 l0 x7_1).f1) false _ A5.out).mono ?_
     rintro e w31 ⟨rfl, hb⟩; refine ⟨_, rfl, ?_⟩; replace BK142 := kB BK142 hb; replace HB := kH HB hb
     (try clear hb)
     refine hK.out _ _ ⟨(bC BK142.out 0).trans rfl, (bC BK142.out 1).trans rfl⟩ (fun hHeld => ?_); clear hK K; refine norm_ (a' := ?_) ?_ ?_; rotate_left
     ·
      show Act.put _ (some 13) _ = _
      simp only [Act.put, lT, l0_, lS, i64_w, i32_w]; rfl
     refine pureE 2 (some 14) B12_3 (any_of HT_.out (by kernel_rfl)) ?_
     refine pureE 3 (some 15) B12_4 (any_of HT_.out (by kernel_rfl)) ?_
     refine pureU 4 (some 16) B12_5 (any_of HT_.out (by kernel_rfl)) ?_
     refine pureU 5 (some 17) B12_6 (any_of HT_.out (by kernel_rfl)) ?_
     refine pureU 6 (some 18) B12_7 (any_of HT_.out (by kernel_rfl)) ?_
     refine pureU 7 (some 19) B12_8 (any_of HT_.out (by kernel_rfl)) ?_
     refine pureU 8 (some 20) B12_9 (any_of HT_.out (by kernel_rfl)) ?_
     refine pureU 9 (some 21) B12_10 (any_of HT_.out (by kernel_rfl)) ?_
     refine pureU 10 (some 22) B12_11 (any_of HT_.out (by kernel_rfl)) ?_
     refine pureU 11 (some 23) B12_12 (any_of HT_.out (by kernel_rfl)) ?_
     refine pureU 12 (some 24) B12_19 (any_of HT_.out (by kernel_rfl)) ?_
     refine pureU 13 (some 25) B12_14 (any_of HT_.out (by kernel_rfl)) ?_
     refine pureU 14 (some 26) B12_15 (any_of HT_.out (by kernel_rfl)) ?_
     refine pureU 15 (some 27) B12_16 (any_of HT_.out (by kernel_rfl)) ?_
     refine pureU 16 (some 28) B12_17 (any_of HT_.out (by kernel_rfl)) ?_
     refine pureE 17 (some 29) B12_18 (any_of HT_.out (by kernel_rfl)) ?_
     refine done_ (done_of HT_.out (by kernel_rfl)) ?_
     try go_wp2
     go_ret
     exact ⟨rT, mH HB⟩
   ·
    rw [if_neg c2] at H; have c2b0 := decide_eq_false c2; clear c2; obtain rfl := Option.some.inj H
    go_wp2
    go_ret
    exact ⟨rT, mH HB⟩
def node_May.f (k : Nat) (a0_0 : Int) (a0_1 : Int) (a0_2 : Int) (l0_3 : List Int) (l0_4 : List (S78)) : Option (Bool) := if a0_0 = 0 then (if a0_1 = 0 then (if a0_2 = 0 then (if (l0_3.length : Int) = 0 then (some ((l0_4.length : Int) == 0)) else (some false)) else (some false)) else (some false)) else (if a0_0 = 1 then ((node_file.f k a0_0 a0_1 a0_2 l0_3 l0_4).bind fun t146 => (some t146)) else (if a0_0 = 2 then (if a0_1 = 1 then (if a0_2 = 0 then (if (l0_3.length : Int) = 0 then ((name_May.f k l0_4).bind fun t147 => (some t147)) else (some false)) else (some false)) else (some false)) else (some false)))
theorem node_May.mono : ∀ a0 a1 a2 a3 a4 k, LeO (node_May.f k a0 a1 a2 a3 a4) (node_May.f (k + 1) a0 a1 a2 a3 a4) := by
 intro a0 a1 a2 a3 a4 k
 unfold node_May.f
 repeat' with_reducible first | apply name_May.mono | apply node_file.mono | exact LeO.refl _ | exact LeO.none _ | refine LeO.ite ?_ ?_ | refine LeO.bind ?_ (fun _ => ?_)
set_option maxHeartbeats 8000000 in
set_option maxRecDepth 100000 in
theorem node_May.calls (k : Nat) (a0_0 : Int) (a0_1 : Int) (a0_2 : Int) (A0_3 : Option Addr) (c0_3 : Nat) (l0_3 : List Int) (A0_4 : Option Addr) (c0_4 : Nat) (l0_4 : List (S78)) (r : Bool) (w : World) (hr0_3 : Kd.C (Kd.int .i64) w A0_3 l0_3.length l0_3) (hc0_3 : l0_3.length ≤ c0_3) (hr0_4 : Kd.C k78 w A0_4 l0_4.length l0_4) (hc0_4 : l0_4.length ≤ c0_4) (h : node_May.f k a0_0 a0_1 a0_2 l0_3 l0_4 = some r) :
 Calls Try.prog 48 #[.agg #[.int .i64 a0_0, .int .i64 a0_1, .int .i64 a0_2, .slice A0_3 l0_3.length c0_3, .slice A0_4 l0_4.length c0_4]] w fun e w' => e = .returned (.bool r) ∧ Below w.heap.size w w' := by
 have hu28 := Try.underlying28; have HR0_3 := Aside0.mk hr0_3; have HC0_3 := Aside0.mk hc0_3; clear hr0_3 hc0_3; have HR0_4 := Aside0.mk hr0_4; have HC0_4 := Aside0.mk hc0_4; clear hr0_4 hc0_4; have HB := Aside0.mk (Below.refl w.heap.size w); have H : (if a0_0 = 0 then (if a0_1 = 0 then (if a0_2 = 0 then (if (l0_3.length : Int) = 0 then (some ((l0_4.length : Int) == 0)) else (some false)) else (some false)) else (some false)) else (if a0_0 = 1 then ((node_file.f k a0_0 a0_1 a0_2 l0_3 l0_4).bind fun t146 => (some t146)) else (if a0_0 = 2 then (if a0_1 = 1 then (if a0_2 = 0 then (if (l0_3.length : Int) = 0 then ((name_May.f k l0_4).bind fun t147 => (some t147)) else (some false)) else (some false)) else (some false)) else (some false)))) = some r := h; clear h
 by_cases c2 : a0_0 = 0
 ·
  rw [if_pos c2] at H; obtain ⟨c2b0, c2b1⟩ := eP c2; clear c2
  by_cases c3 : a0_1 = 0
  ·
   rw [if_pos c3] at H; obtain ⟨c3b0, c3b1⟩ := eP c3; clear c3
   by_cases c4 : a0_2 = 0
   ·
    rw [if_pos c4] at H; obtain ⟨c4b0, c4b1⟩ := eP c4; clear c4
    by_cases c5 : (l0_3.length : Int) = 0
    ·
     rw [if_pos c5] at H; obtain ⟨c5b0, c5b1⟩ := eP c5; clear c5; obtain rfl := Option.some.inj H
     go_enter Try.func48, Try.ntmps48
     go_wp2_with (first | ((with_reducible refine gate_dst (N := 1) rfl ?_); (try (refine gate_guard (by rfl) ?_; dsimp only)); refine bxE 28 (cs := #[.int .i64 a0_0, .int .i64 a0_1, .int .i64 a0_2, .slice A0_3 l0_3.length c0_3, .slice A0_4 l0_4.length c0_4]) ?_; intro gb145 hg w6 hbox hb; have BK145 := Aside0.mk hbox; have GW145 := kG HB hg; have GE145 := kG HB hg; replace HB := kH HB hb; clear hb hbox hg; obtain ⟨hcz7_0, hfz7_0⟩ := cY0 BK145; obtain ⟨hcz7_1, hfz7_1⟩ := cY1 BK145; obtain ⟨hcz7_2, hfz7_2⟩ := cY2 BK145; obtain ⟨hcz7_3, hfz7_3⟩ := cY3 BK145; obtain ⟨hcz7_4, hfz7_4⟩ := cY4 BK145))
     go_ret
     exact ⟨rT, mH HB⟩
    ·
     rw [if_neg c5] at H; obtain ⟨c5b0, c5b1⟩ := eN c5
     have c5b2 : ¬ (l0_3 = []) := fun h_ => c5 (by rw [h_]; rfl)
     obtain rfl := Option.some.inj H
     go_enter Try.func48, Try.ntmps48
     go_wp2_with (first | ((with_reducible refine gate_dst (N := 1) rfl ?_); (try (refine gate_guard (by rfl) ?_; dsimp only)); refine bxE 28 (cs := #[.int .i64 a0_0, .int .i64 a0_1, .int .i64 a0_2, .slice A0_3 l0_3.length c0_3, .slice A0_4 l0_4.length c0_4]) ?_; intro gb145 hg w8 hbox hb; have BK145 := Aside0.mk hbox; have GW145 := kG HB hg; have GE145 := kG HB hg; replace HB := kH HB hb; clear hb hbox hg; obtain ⟨hcz9_0, hfz9_0⟩ := cY0 BK145; obtain ⟨hcz9_1, hfz9_1⟩ := cY1 BK145; obtain ⟨hcz9_2, hfz9_2⟩ := cY2 BK145; obtain ⟨hcz9_3, hfz9_3⟩ := cY3 BK145; obtain ⟨hcz9_4, hfz9_4⟩ := cY4 BK145))
     go_ret
     exact ⟨rT, mH HB⟩
   ·
    rw [if_neg c4] at H; obtain ⟨c4b0, c4b1⟩ := eN c4; obtain rfl := Option.some.inj H
    go_enter Try.func48, Try.ntmps48
    go_wp2_with (first | ((with_reducible refine gate_dst (N := 1) rfl ?_); (try (refine gate_guard (by rfl) ?_; dsimp only)); refine bxE 28 (cs := #[.int .i64 a0_0, .int .i64 a0_1, .int .i64 a0_2, .slice A0_3 l0_3.length c0_3, .slice A0_4 l0_4.length c0_4]) ?_; intro gb145 hg w10 hbox hb; have BK145 := Aside0.mk hbox; have GW145 := kG HB hg; have GE145 := kG HB hg; replace HB := kH HB hb; clear hb hbox hg; obtain ⟨hcz11_0, hfz11_0⟩ := cY0 BK145; obtain ⟨hcz11_1, hfz11_1⟩ := cY1 BK145; obtain ⟨hcz11_2, hfz11_2⟩ := cY2 BK145; obtain ⟨hcz11_3, hfz11_3⟩ := cY3 BK145; obtain ⟨hcz11_4, hfz11_4⟩ := cY4 BK145))
    go_ret
    exact ⟨rT, mH HB⟩
  ·
   rw [if_neg c3] at H; obtain ⟨c3b0, c3b1⟩ := eN c3; obtain rfl := Option.some.inj H
   go_enter Try.func48, Try.ntmps48
   go_wp2_with (first | ((with_reducible refine gate_dst (N := 1) rfl ?_); (try (refine gate_guard (by rfl) ?_; dsimp only)); refine bxE 28 (cs := #[.int .i64 a0_0, .int .i64 a0_1, .int .i64 a0_2, .slice A0_3 l0_3.length c0_3, .slice A0_4 l0_4.length c0_4]) ?_; intro gb145 hg w12 hbox hb; have BK145 := Aside0.mk hbox; have GW145 := kG HB hg; have GE145 := kG HB hg; replace HB := kH HB hb; clear hb hbox hg; obtain ⟨hcz13_0, hfz13_0⟩ := cY0 BK145; obtain ⟨hcz13_1, hfz13_1⟩ := cY1 BK145; obtain ⟨hcz13_2, hfz13_2⟩ := cY2 BK145; obtain ⟨hcz13_3, hfz13_3⟩ := cY3 BK145; obtain ⟨hcz13_4, hfz13_4⟩ := cY4 BK145))
   go_ret
   exact ⟨rT, mH HB⟩
 ·
  rw [if_neg c2] at H; obtain ⟨c2b0, c2b1⟩ := eN c2
  by_cases c14 : a0_0 = 1
  ·
   rw [if_pos c14] at H; obtain ⟨c14b0, c14b1⟩ := eP c14; clear c14; replace H := Option.bind_eq_some_iff.mp H; obtain ⟨t146, A150, H⟩ := H; have A15 := Aside0.mk A150; clear A150; obtain rfl := Option.some.inj H
   go_enter Try.func48, Try.ntmps48
   go_wp2_with (first | ((with_reducible refine gate_dst (N := 1) rfl ?_); (try (refine gate_guard (by rfl) ?_; dsimp only)); refine bxE 28 (cs := #[.int .i64 a0_0, .int .i64 a0_1, .int .i64 a0_2, .slice A0_3 l0_3.length c0_3, .slice A0_4 l0_4.length c0_4]) ?_; intro gb145 hg w16 hbox hb; have BK145 := Aside0.mk hbox; have GW145 := kG HB hg; have GE145 := kG HB hg; replace HB := kH HB hb; clear hb hbox hg; obtain ⟨hcz17_0, hfz17_0⟩ := cY0 BK145; obtain ⟨hcz17_1, hfz17_1⟩ := cY1 BK145; obtain ⟨hcz17_2, hfz17_2⟩ := cY2 BK145; obtain ⟨hcz17_3, hfz17_3⟩ := cY3 BK145; obtain ⟨hcz17_4, hfz17_4⟩ := cY4 BK145) | ((with_reducible refine gate_callee (f := 67) rfl ?_); refine goesK (some 30) Try.func67 #[.agg #[.int .i64 a0_0, .int .i64 a0_1, .int .i64 a0_2, .slice A0_3 l0_3.length c0_3, .slice A0_4 l0_4.length c0_4]] ?_; (with_reducible refine (node_file.calls k a0_0 a0_1 a0_2 _ _ l0_3 _ _ l0_4 t146 _ ?side1 ?side2 ?side3 ?side4 A15.out).mono ?_); (case side1 => exact mC HR0_3 HB); (case side2 => exact HC0_3.out); (case side3 => exact mC HR0_4 HB); (case side4 => exact HC0_4.out); rintro e w18 ⟨rfl, hb⟩; refine ⟨_, rfl, ?_⟩; replace BK145 := kB BK145 hb; replace HB := kH HB hb; (try clear hb)))
   go_ret
   exact ⟨rT, mH HB⟩
  ·
   rw [if_neg c14] at H; obtain ⟨c14b0, c14b1⟩ := eN c14
   by_cases c19 : a0_0 = 2
   ·
    rw [if_pos c19] at H; obtain ⟨c19b0, c19b1⟩ := eP c19; clear c19
    by_cases c20 : a0_1 = 1
    ·
     rw [if_pos c20] at H; obtain ⟨c20b0, c20b1⟩ := eP c20; clear c20
     by_cases c21 : a0_2 = 0
     ·
      rw [if_pos c21] at H; obtain ⟨c21b0, c21b1⟩ := eP c21; clear c21
      by_cases c22 : (l0_3.length : Int) = 0
      ·
       rw [if_pos c22] at H; obtain ⟨c22b0, c22b1⟩ := eP c22; clear c22; replace H := Option.bind_eq_some_iff.mp H; obtain ⟨t147, A230, H⟩ := H; have A23 := Aside0.mk A230; clear A230; obtain rfl := Option.some.inj H
       go_enter Try.func48, Try.ntmps48
       go_wp2_with (first | ((with_reducible refine gate_dst (N := 1) rfl ?_); (try (refine gate_guard (by rfl) ?_; dsimp only)); refine bxE 28 (cs := #[.int .i64 a0_0, .int .i64 a0_1, .int .i64 a0_2, .slice A0_3 l0_3.length c0_3, .slice A0_4 l0_4.length c0_4]) ?_; intro gb145 hg w24 hbox hb; have BK145 := Aside0.mk hbox; have GW145 := kG HB hg; have GE145 := kG HB hg; replace HB := kH HB hb; clear hb hbox hg; obtain ⟨hcz25_0, hfz25_0⟩ := cY0 BK145; obtain ⟨hcz25_1, hfz25_1⟩ := cY1 BK145; obtain ⟨hcz25_2, hfz25_2⟩ := cY2 BK145; obtain ⟨hcz25_3, hfz25_3⟩ := cY3 BK145; obtain ⟨hcz25_4, hfz25_4⟩ := cY4 BK145) | (go_at_call 68; (with_reducible refine (name_May.calls k _ _ l0_4 t147 _ ?side1 ?side2 A23.out).mono ?_); (case side1 => exact mC HR0_4 HB); (case side2 => exact HC0_4.out); rintro e w26 ⟨rfl, hb⟩; replace BK145 := kB BK145 hb; replace HB := kH HB hb; (try clear hb)))
       go_ret
       exact ⟨rT, mH HB⟩
      ·
       rw [if_neg c22] at H; obtain ⟨c22b0, c22b1⟩ := eN c22
       have c22b2 : ¬ (l0_3 = []) := fun h_ => c22 (by rw [h_]; rfl)
       obtain rfl := Option.some.inj H
       go_enter Try.func48, Try.ntmps48
       go_wp2_with (first | ((with_reducible refine gate_dst (N := 1) rfl ?_); (try (refine gate_guard (by rfl) ?_; dsimp only)); refine bxE 28 (cs := #[.int .i64 a0_0, .int .i64 a0_1, .int .i64 a0_2, .slice A0_3 l0_3.length c0_3, .slice A0_4 l0_4.length c0_4]) ?_; intro gb145 hg w27 hbox hb; have BK145 := Aside0.mk hbox; have GW145 := kG HB hg; have GE145 := kG HB hg; replace HB := kH HB hb; clear hb hbox hg; obtain ⟨hcz28_0, hfz28_0⟩ := cY0 BK145; obtain ⟨hcz28_1, hfz28_1⟩ := cY1 BK145; obtain ⟨hcz28_2, hfz28_2⟩ := cY2 BK145; obtain ⟨hcz28_3, hfz28_3⟩ := cY3 BK145; obtain ⟨hcz28_4, hfz28_4⟩ := cY4 BK145))
       go_ret
       exact ⟨rT, mH HB⟩
     ·
      rw [if_neg c21] at H; obtain ⟨c21b0, c21b1⟩ := eN c21; obtain rfl := Option.some.inj H
      go_enter Try.func48, Try.ntmps48
      go_wp2_with (first | ((with_reducible refine gate_dst (N := 1) rfl ?_); (try (refine gate_guard (by rfl) ?_; dsimp only)); refine bxE 28 (cs := #[.int .i64 a0_0, .int .i64 a0_1, .int .i64 a0_2, .slice A0_3 l0_3.length c0_3, .slice A0_4 l0_4.length c0_4]) ?_; intro gb145 hg w29 hbox hb; have BK145 := Aside0.mk hbox; have GW145 := kG HB hg; have GE145 := kG HB hg; replace HB := kH HB hb; clear hb hbox hg; obtain ⟨hcz30_0, hfz30_0⟩ := cY0 BK145; obtain ⟨hcz30_1, hfz30_1⟩ := cY1 BK145; obtain ⟨hcz30_2, hfz30_2⟩ := cY2 BK145; obtain ⟨hcz30_3, hfz30_3⟩ := cY3 BK145; obtain ⟨hcz30_4, hfz30_4⟩ := cY4 BK145))
      go_ret
      exact ⟨rT, mH HB⟩
    ·
     rw [if_neg c20] at H; obtain ⟨c20b0, c20b1⟩ := eN c20; obtain rfl := Option.some.inj H
     go_enter Try.func48, Try.ntmps48
     go_wp2_with (first | ((with_reducible refine gate_dst (N := 1) rfl ?_); (try (refine gate_guard (by rfl) ?_; dsimp only)); refine bxE 28 (cs := #[.int .i64 a0_0, .int .i64 a0_1, .int .i64 a0_2, .slice A0_3 l0_3.length c0_3, .slice A0_4 l0_4.length c0_4]) ?_; intro gb145 hg w31 hbox hb; have BK145 := Aside0.mk hbox; have GW145 := kG HB hg; have GE145 := kG HB hg; replace HB := kH HB hb; clear hb hbox hg; obtain ⟨hcz32_0, hfz32_0⟩ := cY0 BK145; obtain ⟨hcz32_1, hfz32_1⟩ := cY1 BK145; obtain ⟨hcz32_2, hfz32_2⟩ := cY2 BK145; obtain ⟨hcz32_3, hfz32_3⟩ := cY3 BK145; obtain ⟨hcz32_4, hfz32_4⟩ := cY4 BK145))
     go_ret
     exact ⟨rT, mH HB⟩
   ·
    rw [if_neg c19] at H; obtain ⟨c19b0, c19b1⟩ := eN c19; obtain rfl := Option.some.inj H
    go_enter Try.func48, Try.ntmps48
    go_wp2_with (first | ((with_reducible refine gate_dst (N := 1) rfl ?_); (try (refine gate_guard (by rfl) ?_; dsimp only)); refine bxE 28 (cs := #[.int .i64 a0_0, .int .i64 a0_1, .int .i64 a0_2, .slice A0_3 l0_3.length c0_3, .slice A0_4 l0_4.length c0_4]) ?_; intro gb145 hg w33 hbox hb; have BK145 := Aside0.mk hbox; have GW145 := kG HB hg; have GE145 := kG HB hg; replace HB := kH HB hb; clear hb hbox hg; obtain ⟨hcz34_0, hfz34_0⟩ := cY0 BK145; obtain ⟨hcz34_1, hfz34_1⟩ := cY1 BK145; obtain ⟨hcz34_2, hfz34_2⟩ := cY2 BK145; obtain ⟨hcz34_3, hfz34_3⟩ := cY3 BK145; obtain ⟨hcz34_4, hfz34_4⟩ := cY4 BK145))
    go_ret
    exact ⟨rT, mH HB⟩
def dmBad (k : Nat) : List S28 → Int → Option Int
 | [], _ => some (-1)
 | x :: r, i => (node_May.f k x.f0 x.f1 x.f2 x.f3 x.f4).bind fun b => if b = true then dmBad k r (i + 1) else some i
theorem dmBad_mono (k : Nat) : ∀ (l : List S28) (i : Int), LeO (dmBad k l i) (dmBad (k + 1) l i)
 | [], _ => LeO.refl _
 | x :: r, i => LeO.bind (node_May.mono _ _ _ _ _ _) (fun b => LeO.ite (dmBad_mono k r (i + 1)) (LeO.refl _))
set_option maxHeartbeats 4000000 in
theorem dm_clo (k : Nat) (a0 a1 a2 : Int) (A3 : Option Addr) (c3 : Nat) (l3 : List Int) (A4 : Option Addr) (c4 : Nat) (l4 : List S78) (b : Bool) (w : World)
 (hr3 : Kd.C (Kd.int .i64) w A3 l3.length l3) (hc3 : l3.length ≤ c3) (hr4 : Kd.C k78 w A4 l4.length l4) (hc4 : l4.length ≤ c4) (h : node_May.f k a0 a1 a2 l3 l4 = some b) :
 Calls Try.prog 71 #[.agg #[.int .i64 a0, .int .i64 a1, .int .i64 a2, .slice A3 l3.length c3, .slice A4 l4.length c4]] w fun e w' => e = .returned (.bool (!b)) ∧ Below w.heap.size w w' := by
 have hu28 := Try.underlying28; have HR3 := Aside0.mk hr3; have HC3 := Aside0.mk hc3; clear hr3 hc3; have HR4 := Aside0.mk hr4; have HC4 := Aside0.mk hc4; clear hr4 hc4; have HB := Aside0.mk (Below.refl w.heap.size w); have HH := Aside0.mk h; clear h
 go_enter Try.func71, Try.ntmps71
 go_wp2_with (first | ((with_reducible refine gate_dst (N := 1) rfl ?_); refine bxE 28 (cs := #[.int .i64 a0, .int .i64 a1, .int .i64 a2, .slice A3 l3.length c3, .slice A4 l4.length c4]) ?_; intro gb hg w2 hbox hb; replace HB := Aside0.mk (below_step HB.out hb); clear hb hg; have hcz0 := (bC hbox 0).trans rfl; have hcz1 := (bC hbox 1).trans rfl; have hcz2 := (bC hbox 2).trans rfl; have hcz3 := (bC hbox 3).trans rfl; have hcz4 := (bC hbox 4).trans rfl) | (go_at_call 48; refine (node_May.calls k a0 a1 a2 _ _ l3 _ _ l4 b _ ?side1 ?side2 ?side3 ?side4 HH.out).mono ?_; (case side1 => exact (Kd.C_below HR3.out HB.out)); (case side2 => exact HC3.out); (case side3 => exact (Kd.C_below HR4.out HB.out)); (case side4 => exact HC4.out); rintro e w' ⟨rfl, hb⟩; replace HB := Aside0.mk (below_step HB.out hb)))
 all_goals (go_ret; exact ⟨by simp, HB.out⟩)
set_option maxHeartbeats 8000000 in
theorem dm_idx (k : Nat) (A : Option Addr) (c : Nat) (l : List S28) (r : Int) (w : World) (hr : Kd.C k28 w A l.length l) (hc : l.length ≤ c) (hL : (l.length : Int) < 9223372036854775807) (hr_ : dmBad k l 0 = some r) :
 Calls Try.prog 80 #[.slice A l.length c, .func (.func 71) #[] #[]] w fun e w' => e = .returned (.int .i64 r) ∧ Below w.heap.size w w' := by
 have hu28 := Try.underlying28; have HR0 := Aside0.mk hr; have HB := Aside0.mk (Below.refl w.heap.size w); have HP := Aside0.mk hr_; have LL := Aside0.mk hL; clear hr hc hr_ hL
 go_enter Try.func80, Try.ntmps80
 go_wp2
 go_loopg [5, 8] l.length (fun gk v5 v8 w' => ∃ kk : Nat, kk ≤ l.length ∧ l.length - kk ≤ gk ∧ v8 = .int .i64 kk ∧ Aside0 (dmBad k (l.drop kk) kk = some r) ∧ Aside0 (Below w.heap.size w w'))
 case atStart => exact ⟨0, Nat.zero_le _, by omega, rfl, ⟨by simpa using HP.out⟩, HB⟩
 case round =>
  obtain ⟨kk, hkk, hgk, rfl, HQ, HB⟩ := hrel; clear HP
  by_cases hlt : kk < l.length
  ·
   have c3b0 : decide ((kk : Int) < (l.length : Int)) = true := decide_eq_true (by omega)
   have p124 : 0 ≤ (kk : Int) := by omega
   have q124 : (kk : Int) < (l.length : Int) := by omega
   obtain ⟨ad124, A3, c3, A4, c4, e124, hx124_0, hx124_1, hx124_2, hx124_3, hx124_4, hl3, hi3, hl4, hi4⟩ := at_T28 HR0.out kk p124 q124
   cases e124
   replace hx124_0 := xC HB hx124_0; replace hx124_1 := xC HB hx124_1; replace hx124_2 := xC HB hx124_2; replace hx124_3 := xC HB hx124_3; replace hx124_4 := xC HB hx124_4; simp only [Int.toNat_natCast] at hx124_0 hx124_1 hx124_2 hx124_3 hx124_4; replace p124 := eq_true p124; replace q124 := eq_true q124
   have hd : l.drop kk = rd_T28 l kk :: l.drop (kk + 1) := by
    rw [List.drop_eq_getElem_cons hlt]; unfold rd_T28; rw [Int.toNat_natCast, List.getD_eq_getElem?_getD, List.getElem?_eq_getElem hlt]; rfl
   have hq := HQ.out; rw [hd] at hq; simp only [dmBad] at hq; obtain ⟨b, hb0, hq⟩ := Option.bind_eq_some_iff.mp hq; have hW : kk + 1 ≤ l.length := hlt
   have HC0 := fun W hW => dm_clo k (rd_T28 l kk).f0 (rd_T28 l kk).f1 (rd_T28 l kk).f2 A3 c3 (rd_T28 l kk).f3 A4 c4 (rd_T28 l kk).f4 b W (Kd.C_below hi3 hW) hl3 (Kd.C_below hi4 hW) hl4 hb0
   have HC := Aside0.mk HC0; clear hd hi3 hi4 hl3 hl4 hb0 HC0
   cases b with
   | false =>
    rw [if_neg (by decide)] at hq; obtain rfl := Option.some.inj hq; clear hq
    go_wp2_with (go_at_call 71; refine (HC.out _ HB.out).mono ?_; rintro e w' ⟨rfl, hb'⟩)
    go_ret
    exact ⟨rfl, below_step HB.out hb'⟩
   | true =>
    rw [if_pos rfl] at hq; have HQ := Aside0.mk hq; clear hq
    go_wp2_with (go_at_call 71; refine (HC.out _ HB.out).mono ?_; rintro e w' ⟨rfl, hb'⟩)
    go_roundg (l.length - (kk + 1))
    case measure => omega
    case rel =>
     have e_ : wrap64 ((kk : Int) + 1) = ((kk + 1 : Nat) : Int) := by have := LL.out; unfold wrap64; omega
     exact ⟨kk + 1, by omega, by omega, by rw [e_], ⟨by have := HQ.out; push_cast; exact this⟩, ⟨below_step HB.out hb'⟩⟩
  ·
   have : kk = l.length := by omega
   subst this; have hq := HQ.out; rw [List.drop_length] at hq; simp only [dmBad] at hq; obtain rfl := Option.some.inj hq
   go_wp2
   go_ret
   exact ⟨rfl, HB.out⟩
set_option maxHeartbeats 4000000 in
theorem dm_any (k : Nat) (A : Option Addr) (c : Nat) (l : List S28) (r : Int) (w : World) (hr : Kd.C k28 w A l.length l) (hc : l.length ≤ c) (hL : (l.length : Int) < 9223372036854775807) (hr_ : dmBad k l 0 = some r) :
 Calls Try.prog 64 #[.slice A l.length c, .func (.func 71) #[] #[]] w fun e w' => e = .returned (.bool (decide (0 ≤ r))) ∧ Below w.heap.size w w' := by
 have hcon := dm_idx k A c l r w hr hc hL hr_; clear hr_ hr hc hL
 go_enter Try.func64, Try.ntmps64
 go_wp2_with (go_at_call 80; refine hcon.mono ?_; rintro e w' ⟨rfl, hb'⟩)
 go_ret
 exact ⟨rfl, hb'⟩
def api_Node_64.f (k : Nat) (l0 : List (S28)) : Option (Bool) := if l0.length = 12 then (dmBad k l0 0).bind fun i => some (decide (0 ≤ i)) else none
theorem api_Node_64.mono : ∀ a0 k, LeO (api_Node_64.f k a0) (api_Node_64.f (k + 1) a0) := fun a0 k => LeO.ite (LeO.bind (dmBad_mono k a0 0) (fun _ => LeO.refl _)) (LeO.refl _)
theorem api_Node_64.calls (k : Nat) (A0 : Option Addr) (c0 : Nat) (l0 : List (S28)) (r : Bool) (w : World) (hr0 : Kd.C k28 w A0 l0.length l0) (hc0 : l0.length ≤ c0) (h : api_Node_64.f k l0 = some r) :
 Calls Try.prog 64 #[.slice A0 l0.length c0, .func (.func 71) #[] #[]] w fun e w' => e = .returned (.bool r) ∧ Below w.heap.size w w' := by
 unfold api_Node_64.f at h
 by_cases hl : l0.length = 12
 ·
  rw [if_pos hl] at h; obtain ⟨i, hi, h⟩ := Option.bind_eq_some_iff.mp h; obtain rfl := Option.some.inj h; exact dm_any k A0 c0 l0 i w hr0 hc0 (by omega) hi
 ·
  rw [if_neg hl] at h; cases h
def badAt (k : Nat) : List S28 → Int → Option Int
 | [], _ => some (-1)
 | x :: r, i => (node_May.f k x.f0 x.f1 x.f2 x.f3 x.f4).bind fun b => if b = true then badAt k r (i + 1) else some i
theorem badAt_mono (k : Nat) : ∀ (l : List S28) (i : Int), LeO (badAt k l i) (badAt (k + 1) l i)
 | [], _ => LeO.refl _
 | x :: r, i => LeO.bind (node_May.mono _ _ _ _ _ _) (fun b => LeO.ite (badAt_mono k r (i + 1)) (LeO.refl _))
set_option maxHeartbeats 4000000 in
theorem bad_clo (k : Nat) (a0 a1 a2 : Int) (A3 : Option Addr) (c3 : Nat) (l3 : List Int) (A4 : Option Addr) (c4 : Nat) (l4 : List S78) (b : Bool) (w : World)
 (hr3 : Kd.C (Kd.int .i64) w A3 l3.length l3) (hc3 : l3.length ≤ c3) (hr4 : Kd.C k78 w A4 l4.length l4) (hc4 : l4.length ≤ c4) (h : node_May.f k a0 a1 a2 l3 l4 = some b) :
 Calls Try.prog 65 #[.agg #[.int .i64 a0, .int .i64 a1, .int .i64 a2, .slice A3 l3.length c3, .slice A4 l4.length c4]] w fun e w' => e = .returned (.bool (!b)) ∧ Below w.heap.size w w' := by
 have hu28 := Try.underlying28; have HR3 := Aside0.mk hr3; have HC3 := Aside0.mk hc3; clear hr3 hc3; have HR4 := Aside0.mk hr4; have HC4 := Aside0.mk hc4; clear hr4 hc4; have HB := Aside0.mk (Below.refl w.heap.size w); have HH := Aside0.mk h; clear h
 go_enter Try.func65, Try.ntmps65
 go_wp2_with (first | ((with_reducible refine gate_dst (N := 1) rfl ?_); refine bxE 28 (cs := #[.int .i64 a0, .int .i64 a1, .int .i64 a2, .slice A3 l3.length c3, .slice A4 l4.length c4]) ?_; intro gb hg w2 hbox hb; replace HB := Aside0.mk (below_step HB.out hb); clear hb hg; have hcz0 := (bC hbox 0).trans rfl; have hcz1 := (bC hbox 1).trans rfl; have hcz2 := (bC hbox 2).trans rfl; have hcz3 := (bC hbox 3).trans rfl; have hcz4 := (bC hbox 4).trans rfl) | (go_at_call 48; refine (node_May.calls k a0 a1 a2 _ _ l3 _ _ l4 b _ ?side1 ?side2 ?side3 ?side4 HH.out).mono ?_; (case side1 => exact (Kd.C_below HR3.out HB.out)); (case side2 => exact HC3.out); (case side3 => exact (Kd.C_below HR4.out HB.out)); (case side4 => exact HC4.out); rintro e w' ⟨rfl, hb⟩; replace HB := Aside0.mk (below_step HB.out hb)))
 all_goals (go_ret; exact ⟨by simp, HB.out⟩)
set_option maxHeartbeats 8000000 in
theorem off_idx (k : Nat) (A : Option Addr) (c : Nat) (l : List S28) (r : Int) (w : World) (hr : Kd.C k28 w A l.length l) (hc : l.length ≤ c) (hL : (l.length : Int) < 9223372036854775807) (hr_ : badAt k l 0 = some r) :
 Calls Try.prog 80 #[.slice A l.length c, .func (.func 65) #[] #[]] w fun e w' => e = .returned (.int .i64 r) ∧ Below w.heap.size w w' := by
 have hu28 := Try.underlying28; have HR0 := Aside0.mk hr; have HB := Aside0.mk (Below.refl w.heap.size w); have HP := Aside0.mk hr_; have LL := Aside0.mk hL; clear hr hc hr_ hL
 go_enter Try.func80, Try.ntmps80
 go_wp2
 go_loopg [5, 8] l.length (fun gk v5 v8 w' => ∃ kk : Nat, kk ≤ l.length ∧ l.length - kk ≤ gk ∧ v8 = .int .i64 kk ∧ Aside0 (badAt k (l.drop kk) kk = some r) ∧ Aside0 (Below w.heap.size w w'))
 case atStart => exact ⟨0, Nat.zero_le _, by omega, rfl, ⟨by simpa using HP.out⟩, HB⟩
 case round =>
  obtain ⟨kk, hkk, hgk, rfl, HQ, HB⟩ := hrel; clear HP
  by_cases hlt : kk < l.length
  ·
   have c3b0 : decide ((kk : Int) < (l.length : Int)) = true := decide_eq_true (by omega)
   have p124 : 0 ≤ (kk : Int) := by omega
   have q124 : (kk : Int) < (l.length : Int) := by omega
   obtain ⟨ad124, A3, c3, A4, c4, e124, hx124_0, hx124_1, hx124_2, hx124_3, hx124_4, hl3, hi3, hl4, hi4⟩ := at_T28 HR0.out kk p124 q124
   cases e124
   replace hx124_0 := xC HB hx124_0; replace hx124_1 := xC HB hx124_1; replace hx124_2 := xC HB hx124_2; replace hx124_3 := xC HB hx124_3; replace hx124_4 := xC HB hx124_4; simp only [Int.toNat_natCast] at hx124_0 hx124_1 hx124_2 hx124_3 hx124_4; replace p124 := eq_true p124; replace q124 := eq_true q124
   have hd : l.drop kk = rd_T28 l kk :: l.drop (kk + 1) := by
    rw [List.drop_eq_getElem_cons hlt]; unfold rd_T28; rw [Int.toNat_natCast, List.getD_eq_getElem?_getD, List.getElem?_eq_getElem hlt]; rfl
   have hq := HQ.out; rw [hd] at hq; simp only [badAt] at hq; obtain ⟨b, hb0, hq⟩ := Option.bind_eq_some_iff.mp hq; have hW : kk + 1 ≤ l.length := hlt
   have HC0 := fun W hW => bad_clo k (rd_T28 l kk).f0 (rd_T28 l kk).f1 (rd_T28 l kk).f2 A3 c3 (rd_T28 l kk).f3 A4 c4 (rd_T28 l kk).f4 b W (Kd.C_below hi3 hW) hl3 (Kd.C_below hi4 hW) hl4 hb0
   have HC := Aside0.mk HC0; clear hd hi3 hi4 hl3 hl4 hb0 HC0
   cases b with
   | false =>
    rw [if_neg (by decide)] at hq; obtain rfl := Option.some.inj hq; clear hq
    go_wp2_with (go_at_call 65; refine (HC.out _ HB.out).mono ?_; rintro e w' ⟨rfl, hb'⟩)
    go_ret
    exact ⟨rfl, below_step HB.out hb'⟩
   | true =>
    rw [if_pos rfl] at hq; have HQ := Aside0.mk hq; clear hq
    go_wp2_with (go_at_call 65; refine (HC.out _ HB.out).mono ?_; rintro e w' ⟨rfl, hb'⟩)
    go_roundg (l.length - (kk + 1))
    case measure => omega
    case rel =>
     have e_ : wrap64 ((kk : Int) + 1) = ((kk + 1 : Nat) : Int) := by have := LL.out; unfold wrap64; omega
     exact ⟨kk + 1, by omega, by omega, by rw [e_], ⟨by have := HQ.out; push_cast; exact this⟩, ⟨below_step HB.out hb'⟩⟩
  ·
   have : kk = l.length := by omega
   subst this; have hq := HQ.out; rw [List.drop_length] at hq; simp only [badAt] at hq; obtain rfl := Option.some.inj hq
   go_wp2
   go_ret
   exact ⟨rfl, HB.out⟩
set_option maxHeartbeats 4000000 in
theorem off_any (k : Nat) (A : Option Addr) (c : Nat) (l : List S28) (r : Int) (w : World) (hr : Kd.C k28 w A l.length l) (hc : l.length ≤ c) (hL : (l.length : Int) < 9223372036854775807) (hr_ : badAt k l 0 = some r) :
 Calls Try.prog 64 #[.slice A l.length c, .func (.func 65) #[] #[]] w fun e w' => e = .returned (.bool (decide (0 ≤ r))) ∧ Below w.heap.size w w' := by
 have hcon := off_idx k A c l r w hr hc hL hr_; clear hr_ hr hc hL
 go_enter Try.func64, Try.ntmps64
 go_wp2_with (go_at_call 80; refine hcon.mono ?_; rintro e w' ⟨rfl, hb'⟩)
 go_ret
 exact ⟨rfl, hb'⟩
set_option maxHeartbeats 4000000 in
theorem off_walk (k : Nat) (A : Option Addr) (c : Nat) (l : List S28) (r : Bool) (w : World) (hr : Kd.C k28 w A l.length l) (hc : l.length ≤ c) (h : (if l.length = 12 then (badAt k l 0).bind fun i => some (decide (0 ≤ i)) else some true) = some r) :
 Calls Try.prog 45 #[.agg #[.slice A l.length c]] w fun e w' => e = .returned (.bool r) ∧ Below w.heap.size w w' := by
 have hu24 := Try.underlying24; have HB := Aside0.mk (Below.refl w.heap.size w)
 by_cases h4 : l.length = 12
 ·
  rw [if_pos h4] at h; obtain ⟨i, hi, h⟩ := Option.bind_eq_some_iff.mp h; obtain rfl := Option.some.inj h; have hcon := Aside0.mk (fun W (hW : Below w.heap.size w W) => off_any k A c l i W (Kd.C_below hr hW) hc (by omega) hi); have e4 : ((l.length : Int) != 12) = false := bne_eq_false_iff_eq.mpr (by omega); clear h4 hi hr hc
  go_enter Try.func45, Try.ntmps45
  go_wp2_with (first | ((with_reducible refine gate_dst (N := 1) rfl ?_); refine bxE 24 (cs := #[.slice A l.length c]) ?_; intro gb hg w2 hbox hb; replace HB := Aside0.mk (below_step HB.out hb); clear hb hg; have hcz0 : w2.cell? ⟨gb, 0, none⟩ = some (.slice A l.length c) := (bC hbox 0).trans rfl) | (go_at_call 64; refine (hcon.out _ HB.out).mono ?_; rintro e w' ⟨rfl, hb'⟩; have n0_ := Aside0.mk (below_step HB.out hb'); clear HB; have HB := n0_; clear n0_ hb'))
  go_ret
  exact ⟨rfl, HB.out⟩
 ·
  rw [if_neg h4] at h; obtain rfl := Option.some.inj h; have e4 : ((l.length : Int) != 12) = true := bne_iff_ne.mpr (by omega); clear hr hc
  go_enter Try.func45, Try.ntmps45
  go_wp2_with (first | ((with_reducible refine gate_dst (N := 1) rfl ?_); refine bxE 24 (cs := #[.slice A l.length c]) ?_; intro gb hg w2 hbox hb; replace HB := Aside0.mk (below_step HB.out hb); clear hb hg; have hcz0 : w2.cell? ⟨gb, 0, none⟩ = some (.slice A l.length c) := (bC hbox 0).trans rfl))
  go_ret
  exact ⟨rfl, HB.out⟩
def quota_off.f (k : Nat) (l0_0 : List (S28)) : Option (Bool) := if l0_0.length = 12 then (badAt k l0_0 0).bind fun i => some (decide (0 ≤ i)) else some true
theorem quota_off.mono : ∀ a0 k, LeO (quota_off.f k a0) (quota_off.f (k + 1) a0) := fun a0 k => LeO.ite (LeO.bind (badAt_mono k a0 0) (fun _ => LeO.refl _)) (LeO.refl _)
theorem quota_off.calls (k : Nat) (A0_0 : Option Addr) (c0_0 : Nat) (l0_0 : List (S28)) (r : Bool) (w : World) (hr0_0 : Kd.C k28 w A0_0 l0_0.length l0_0) (hc0_0 : l0_0.length ≤ c0_0) (h : quota_off.f k l0_0 = some r) :
 Calls Try.prog 45 #[.agg #[.slice A0_0 l0_0.length c0_0]] w fun e w' => e = .returned (.bool r) ∧ Below w.heap.size w w' := by
 unfold quota_off.f at h
 exact off_walk k A0_0 c0_0 l0_0 r w hr0_0 hc0_0 h
end Go.Proofs.Ytkigiehkckjlhaa.PGrows
