/- The Go functions that these laws reach, each as a Lean function with the same answers (a law itself where it answers true), and the proof that the code comes to them; conditions: those of each theorem. Laid by a program of this session over the print. -/
import Derived.Test.YtkigiehkckjlhaaZReadsPReadsShort
import Derived.Test.YtkigiehkckjlhaaZReadsPReadsx0
import Derived.Test.YtkigiehkckjlhaaZReadsPReadsx11
import Derived.Test.YtkigiehkckjlhaaZReadsPReadsx9
namespace Go.Proofs.Ytkigiehkckjlhaa.PReads
open Go.RowKit Go.Proofs.YtkigiehkckjlhaaW.PrintWords Go.Proofs.YtkigiehkckjlhaaW.PrintLast Go.Proofs.YtkigiehkckjlhaaW.PrintMore
attribute [local go_sem] max2_int min2_int max_two min_two max_three min_three max_four min_four   -- for this text's walks alone
set_option linter.unusedVariables false
set_option linter.unusedSimpArgs false
open Go.Proofs.YtkigiehkckjlhaaW.PrintWords renaming blk_drewN → bN, blk_drew → bD, blk_alloc → bA, below_set → wS, below_alloc → wA, pw_below_drewN → wN, below_drew1 → wD, blk_below → bB, blk_far → bF, blk_cell → bC, blk_frozen → bZ
open List renaming setIfInBounds_toArray → lT, set_cons_zero → l0_, set_cons_succ → lS
abbrev B12_0 : Array Bool := #[false, false, false, false, false, false, false, false, false, false, false, false, false, false, false, false, false, false]
abbrev B12_1 := B12_0.set! 0 true
abbrev B12_2 := B12_1.set! 1 true
abbrev B12_3 := B12_2.set! 2 true
abbrev B12_4 := B12_3.set! 3 true
abbrev B12_5 := B12_4.set! 4 true
abbrev B12_6 := B12_5.set! 5 true
abbrev B12_7 := B12_6.set! 6 true
abbrev B12_8 := B12_7.set! 7 true
abbrev B12_9 := B12_8.set! 8 true
abbrev B12_10 := B12_9.set! 9 true
abbrev B12_11 := B12_10.set! 10 true
abbrev B12_12 := B12_11.set! 11 true
abbrev B12_13 := B12_12.set! 13 true
abbrev B12_14 := B12_13.set! 12 true
abbrev B12_15 := B12_14.set! 14 true
abbrev B12_16 := B12_15.set! 15 true
abbrev B12_17 := B12_16.set! 16 true
abbrev B12_18 := B12_17.set! 17 true
abbrev B12_19 := B12_12.set! 12 true
def name_May.l0 : Nat → List (S78) → List (S78) → Int → Int → Option (Bool)
 | 0, _, _, _, _ => none
 | k + 1, x0, x5, x6, x7 => if x7 < x6 then (if 0 ≤ x7 then (if x7 < (x5.length : Int) then ((name_sole.f k ((rV x5 x7).f0) ((rV x5 x7).f1)).bind fun t147 => (if t147 = true then (if x7 > 0 then (if 0 ≤ (wrap64 (x7 - 1)) then (if (wrap64 (x7 - 1)) < (x0.length : Int) then (if ((Op.bytesLess (((rV x0 (wrap64 (x7 - 1))).f0).toList) (((rV x5 x7).f0).toList)) = true) then (name_May.l0 k x0 x5 x6 (wrap64 (x7 + 1))) else (some false)) else (none)) else (none)) else (name_May.l0 k x0 x5 x6 (wrap64 (x7 + 1)))) else (some false))) else (none)) else (none)) else (some (decide ((x0.length : Int) ≤ 10)))
def name_May.f (k : Nat) (l0 : List (S78)) : Option (Bool) := name_May.l0 k l0 l0 (l0.length : Int) 0
theorem name_May.mono_l : ∀ k, (∀ y0 y1 y2 y3, LeO (name_May.l0 k y0 y1 y2 y3) (name_May.l0 (k + 1) y0 y1 y2 y3))
 | 0 => fun _ _ _ _ r h => by simp [name_May.l0] at h
 | k + 1 => by
  have ih0 := name_May.mono_l k
  ·
   intro y0 y1 y2 y3
   unfold name_May.l0
   repeat' with_reducible first | apply ih0 | apply name_sole.mono | exact LeO.refl _ | exact LeO.none _ | refine LeO.ite ?_ ?_ | refine LeO.bind ?_ (fun _ => ?_)
theorem name_May.mono : ∀ a0 k, LeO (name_May.f k a0) (name_May.f (k + 1) a0) := by
 intro a0 k; have ih0 := name_May.mono_l k
 unfold name_May.f
 repeat' with_reducible first | apply ih0 | apply name_sole.mono | exact LeO.refl _ | exact LeO.none _ | refine LeO.ite ?_ ?_ | refine LeO.bind ?_ (fun _ => ?_)
def name_May.T4 : Bool × List (List Nat × List Nat) := (true, [([], []), ([0], [0]), ([1], [1]), ([2, 1], [2]), ([3], [3]), ([4, 3], [3, 4]), ([5, 3, 3], [3, 5]), ([6], [6]), ([6], [6]), ([8, 6], [6, 8]), ([7, 9, 6], [6, 7, 9]), ([10, 6], [6, 10]), ([11, 6], [6, 11]), ([6], [6]), ([13, 6], [6, 13]), ([12, 14, 6], [6, 12, 14]), ([6, 15, 3], [3, 6, 15]), ([3, 16], [3, 16])])
def name_May.B4 : List Nat := [0, 1, 3, 7, 15, 31, 63, 127, 127, 383, 1023, 2047, 4095, 127, 8319, 32767, 65535, 131071]
theorem name_May.tab4 : rtab .any (opsOf Try.f68 4) = name_May.T4 := by kernel_rfl
theorem name_May.bits4 : waitsOk name_May.T4.2 name_May.B4 = true := by kernel_rfl
set_option maxHeartbeats 8000000 in
set_option maxRecDepth 100000 in
theorem name_May.calls (k : Nat) (A0 : Option Addr) (c0 : Nat) (l0 : List (S78)) (r : Bool) (w : World) (hr0 : Kd.C k78 w A0 l0.length l0) (hc0 : l0.length ≤ c0) (h : name_May.f k l0 = some r) :
 Calls Try.prog 68 #[.slice A0 l0.length c0] w fun e w' => e = .returned (.bool r) ∧ Below w.heap.size w w' := by
 have hu78 := Try.underlying78; have HR0 := kA hr0; have HC0 := kA hc0; clear hr0 hc0; have HB := kA (Below.refl w.heap.size w); have H : (name_May.l0 k l0 l0 (l0.length : Int) 0) = some r := h; clear h; have H' := kA H; clear H
 go_enter Try.func68, Try.ntmps68
 go_wp2
 go_loopg [7] k (fun kq v7 w' => ∃ (x7_1 : Int), v7 = .int .i64 x7_1 ∧ Aside0 (name_May.l0 kq l0 l0 (l0.length : Int) x7_1 = some r) ∧ Aside0 (kq ≤ k) ∧ Aside0 (Below w.heap.size w w'))
 case atStart => exact ⟨(0), sI, H', ⟨Nat.le_refl _⟩, ⟨mH HB⟩⟩
 case round =>
  clear H'; obtain ⟨x7_1, rfl, HA, HK1, HB⟩ := hrel
  cases gk with
  | zero => exact absurd HA.out (by simp [name_May.l0])
  | succ k1 =>
   have H := HA.out; clear HA; simp only [name_May.l0] at H
   by_cases c2 : x7_1 < (l0.length : Int)
   ·
    rw [if_pos c2] at H; have c2b0 := qT c2; clear c2
    replace H := nP H; obtain ⟨c3, H⟩ := H; have c3b0 := qT c3; clear c3
    replace H := nP H; obtain ⟨c4, H⟩ := H; have c4b0 := qT c4; clear c4; replace H := qB H; obtain ⟨t147, A50, H⟩ := H; have A5 := kA A50; clear A50
    by_cases c6 : t147 = true
    ·
     subst c6
     have H1 : (if x7_1 > 0 then (if 0 ≤ (wrap64 (x7_1 - 1)) then (if (wrap64 (x7_1 - 1)) < (l0.length : Int) then (if ((Op.bytesLess (((rV l0 (wrap64 (x7_1 - 1))).f0).toList) (((rV l0 x7_1).f0).toList)) = true) then (name_May.l0 k1 l0 l0 (l0.length : Int) (wrap64 (x7_1 + 1))) else (some false)) else (none)) else (none)) else (name_May.l0 k1 l0 l0 (l0.length : Int) (wrap64 (x7_1 + 1)))) = some r := by rw [if_pos rfl] at H; exact H
     clear H; have H := H1; clear H1
     by_cases c7 : x7_1 > 0
     ·
      rw [if_pos c7] at H; have c7b0 : decide (0 < x7_1) = true := qT c7; clear c7; obtain ⟨ji8, hji8⟩ : ∃ j_ : Int, (wrap64 (x7_1 - 1)) = j_ := ⟨_, rfl⟩
      replace H : (if 0 ≤ (ji8) then (if (ji8) < (l0.length : Int) then (if ((Op.bytesLess (((rV l0 (ji8)).f0).toList) (((rV l0 x7_1).f0).toList)) = true) then (name_May.l0 k1 l0 l0 (l0.length : Int) (wrap64 (x7_1 + 1))) else (some false)) else (none)) else (none)) = some r := by first | (rw [hji8] at H; exact H) | (simp only [hji8] at H ⊢; exact H)
      (try rw [hji8] at A5)
      have hji8w : (IntKind.i64.wrap (x7_1 - 1)) = ji8 := (i64_w _).trans hji8
      replace H := nP H; obtain ⟨c9, H⟩ := H; have c9b0 := qT c9; clear c9
      replace H := nP H; obtain ⟨c10, H⟩ := H; have c10b0 := qT c10; clear c10
      by_cases c11 : ((Op.bytesLess (((rV l0 (ji8)).f0).toList) (((rV l0 x7_1).f0).toList)) = true)
      ·
       rw [if_pos c11] at H; have c11b0 : (Op.bytesLess (((rV l0 (ji8)).f0).toList) (((rV l0 x7_1).f0).toList)) = true := c11; clear c11; have H' := kA H; clear H; have p145 : 0 ≤ (x7_1 : Int) := dT; have q145 : x7_1 < (l0.length : Int) := dT; obtain ⟨ad145, e145, hx145_0, hx145_1⟩ := at_T78 HR0.out x7_1 p145 q145
       cases e145
       replace hx145_0 := xC HB hx145_0; replace hx145_1 := xC HB hx145_1; replace p145 := eq_true p145; replace q145 := eq_true q145
       try go_wp2_with (first | ((with_reducible refine gate_dst (N := 4) rfl ?_); refine bxE 78 (cs := #[.string (⟨#[]⟩ : ByteArray), .int .i64 0]) ?_; intro gb146 hg w12 hbox hb; have BK146 := kA hbox; have GW146 := kG HB hg; have GE146 := kG HB hg; replace HB := kH HB hb; clear hb hbox hg; obtain ⟨hcz13_0, hfz13_0⟩ := cY0 BK146; obtain ⟨hcz13_1, hfz13_1⟩ := cY1 BK146))
       obtain ⟨w14, hw_, n_⟩ : ∃ W_, (w12.setCell ⟨gb146, 0, none⟩ (.string ((rV l0 x7_1).f0))).setCell ⟨gb146, 1, none⟩ (.int .i64 ((rV l0 x7_1).f1)) = W_ ∧ Aside0 (W_.heap[gb146]? = some (.cells #[.string ((rV l0 x7_1).f0), .int .i64 ((rV l0 x7_1).f1)] 78 (0, 0))) ∧ Aside0 (Below w.heap.size w W_) := ⟨_, rfl, ⟨pP BK146⟩, ⟨mH HB⟩⟩
       (try clear BK146); (try clear HB); rewrite [hw_]; clear hw_; obtain ⟨BK146, HB⟩ := n_; replace BK146 := kA (bD BK146.out); replace HB := kA (wD HB.out); have p148 : 0 ≤ ((ji8) : Int) := dT; have q148 : (ji8) < (l0.length : Int) := dT; obtain ⟨ad148, e148, hx148_0, hx148_1⟩ := at_T78 HR0.out (ji8) p148 q148; have hw148_1 := hx148_1; have hw148_0 := hx148_0; obtain rfl : ad145 = ad148 := (by injection e148); replace hx148_0 := xC HB hx148_0; replace hx148_1 := xC HB hx148_1; replace p148 := eq_true p148; replace q148 := eq_true q148; refine start_ (n := 18) (S := fun w' => w'.cell? ⟨gb146, 0, none⟩ = some (.string ((rV l0 x7_1).f0)) ∧ w'.cell? ⟨gb146, 1, none⟩ = some (.int .i64 ((rV l0 x7_1).f1)) ∧ w'.cell? (ad145.add (((ji8)).toNat * 2)) = some (.string ((rV l0 (ji8)).f0)) ∧ w'.cell? ⟨(ad145.add (((ji8)).toNat * 2)).block, (ad145.add (((ji8)).toNat * 2)).off + 1, none⟩ = some (.int .i64 ((rV l0 (ji8)).f1))) (ds := []) B12_0 (by kernel_rfl) rfl rfl ⟨cZ0 BK146, cZ1 BK146, (xC HB hw148_0), (xC HB hw148_1)⟩ (fun hHeld => ?_); refine with_tabW name_May.tab4 name_May.bits4 (fun HT_ HW_ => ?_); generalize w14.drew = w15 at BK146 HB hx148_0 hx148_1 hHeld ⊢; refine take_ (i := 0) (N := some 12) (v := ?_) (a' := ?_) B12_1 rfl rfl (take_ofW HT_.out HW_.out (by kernel_rfl)) (fun _ _ _ h => h) (Or.inl ⟨by rfl, ?_⟩) hHeld ?_ ?_; rotate_left
       ·
        rintro w' ⟨s0, s1, s2, s3⟩; go_simp; with_reducible rfl
       rotate_left
       ·
        simp only [Act.put, lT, l0_, lS, i64_w, i32_w]; rfl
       refine one_ (i := 1) (N := some 13) B12_2 rfl rfl (one_of HT_.out (by kernel_rfl)) (by decide) (fun K hK => ?_); refine goes_ Try.func82 (by kernel_rfl) rfl #[.agg #[.string ((rV l0 x7_1).f0), .int .i64 ((rV l0 x7_1).f1)]] (by rfl) rfl rfl (by (try simp only [List.map_toArray, List.map_cons, List.map_nil]); first | done | rfl | (simp only [List.length_drop, List.length_take]; rfl)) ?_
       with_reducible refine (name_sole.calls k1 ((rV l0 x7_1).f0) ((rV l0 x7_1).f1) true _ A5.out).mono ?_
       rintro e w16 ⟨rfl, hb⟩; refine ⟨_, rfl, ?_⟩; replace BK146 := kB BK146 hb; replace HB := kH HB hb
       (try clear hb)
       refine hK.out _ _ ⟨cZ0 BK146, cZ1 BK146, (xC HB hw148_0), (xC HB hw148_1)⟩ (fun hHeld => ?_); clear hK K; refine norm_ (a' := ?_) ?_ ?_; rotate_left
       ·
        show Act.put _ (some 13) _ = _
        simp only [Act.put, lT, l0_, lS, i64_w, i32_w]; rfl
       refine pE 2 14 B12_3 HT_ ?_
       refine pE 3 15 B12_4 HT_ ?_
       refine pE 4 16 B12_5 HT_ ?_
       refine pE 5 17 B12_6 HT_ ?_
       refine pE 6 18 B12_7 HT_ ?_
       refine pE 7 19 B12_8 HT_ ?_
       refine pE 8 20 B12_9 HT_ ?_
       refine pE 9 21 B12_10 HT_ ?_
       refine pE 10 22 B12_11 HT_ ?_
       refine pE 11 23 B12_12 HT_ ?_
       refine pE 13 25 B12_13 HT_ ?_
       refine tE 12 24 B12_14 HT_ HW_ hHeld ?_
       refine tE 14 26 B12_15 HT_ HW_ hHeld ?_
       refine pE 15 27 B12_16 HT_ ?_
       refine pE 16 28 B12_17 HT_ ?_
       refine pE 17 29 B12_18 HT_ ?_
       refine done_ (done_of HT_.out (by kernel_rfl)) ?_
       try go_wp2
       go_roundg k1
       case measure => have := HK1.out; omega
       case rel => exact ⟨(wrap64 (x7_1 + 1)), sI, H', ⟨oK HK1⟩, ⟨mH HB⟩⟩
      ·
       rw [if_neg c11] at H
       have c11b0 : (Op.bytesLess (((rV l0 (ji8)).f0).toList) (((rV l0 x7_1).f0).toList)) = false := by simpa using c11
       clear c11; obtain rfl := qI H; have p145 : 0 ≤ (x7_1 : Int) := dT; have q145 : x7_1 < (l0.length : Int) := dT; obtain ⟨ad145, e145, hx145_0, hx145_1⟩ := at_T78 HR0.out x7_1 p145 q145
       cases e145
       replace hx145_0 := xC HB hx145_0; replace hx145_1 := xC HB hx145_1; replace p145 := eq_true p145; replace q145 := eq_true q145
       try go_wp2_with (first | ((with_reducible refine gate_dst (N := 4) rfl ?_); refine bxE 78 (cs := #[.string (⟨#[]⟩ : ByteArray), .int .i64 0]) ?_; intro gb146 hg w17 hbox hb; have BK146 := kA hbox; have GW146 := kG HB hg; have GE146 := kG HB hg; replace HB := kH HB hb; clear hb hbox hg; obtain ⟨hcz18_0, hfz18_0⟩ := cY0 BK146; obtain ⟨hcz18_1, hfz18_1⟩ := cY1 BK146))
       obtain ⟨w19, hw_, n_⟩ : ∃ W_, (w17.setCell ⟨gb146, 0, none⟩ (.string ((rV l0 x7_1).f0))).setCell ⟨gb146, 1, none⟩ (.int .i64 ((rV l0 x7_1).f1)) = W_ ∧ Aside0 (W_.heap[gb146]? = some (.cells #[.string ((rV l0 x7_1).f0), .int .i64 ((rV l0 x7_1).f1)] 78 (0, 0))) ∧ Aside0 (Below w.heap.size w W_) := ⟨_, rfl, ⟨pP BK146⟩, ⟨mH HB⟩⟩
       (try clear BK146); (try clear HB); rewrite [hw_]; clear hw_; obtain ⟨BK146, HB⟩ := n_; replace BK146 := kA (bD BK146.out); replace HB := kA (wD HB.out); have p148 : 0 ≤ ((ji8) : Int) := dT; have q148 : (ji8) < (l0.length : Int) := dT; obtain ⟨ad148, e148, hx148_0, hx148_1⟩ := at_T78 HR0.out (ji8) p148 q148; have hw148_1 := hx148_1; have hw148_0 := hx148_0; obtain rfl : ad145 = ad148 := (by injection e148); replace hx148_0 := xC HB hx148_0; replace hx148_1 := xC HB hx148_1; replace p148 := eq_true p148; replace q148 := eq_true q148; refine start_ (n := 18) (S := fun w' => w'.cell? ⟨gb146, 0, none⟩ = some (.string ((rV l0 x7_1).f0)) ∧ w'.cell? ⟨gb146, 1, none⟩ = some (.int .i64 ((rV l0 x7_1).f1)) ∧ w'.cell? (ad145.add (((ji8)).toNat * 2)) = some (.string ((rV l0 (ji8)).f0)) ∧ w'.cell? ⟨(ad145.add (((ji8)).toNat * 2)).block, (ad145.add (((ji8)).toNat * 2)).off + 1, none⟩ = some (.int .i64 ((rV l0 (ji8)).f1))) (ds := []) B12_0 (by kernel_rfl) rfl rfl ⟨cZ0 BK146, cZ1 BK146, (xC HB hw148_0), (xC HB hw148_1)⟩ (fun hHeld => ?_); refine with_tabW name_May.tab4 name_May.bits4 (fun HT_ HW_ => ?_); generalize w19.drew = w20 at BK146 HB hx148_0 hx148_1 hHeld ⊢; refine take_ (i := 0) (N := some 12) (v := ?_) (a' := ?_) B12_1 rfl rfl (take_ofW HT_.out HW_.out (by kernel_rfl)) (fun _ _ _ h => h) (Or.inl ⟨by rfl, ?_⟩) hHeld ?_ ?_; rotate_left
       ·
        rintro w' ⟨s0, s1, s2, s3⟩; go_simp; with_reducible rfl
       rotate_left
       ·
        simp only [Act.put, lT, l0_, lS, i64_w, i32_w]; rfl
       refine one_ (i := 1) (N := some 13) B12_2 rfl rfl (one_of HT_.out (by kernel_rfl)) (by decide) (fun K hK => ?_); refine goes_ Try.func82 (by kernel_rfl) rfl #[.agg #[.string ((rV l0 x7_1).f0), .int .i64 ((rV l0 x7_1).f1)]] (by rfl) rfl rfl (by (try simp only [List.map_toArray, List.map_cons, List.map_nil]); first | done | rfl | (simp only [List.length_drop, List.length_take]; rfl)) ?_
       with_reducible refine (name_sole.calls k1 ((rV l0 x7_1).f0) ((rV l0 x7_1).f1) true _ A5.out).mono ?_
       rintro e w21 ⟨rfl, hb⟩; refine ⟨_, rfl, ?_⟩; replace BK146 := kB BK146 hb; replace HB := kH HB hb
       (try clear hb)
       refine hK.out _ _ ⟨cZ0 BK146, cZ1 BK146, (xC HB hw148_0), (xC HB hw148_1)⟩ (fun hHeld => ?_); clear hK K; refine norm_ (a' := ?_) ?_ ?_; rotate_left
       ·
        show Act.put _ (some 13) _ = _
        simp only [Act.put, lT, l0_, lS, i64_w, i32_w]; rfl
       refine pE 2 14 B12_3 HT_ ?_
       refine pE 3 15 B12_4 HT_ ?_
       refine pE 4 16 B12_5 HT_ ?_
       refine pE 5 17 B12_6 HT_ ?_
       refine pE 6 18 B12_7 HT_ ?_
       refine pE 7 19 B12_8 HT_ ?_
       refine pE 8 20 B12_9 HT_ ?_
       refine pE 9 21 B12_10 HT_ ?_
       refine pE 10 22 B12_11 HT_ ?_
       refine pE 11 23 B12_12 HT_ ?_
       refine pE 13 25 B12_13 HT_ ?_
       refine tE 12 24 B12_14 HT_ HW_ hHeld ?_
       refine tE 14 26 B12_15 HT_ HW_ hHeld ?_
       refine pE 15 27 B12_16 HT_ ?_
       refine pE 16 28 B12_17 HT_ ?_
       refine pE 17 29 B12_18 HT_ ?_
       refine done_ (done_of HT_.out (by kernel_rfl)) ?_
       try go_wp2
       go_ret
       exact ⟨by first | rfl | exact congrArg (fun b_ => Ending.returned (Value.bool b_)) HRET.out | (rw [HRET.out]) | (simp [errW_none, errW_some] <;> rfl) | (simp only [← hji8]; first | rfl | (simp [errW_none, errW_some] <;> rfl)) | (simp [*, errW_none, errW_some] <;> rfl), mH HB⟩
     ·
      rw [if_neg c7] at H; have c7b0 : decide (0 < x7_1) = false := qF c7; clear c7; have H' := kA H; clear H; have p145 : 0 ≤ (x7_1 : Int) := dT; have q145 : x7_1 < (l0.length : Int) := dT; obtain ⟨ad145, e145, hx145_0, hx145_1⟩ := at_T78 HR0.out x7_1 p145 q145
      cases e145
      replace hx145_0 := xC HB hx145_0; replace hx145_1 := xC HB hx145_1; replace p145 := eq_true p145; replace q145 := eq_true q145
      try go_wp2_with (first | ((with_reducible refine gate_dst (N := 4) rfl ?_); refine bxE 78 (cs := #[.string (⟨#[]⟩ : ByteArray), .int .i64 0]) ?_; intro gb146 hg w22 hbox hb; have BK146 := kA hbox; have GW146 := kG HB hg; have GE146 := kG HB hg; replace HB := kH HB hb; clear hb hbox hg; obtain ⟨hcz23_0, hfz23_0⟩ := cY0 BK146; obtain ⟨hcz23_1, hfz23_1⟩ := cY1 BK146))
      obtain ⟨w24, hw_, n_⟩ : ∃ W_, (w22.setCell ⟨gb146, 0, none⟩ (.string ((rV l0 x7_1).f0))).setCell ⟨gb146, 1, none⟩ (.int .i64 ((rV l0 x7_1).f1)) = W_ ∧ Aside0 (W_.heap[gb146]? = some (.cells #[.string ((rV l0 x7_1).f0), .int .i64 ((rV l0 x7_1).f1)] 78 (0, 0))) ∧ Aside0 (Below w.heap.size w W_) := ⟨_, rfl, ⟨pP BK146⟩, ⟨mH HB⟩⟩
      (try clear BK146); (try clear HB); rewrite [hw_]; clear hw_; obtain ⟨BK146, HB⟩ := n_; replace BK146 := kA (bD BK146.out); replace HB := kA (wD HB.out); refine start_ (n := 18) (S := fun w' => w'.cell? ⟨gb146, 0, none⟩ = some (.string ((rV l0 x7_1).f0)) ∧ w'.cell? ⟨gb146, 1, none⟩ = some (.int .i64 ((rV l0 x7_1).f1))) (ds := []) B12_0 (by kernel_rfl) rfl rfl ⟨cZ0 BK146, cZ1 BK146⟩ (fun hHeld => ?_); refine with_tabW name_May.tab4 name_May.bits4 (fun HT_ HW_ => ?_); generalize w24.drew = w25 at BK146 HB hHeld ⊢; refine take_ (i := 0) (N := some 12) (v := ?_) (a' := ?_) B12_1 rfl rfl (take_ofW HT_.out HW_.out (by kernel_rfl)) (fun _ _ _ h => h) (Or.inl ⟨by rfl, ?_⟩) hHeld ?_ ?_; rotate_left
      ·
       rintro w' ⟨s0, s1⟩; go_simp; with_reducible rfl
      rotate_left
      ·
       simp only [Act.put, lT, l0_, lS, i64_w, i32_w]; rfl
      refine one_ (i := 1) (N := some 13) B12_2 rfl rfl (one_of HT_.out (by kernel_rfl)) (by decide) (fun K hK => ?_); refine goes_ Try.func82 (by kernel_rfl) rfl #[.agg #[.string ((rV l0 x7_1).f0), .int .i64 ((rV l0 x7_1).f1)]] (by rfl) rfl rfl (by (try simp only [List.map_toArray, List.map_cons, List.map_nil]); first | done | rfl | (simp only [List.length_drop, List.length_take]; rfl)) ?_
      with_reducible refine (name_sole.calls k1 ((rV l0 x7_1).f0) ((rV l0 x7_1).f1) true _ A5.out).mono ?_
      rintro e w26 ⟨rfl, hb⟩; refine ⟨_, rfl, ?_⟩; replace BK146 := kB BK146 hb; replace HB := kH HB hb
      (try clear hb)
      refine hK.out _ _ ⟨cZ0 BK146, cZ1 BK146⟩ (fun hHeld => ?_); clear hK K; refine norm_ (a' := ?_) ?_ ?_; rotate_left
      ·
       show Act.put _ (some 13) _ = _
       simp only [Act.put, lT, l0_, lS, i64_w, i32_w]; rfl
      refine pE 2 14 B12_3 HT_ ?_
      refine pE 3 15 B12_4 HT_ ?_
      refine pE 4 16 B12_5 HT_ ?_
      refine pE 5 17 B12_6 HT_ ?_
      refine pE 6 18 B12_7 HT_ ?_
      refine pU 7 19 B12_8 HT_ ?_
      refine pU 8 20 B12_9 HT_ ?_
      refine pU 9 21 B12_10 HT_ ?_
      refine pU 10 22 B12_11 HT_ ?_
      refine pU 11 23 B12_12 HT_ ?_
      refine pU 12 24 B12_19 HT_ ?_
      refine pU 13 25 B12_14 HT_ ?_
      refine pU 14 26 B12_15 HT_ ?_
      refine pU 15 27 B12_16 HT_ ?_
      refine pE 16 28 B12_17 HT_ ?_
      refine pE 17 29 B12_18 HT_ ?_
      refine done_ (done_of HT_.out (by kernel_rfl)) ?_
      try go_wp2
      go_roundg k1
      case measure => have := HK1.out; omega
      case rel => exact ⟨(wrap64 (x7_1 + 1)), sI, H', ⟨oK HK1⟩, ⟨mH HB⟩⟩
    ·
     replace c6 := Bool.eq_false_iff.mpr c6; subst c6
     have H1 : (some false) = some r := by rw [if_neg (show ¬ (false = true) by decide)] at H; exact H
     clear H; have H := H1; clear H1; obtain rfl := qI H; have p145 : 0 ≤ (x7_1 : Int) := dT; have q145 : x7_1 < (l0.length : Int) := dT; obtain ⟨ad145, e145, hx145_0, hx145_1⟩ := at_T78 HR0.out x7_1 p145 q145
     cases e145
     replace hx145_0 := xC HB hx145_0; replace hx145_1 := xC HB hx145_1; replace p145 := eq_true p145; replace q145 := eq_true q145
     try go_wp2_with (first | ((with_reducible refine gate_dst (N := 4) rfl ?_); refine bxE 78 (cs := #[.string (⟨#[]⟩ : ByteArray), .int .i64 0]) ?_; intro gb146 hg w27 hbox hb; have BK146 := kA hbox; have GW146 := kG HB hg; have GE146 := kG HB hg; replace HB := kH HB hb; clear hb hbox hg; obtain ⟨hcz28_0, hfz28_0⟩ := cY0 BK146; obtain ⟨hcz28_1, hfz28_1⟩ := cY1 BK146))
     obtain ⟨w29, hw_, n_⟩ : ∃ W_, (w27.setCell ⟨gb146, 0, none⟩ (.string ((rV l0 x7_1).f0))).setCell ⟨gb146, 1, none⟩ (.int .i64 ((rV l0 x7_1).f1)) = W_ ∧ Aside0 (W_.heap[gb146]? = some (.cells #[.string ((rV l0 x7_1).f0), .int .i64 ((rV l0 x7_1).f1)] 78 (0, 0))) ∧ Aside0 (Below w.heap.size w W_) := ⟨_, rfl, ⟨pP BK146⟩, ⟨mH HB⟩⟩
     (try clear BK146); (try clear HB); rewrite [hw_]; clear hw_; obtain ⟨BK146, HB⟩ := n_; replace BK146 := kA (bD BK146.out); replace HB := kA (wD HB.out); refine start_ (n := 18) (S := fun w' => w'.cell? ⟨gb146, 0, none⟩ = some (.string ((rV l0 x7_1).f0)) ∧ w'.cell? ⟨gb146, 1, none⟩ = some (.int .i64 ((rV l0 x7_1).f1))) (ds := []) B12_0 (by kernel_rfl) rfl rfl ⟨cZ0 BK146, cZ1 BK146⟩ (fun hHeld => ?_); refine with_tabW name_May.tab4 name_May.bits4 (fun HT_ HW_ => ?_); generalize w29.drew = w30 at BK146 HB hHeld ⊢; refine take_ (i := 0) (N := some 12) (v := ?_) (a' := ?_) B12_1 rfl rfl (take_ofW HT_.out HW_.out (by kernel_rfl)) (fun _ _ _ h => h) (Or.inl ⟨by rfl, ?_⟩) hHeld ?_ ?_; rotate_left
     ·
      rintro w' ⟨s0, s1⟩; go_simp; with_reducible rfl
     rotate_left
     ·
      simp only [Act.put, lT, l0_, lS, i64_w, i32_w]; rfl
     refine one_ (i := 1) (N := some 13) B12_2 rfl rfl (one_of HT_.out (by kernel_rfl)) (by decide) (fun K hK => ?_); refine goes_ Try.func82 (by kernel_rfl) rfl #[.agg #[.string ((rV l0 x7_1).f0), .int .i64 ((rV l0 x7_1).f1)]] (by rfl) rfl rfl (by (try simp only [List.map_toArray, List.map_cons, List.map_nil]); first | done | rfl | (simp only [List.length_drop, List.length_take]; rfl)) ?_
     with_reducible refine (name_sole.calls k1 ((rV l0 x7_1).f0) ((rV l0 x7_1).f1) false _ A5.out).mono ?_
     rintro e w31 ⟨rfl, hb⟩; refine ⟨_, rfl, ?_⟩; replace BK146 := kB BK146 hb; replace HB := kH HB hb
     (try clear hb)
     refine hK.out _ _ ⟨cZ0 BK146, cZ1 BK146⟩ (fun hHeld => ?_); clear hK K; refine norm_ (a' := ?_) ?_ ?_; rotate_left
     ·
      show Act.put _ (some 13) _ = _
      simp only [Act.put, lT, l0_, lS, i64_w, i32_w]; rfl
     refine pE 2 14 B12_3 HT_ ?_
     refine pE 3 15 B12_4 HT_ ?_
     refine pU 4 16 B12_5 HT_ ?_
     refine pU 5 17 B12_6 HT_ ?_
     refine pU 6 18 B12_7 HT_ ?_
     refine pU 7 19 B12_8 HT_ ?_
     refine pU 8 20 B12_9 HT_ ?_
     refine pU 9 21 B12_10 HT_ ?_
     refine pU 10 22 B12_11 HT_ ?_
     refine pU 11 23 B12_12 HT_ ?_
     refine pU 12 24 B12_19 HT_ ?_
     refine pU 13 25 B12_14 HT_ ?_
     refine pU 14 26 B12_15 HT_ ?_
     refine pU 15 27 B12_16 HT_ ?_
     refine pU 16 28 B12_17 HT_ ?_
     refine pE 17 29 B12_18 HT_ ?_
     refine done_ (done_of HT_.out (by kernel_rfl)) ?_
     try go_wp2
     go_ret
     exact ⟨rT, mH HB⟩
   ·
    rw [if_neg c2] at H; have c2b0 := qF c2; clear c2; obtain rfl := qI H
    go_wp2
    go_ret
    exact ⟨rT, mH HB⟩
def node_May.f (k : Nat) (a0_0 : Int) (a0_1 : Int) (a0_2 : Int) (l0_3 : List Int) (l0_4 : List (S78)) : Option (Bool) := if a0_0 = 0 then (if a0_1 = 0 then (if a0_2 = 0 then (if (l0_3.length : Int) = 0 then (some ((l0_4.length : Int) == 0)) else (some false)) else (some false)) else (some false)) else (if a0_0 = 1 then ((node_file.f k a0_0 a0_1 a0_2 l0_3 l0_4).bind fun t150 => (some t150)) else (if a0_0 = 2 then (if a0_1 = 1 then (if a0_2 = 0 then (if (l0_3.length : Int) = 0 then ((name_May.f k l0_4).bind fun t151 => (some t151)) else (some false)) else (some false)) else (some false)) else (some false)))
theorem node_May.mono : ∀ a0 a1 a2 a3 a4 k, LeO (node_May.f k a0 a1 a2 a3 a4) (node_May.f (k + 1) a0 a1 a2 a3 a4) := by
 intro a0 a1 a2 a3 a4 k
 unfold node_May.f
 repeat' with_reducible first | apply name_May.mono | apply node_file.mono | exact LeO.refl _ | exact LeO.none _ | refine LeO.ite ?_ ?_ | refine LeO.bind ?_ (fun _ => ?_)
set_option maxHeartbeats 8000000 in
set_option maxRecDepth 100000 in
theorem node_May.calls (k : Nat) (a0_0 : Int) (a0_1 : Int) (a0_2 : Int) (A0_3 : Option Addr) (c0_3 : Nat) (l0_3 : List Int) (A0_4 : Option Addr) (c0_4 : Nat) (l0_4 : List (S78)) (r : Bool) (w : World) (hr0_3 : Kd.C (Kd.int .i64) w A0_3 l0_3.length l0_3) (hc0_3 : l0_3.length ≤ c0_3) (hr0_4 : Kd.C k78 w A0_4 l0_4.length l0_4) (hc0_4 : l0_4.length ≤ c0_4) (h : node_May.f k a0_0 a0_1 a0_2 l0_3 l0_4 = some r) :
 Calls Try.prog 48 #[.agg #[.int .i64 a0_0, .int .i64 a0_1, .int .i64 a0_2, .slice A0_3 l0_3.length c0_3, .slice A0_4 l0_4.length c0_4]] w fun e w' => e = .returned (.bool r) ∧ Below w.heap.size w w' := by
 have hu28 := Try.underlying28; have HR0_3 := kA hr0_3; have HC0_3 := kA hc0_3; clear hr0_3 hc0_3; have HR0_4 := kA hr0_4; have HC0_4 := kA hc0_4; clear hr0_4 hc0_4; have HB := kA (Below.refl w.heap.size w); have H : (if a0_0 = 0 then (if a0_1 = 0 then (if a0_2 = 0 then (if (l0_3.length : Int) = 0 then (some ((l0_4.length : Int) == 0)) else (some false)) else (some false)) else (some false)) else (if a0_0 = 1 then ((node_file.f k a0_0 a0_1 a0_2 l0_3 l0_4).bind fun t150 => (some t150)) else (if a0_0 = 2 then (if a0_1 = 1 then (if a0_2 = 0 then (if (l0_3.length : Int) = 0 then ((name_May.f k l0_4).bind fun t151 => (some t151)) else (some false)) else (some false)) else (some false)) else (some false)))) = some r := h; clear h
 by_cases c2 : a0_0 = 0
 ·
  rw [if_pos c2] at H; obtain ⟨c2b0, c2b1⟩ := eP c2; clear c2
  by_cases c3 : a0_1 = 0
  ·
   rw [if_pos c3] at H; obtain ⟨c3b0, c3b1⟩ := eP c3; clear c3
   by_cases c4 : a0_2 = 0
   ·
    rw [if_pos c4] at H; obtain ⟨c4b0, c4b1⟩ := eP c4; clear c4
    by_cases c5 : (l0_3.length : Int) = 0
    ·
     rw [if_pos c5] at H; obtain ⟨c5b0, c5b1⟩ := eP c5; clear c5; obtain rfl := qI H
     go_enter Try.func48, Try.ntmps48
     go_wp2_with (first | ((with_reducible refine gate_dst (N := 1) rfl ?_); (try (refine gate_guard (by rfl) ?_; dsimp only)); refine bxE 28 (cs := #[.int .i64 a0_0, .int .i64 a0_1, .int .i64 a0_2, .slice A0_3 l0_3.length c0_3, .slice A0_4 l0_4.length c0_4]) ?_; intro gb149 hg w6 hbox hb; have BK149 := kA hbox; have GW149 := kG HB hg; have GE149 := kG HB hg; replace HB := kH HB hb; clear hb hbox hg; obtain ⟨hcz7_0, hfz7_0⟩ := cY0 BK149; obtain ⟨hcz7_1, hfz7_1⟩ := cY1 BK149; obtain ⟨hcz7_2, hfz7_2⟩ := cY2 BK149; obtain ⟨hcz7_3, hfz7_3⟩ := cY3 BK149; obtain ⟨hcz7_4, hfz7_4⟩ := cY4 BK149))
     go_ret
     exact ⟨rT, mH HB⟩
    ·
     rw [if_neg c5] at H; obtain ⟨c5b0, c5b1⟩ := eN c5
     have c5b2 : ¬ (l0_3 = []) := fun h_ => c5 (by rw [h_]; rfl)
     obtain rfl := qI H
     go_enter Try.func48, Try.ntmps48
     go_wp2_with (first | ((with_reducible refine gate_dst (N := 1) rfl ?_); (try (refine gate_guard (by rfl) ?_; dsimp only)); refine bxE 28 (cs := #[.int .i64 a0_0, .int .i64 a0_1, .int .i64 a0_2, .slice A0_3 l0_3.length c0_3, .slice A0_4 l0_4.length c0_4]) ?_; intro gb149 hg w8 hbox hb; have BK149 := kA hbox; have GW149 := kG HB hg; have GE149 := kG HB hg; replace HB := kH HB hb; clear hb hbox hg; obtain ⟨hcz9_0, hfz9_0⟩ := cY0 BK149; obtain ⟨hcz9_1, hfz9_1⟩ := cY1 BK149; obtain ⟨hcz9_2, hfz9_2⟩ := cY2 BK149; obtain ⟨hcz9_3, hfz9_3⟩ := cY3 BK149; obtain ⟨hcz9_4, hfz9_4⟩ := cY4 BK149))
     go_ret
     exact ⟨rT, mH HB⟩
   ·
    rw [if_neg c4] at H; obtain ⟨c4b0, c4b1⟩ := eN c4; obtain rfl := qI H
    go_enter Try.func48, Try.ntmps48
    go_wp2_with (first | ((with_reducible refine gate_dst (N := 1) rfl ?_); (try (refine gate_guard (by rfl) ?_; dsimp only)); refine bxE 28 (cs := #[.int .i64 a0_0, .int .i64 a0_1, .int .i64 a0_2, .slice A0_3 l0_3.length c0_3, .slice A0_4 l0_4.length c0_4]) ?_; intro gb149 hg w10 hbox hb; have BK149 := kA hbox; have GW149 := kG HB hg; have GE149 := kG HB hg; replace HB := kH HB hb; clear hb hbox hg; obtain ⟨hcz11_0, hfz11_0⟩ := cY0 BK149; obtain ⟨hcz11_1, hfz11_1⟩ := cY1 BK149; obtain ⟨hcz11_2, hfz11_2⟩ := cY2 BK149; obtain ⟨hcz11_3, hfz11_3⟩ := cY3 BK149; obtain ⟨hcz11_4, hfz11_4⟩ := cY4 BK149))
    go_ret
    exact ⟨rT, mH HB⟩
  ·
   rw [if_neg c3] at H; obtain ⟨c3b0, c3b1⟩ := eN c3; obtain rfl := qI H
   go_enter Try.func48, Try.ntmps48
   go_wp2_with (first | ((with_reducible refine gate_dst (N := 1) rfl ?_); (try (refine gate_guard (by rfl) ?_; dsimp only)); refine bxE 28 (cs := #[.int .i64 a0_0, .int .i64 a0_1, .int .i64 a0_2, .slice A0_3 l0_3.length c0_3, .slice A0_4 l0_4.length c0_4]) ?_; intro gb149 hg w12 hbox hb; have BK149 := kA hbox; have GW149 := kG HB hg; have GE149 := kG HB hg; replace HB := kH HB hb; clear hb hbox hg; obtain ⟨hcz13_0, hfz13_0⟩ := cY0 BK149; obtain ⟨hcz13_1, hfz13_1⟩ := cY1 BK149; obtain ⟨hcz13_2, hfz13_2⟩ := cY2 BK149; obtain ⟨hcz13_3, hfz13_3⟩ := cY3 BK149; obtain ⟨hcz13_4, hfz13_4⟩ := cY4 BK149))
   go_ret
   exact ⟨rT, mH HB⟩
 ·
  rw [if_neg c2] at H; obtain ⟨c2b0, c2b1⟩ := eN c2
  by_cases c14 : a0_0 = 1
  ·
   rw [if_pos c14] at H; obtain ⟨c14b0, c14b1⟩ := eP c14; clear c14; replace H := qB H; obtain ⟨t150, A150, H⟩ := H; have A15 := kA A150; clear A150; obtain rfl := qI H
   go_enter Try.func48, Try.ntmps48
   go_wp2_with (first | ((with_reducible refine gate_dst (N := 1) rfl ?_); (try (refine gate_guard (by rfl) ?_; dsimp only)); refine bxE 28 (cs := #[.int .i64 a0_0, .int .i64 a0_1, .int .i64 a0_2, .slice A0_3 l0_3.length c0_3, .slice A0_4 l0_4.length c0_4]) ?_; intro gb149 hg w16 hbox hb; have BK149 := kA hbox; have GW149 := kG HB hg; have GE149 := kG HB hg; replace HB := kH HB hb; clear hb hbox hg; obtain ⟨hcz17_0, hfz17_0⟩ := cY0 BK149; obtain ⟨hcz17_1, hfz17_1⟩ := cY1 BK149; obtain ⟨hcz17_2, hfz17_2⟩ := cY2 BK149; obtain ⟨hcz17_3, hfz17_3⟩ := cY3 BK149; obtain ⟨hcz17_4, hfz17_4⟩ := cY4 BK149) | ((with_reducible refine gate_callee (f := 67) rfl ?_); refine goesK (some 30) Try.func67 #[.agg #[.int .i64 a0_0, .int .i64 a0_1, .int .i64 a0_2, .slice A0_3 l0_3.length c0_3, .slice A0_4 l0_4.length c0_4]] ?_; (with_reducible refine (node_file.calls k a0_0 a0_1 a0_2 _ _ l0_3 _ _ l0_4 t150 _ ?side1 ?side2 ?side3 ?side4 A15.out).mono ?_); (case side1 => exact mC HR0_3 HB); (case side2 => exact HC0_3.out); (case side3 => exact mC HR0_4 HB); (case side4 => exact HC0_4.out); rintro e w18 ⟨rfl, hb⟩; refine ⟨_, rfl, ?_⟩; replace BK149 := kB BK149 hb; replace HB := kH HB hb; (try clear hb)))
   go_ret
   exact ⟨rT, mH HB⟩
  ·
   rw [if_neg c14] at H; obtain ⟨c14b0, c14b1⟩ := eN c14
   by_cases c19 : a0_0 = 2
   ·
    rw [if_pos c19] at H; obtain ⟨c19b0, c19b1⟩ := eP c19; clear c19
    by_cases c20 : a0_1 = 1
    ·
     rw [if_pos c20] at H; obtain ⟨c20b0, c20b1⟩ := eP c20; clear c20
     by_cases c21 : a0_2 = 0
     ·
      rw [if_pos c21] at H; obtain ⟨c21b0, c21b1⟩ := eP c21; clear c21
      by_cases c22 : (l0_3.length : Int) = 0
      ·
       rw [if_pos c22] at H; obtain ⟨c22b0, c22b1⟩ := eP c22; clear c22; replace H := qB H; obtain ⟨t151, A230, H⟩ := H; have A23 := kA A230; clear A230; obtain rfl := qI H
       go_enter Try.func48, Try.ntmps48
       go_wp2_with (first | ((with_reducible refine gate_dst (N := 1) rfl ?_); (try (refine gate_guard (by rfl) ?_; dsimp only)); refine bxE 28 (cs := #[.int .i64 a0_0, .int .i64 a0_1, .int .i64 a0_2, .slice A0_3 l0_3.length c0_3, .slice A0_4 l0_4.length c0_4]) ?_; intro gb149 hg w24 hbox hb; have BK149 := kA hbox; have GW149 := kG HB hg; have GE149 := kG HB hg; replace HB := kH HB hb; clear hb hbox hg; obtain ⟨hcz25_0, hfz25_0⟩ := cY0 BK149; obtain ⟨hcz25_1, hfz25_1⟩ := cY1 BK149; obtain ⟨hcz25_2, hfz25_2⟩ := cY2 BK149; obtain ⟨hcz25_3, hfz25_3⟩ := cY3 BK149; obtain ⟨hcz25_4, hfz25_4⟩ := cY4 BK149) | (go_at_call 68; (with_reducible refine (name_May.calls k _ _ l0_4 t151 _ ?side1 ?side2 A23.out).mono ?_); (case side1 => exact mC HR0_4 HB); (case side2 => exact HC0_4.out); rintro e w26 ⟨rfl, hb⟩; replace BK149 := kB BK149 hb; replace HB := kH HB hb; (try clear hb)))
       go_ret
       exact ⟨rT, mH HB⟩
      ·
       rw [if_neg c22] at H; obtain ⟨c22b0, c22b1⟩ := eN c22
       have c22b2 : ¬ (l0_3 = []) := fun h_ => c22 (by rw [h_]; rfl)
       obtain rfl := qI H
       go_enter Try.func48, Try.ntmps48
       go_wp2_with (first | ((with_reducible refine gate_dst (N := 1) rfl ?_); (try (refine gate_guard (by rfl) ?_; dsimp only)); refine bxE 28 (cs := #[.int .i64 a0_0, .int .i64 a0_1, .int .i64 a0_2, .slice A0_3 l0_3.length c0_3, .slice A0_4 l0_4.length c0_4]) ?_; intro gb149 hg w27 hbox hb; have BK149 := kA hbox; have GW149 := kG HB hg; have GE149 := kG HB hg; replace HB := kH HB hb; clear hb hbox hg; obtain ⟨hcz28_0, hfz28_0⟩ := cY0 BK149; obtain ⟨hcz28_1, hfz28_1⟩ := cY1 BK149; obtain ⟨hcz28_2, hfz28_2⟩ := cY2 BK149; obtain ⟨hcz28_3, hfz28_3⟩ := cY3 BK149; obtain ⟨hcz28_4, hfz28_4⟩ := cY4 BK149))
       go_ret
       exact ⟨rT, mH HB⟩
     ·
      rw [if_neg c21] at H; obtain ⟨c21b0, c21b1⟩ := eN c21; obtain rfl := qI H
      go_enter Try.func48, Try.ntmps48
      go_wp2_with (first | ((with_reducible refine gate_dst (N := 1) rfl ?_); (try (refine gate_guard (by rfl) ?_; dsimp only)); refine bxE 28 (cs := #[.int .i64 a0_0, .int .i64 a0_1, .int .i64 a0_2, .slice A0_3 l0_3.length c0_3, .slice A0_4 l0_4.length c0_4]) ?_; intro gb149 hg w29 hbox hb; have BK149 := kA hbox; have GW149 := kG HB hg; have GE149 := kG HB hg; replace HB := kH HB hb; clear hb hbox hg; obtain ⟨hcz30_0, hfz30_0⟩ := cY0 BK149; obtain ⟨hcz30_1, hfz30_1⟩ := cY1 BK149; obtain ⟨hcz30_2, hfz30_2⟩ := cY2 BK149; obtain ⟨hcz30_3, hfz30_3⟩ := cY3 BK149; obtain ⟨hcz30_4, hfz30_4⟩ := cY4 BK149))
      go_ret
      exact ⟨rT, mH HB⟩
    ·
     rw [if_neg c20] at H; obtain ⟨c20b0, c20b1⟩ := eN c20; obtain rfl := qI H
     go_enter Try.func48, Try.ntmps48
     go_wp2_with (first | ((with_reducible refine gate_dst (N := 1) rfl ?_); (try (refine gate_guard (by rfl) ?_; dsimp only)); refine bxE 28 (cs := #[.int .i64 a0_0, .int .i64 a0_1, .int .i64 a0_2, .slice A0_3 l0_3.length c0_3, .slice A0_4 l0_4.length c0_4]) ?_; intro gb149 hg w31 hbox hb; have BK149 := kA hbox; have GW149 := kG HB hg; have GE149 := kG HB hg; replace HB := kH HB hb; clear hb hbox hg; obtain ⟨hcz32_0, hfz32_0⟩ := cY0 BK149; obtain ⟨hcz32_1, hfz32_1⟩ := cY1 BK149; obtain ⟨hcz32_2, hfz32_2⟩ := cY2 BK149; obtain ⟨hcz32_3, hfz32_3⟩ := cY3 BK149; obtain ⟨hcz32_4, hfz32_4⟩ := cY4 BK149))
     go_ret
     exact ⟨rT, mH HB⟩
   ·
    rw [if_neg c19] at H; obtain ⟨c19b0, c19b1⟩ := eN c19; obtain rfl := qI H
    go_enter Try.func48, Try.ntmps48
    go_wp2_with (first | ((with_reducible refine gate_dst (N := 1) rfl ?_); (try (refine gate_guard (by rfl) ?_; dsimp only)); refine bxE 28 (cs := #[.int .i64 a0_0, .int .i64 a0_1, .int .i64 a0_2, .slice A0_3 l0_3.length c0_3, .slice A0_4 l0_4.length c0_4]) ?_; intro gb149 hg w33 hbox hb; have BK149 := kA hbox; have GW149 := kG HB hg; have GE149 := kG HB hg; replace HB := kH HB hb; clear hb hbox hg; obtain ⟨hcz34_0, hfz34_0⟩ := cY0 BK149; obtain ⟨hcz34_1, hfz34_1⟩ := cY1 BK149; obtain ⟨hcz34_2, hfz34_2⟩ := cY2 BK149; obtain ⟨hcz34_3, hfz34_3⟩ := cY3 BK149; obtain ⟨hcz34_4, hfz34_4⟩ := cY4 BK149))
    go_ret
    exact ⟨rT, mH HB⟩
def dmBad (k : Nat) : List S28 → Int → Option Int
 | [], _ => some (-1)
 | x :: r, i => (node_May.f k x.f0 x.f1 x.f2 x.f3 x.f4).bind fun b => if b = true then dmBad k r (i + 1) else some i
theorem dmBad_mono (k : Nat) : ∀ (l : List S28) (i : Int), LeO (dmBad k l i) (dmBad (k + 1) l i)
 | [], _ => LeO.refl _
 | x :: r, i => LeO.bind (node_May.mono _ _ _ _ _ _) (fun b => LeO.ite (dmBad_mono k r (i + 1)) (LeO.refl _))
set_option maxHeartbeats 4000000 in
theorem dm_clo (k : Nat) (a0 a1 a2 : Int) (A3 : Option Addr) (c3 : Nat) (l3 : List Int) (A4 : Option Addr) (c4 : Nat) (l4 : List S78) (b : Bool) (w : World)
 (hr3 : Kd.C (Kd.int .i64) w A3 l3.length l3) (hc3 : l3.length ≤ c3) (hr4 : Kd.C k78 w A4 l4.length l4) (hc4 : l4.length ≤ c4) (h : node_May.f k a0 a1 a2 l3 l4 = some b) :
 Calls Try.prog 71 #[.agg #[.int .i64 a0, .int .i64 a1, .int .i64 a2, .slice A3 l3.length c3, .slice A4 l4.length c4]] w fun e w' => e = .returned (.bool (!b)) ∧ Below w.heap.size w w' := by
 have hu28 := Try.underlying28; have HR3 := kA hr3; have HC3 := kA hc3; clear hr3 hc3; have HR4 := kA hr4; have HC4 := kA hc4; clear hr4 hc4; have HB := kA (Below.refl w.heap.size w); have HH := kA h; clear h
 go_enter Try.func71, Try.ntmps71
 go_wp2_with (first | ((with_reducible refine gate_dst (N := 1) rfl ?_); refine bxE 28 (cs := #[.int .i64 a0, .int .i64 a1, .int .i64 a2, .slice A3 l3.length c3, .slice A4 l4.length c4]) ?_; intro gb hg w2 hbox hb; replace HB := kA (below_step HB.out hb); clear hb hg; have hcz0 := (bC hbox 0).trans rfl; have hcz1 := (bC hbox 1).trans rfl; have hcz2 := (bC hbox 2).trans rfl; have hcz3 := (bC hbox 3).trans rfl; have hcz4 := (bC hbox 4).trans rfl) | (go_at_call 48; refine (node_May.calls k a0 a1 a2 _ _ l3 _ _ l4 b _ ?side1 ?side2 ?side3 ?side4 HH.out).mono ?_; (case side1 => exact (Kd.C_below HR3.out HB.out)); (case side2 => exact HC3.out); (case side3 => exact (Kd.C_below HR4.out HB.out)); (case side4 => exact HC4.out); rintro e w' ⟨rfl, hb⟩; replace HB := kA (below_step HB.out hb)))
 all_goals (go_ret; exact ⟨by simp, HB.out⟩)
set_option maxHeartbeats 8000000 in
theorem dm_idx (k : Nat) (A : Option Addr) (c : Nat) (l : List S28) (r : Int) (w : World) (hr : Kd.C k28 w A l.length l) (hc : l.length ≤ c) (hL : (l.length : Int) < 9223372036854775807) (hr_ : dmBad k l 0 = some r) :
 Calls Try.prog 80 #[.slice A l.length c, .func (.func 71) #[] #[]] w fun e w' => e = .returned (.int .i64 r) ∧ Below w.heap.size w w' := by
 have hu28 := Try.underlying28; have HR0 := kA hr; have HB := kA (Below.refl w.heap.size w); have HP := kA hr_; have LL := kA hL; clear hr hc hr_ hL
 go_enter Try.func80, Try.ntmps80
 go_wp2
 go_loopg [5, 8] l.length (fun gk v5 v8 w' => ∃ kk : Nat, kk ≤ l.length ∧ l.length - kk ≤ gk ∧ v8 = .int .i64 kk ∧ Aside0 (dmBad k (l.drop kk) kk = some r) ∧ Aside0 (Below w.heap.size w w'))
 case atStart => exact ⟨0, Nat.zero_le _, by omega, rfl, ⟨by simpa using HP.out⟩, HB⟩
 case round =>
  obtain ⟨kk, hkk, hgk, rfl, HQ, HB⟩ := hrel; clear HP
  by_cases hlt : kk < l.length
  ·
   have c3b0 : decide ((kk : Int) < (l.length : Int)) = true := qT (by omega)
   have p124 : 0 ≤ (kk : Int) := by omega
   have q124 : (kk : Int) < (l.length : Int) := by omega
   obtain ⟨ad124, A3, c3, A4, c4, e124, hx124_0, hx124_1, hx124_2, hx124_3, hx124_4, hl3, hi3, hl4, hi4⟩ := at_T28 HR0.out kk p124 q124
   cases e124
   replace hx124_0 := xC HB hx124_0; replace hx124_1 := xC HB hx124_1; replace hx124_2 := xC HB hx124_2; replace hx124_3 := xC HB hx124_3; replace hx124_4 := xC HB hx124_4; simp only [Int.toNat_natCast] at hx124_0 hx124_1 hx124_2 hx124_3 hx124_4; replace p124 := eq_true p124; replace q124 := eq_true q124
   have hd : l.drop kk = rU l kk :: l.drop (kk + 1) := by
    rw [List.drop_eq_getElem_cons hlt]; unfold rU; rw [Int.toNat_natCast, qG, List.getElem?_eq_getElem hlt]; rfl
   have hq := HQ.out; rw [hd] at hq; simp only [dmBad] at hq; obtain ⟨b, hb0, hq⟩ := qB hq; have hW : kk + 1 ≤ l.length := hlt
   have HC0 := fun W hW => dm_clo k (rU l kk).f0 (rU l kk).f1 (rU l kk).f2 A3 c3 (rU l kk).f3 A4 c4 (rU l kk).f4 b W (Kd.C_below hi3 hW) hl3 (Kd.C_below hi4 hW) hl4 hb0
   have HC := kA HC0; clear hd hi3 hi4 hl3 hl4 hb0 HC0
   cases b with
   | false =>
    rw [if_neg (by decide)] at hq; obtain rfl := qI hq; clear hq
    go_wp2_with (go_at_call 71; refine (HC.out _ HB.out).mono ?_; rintro e w' ⟨rfl, hb'⟩)
    go_ret
    exact ⟨rfl, below_step HB.out hb'⟩
   | true =>
    rw [if_pos rfl] at hq; have HQ := kA hq; clear hq
    go_wp2_with (go_at_call 71; refine (HC.out _ HB.out).mono ?_; rintro e w' ⟨rfl, hb'⟩)
    go_roundg (l.length - (kk + 1))
    case measure => omega
    case rel =>
     have e_ : wrap64 ((kk : Int) + 1) = ((kk + 1 : Nat) : Int) := by have := LL.out; unfold wrap64; omega
     exact ⟨kk + 1, by omega, by omega, by rw [e_], ⟨by have := HQ.out; push_cast; exact this⟩, ⟨below_step HB.out hb'⟩⟩
  ·
   have : kk = l.length := by omega
   subst this; have hq := HQ.out; rw [List.drop_length] at hq; simp only [dmBad] at hq; obtain rfl := qI hq
   go_wp2
   go_ret
   exact ⟨rfl, HB.out⟩
set_option maxHeartbeats 4000000 in
theorem dm_any (k : Nat) (A : Option Addr) (c : Nat) (l : List S28) (r : Int) (w : World) (hr : Kd.C k28 w A l.length l) (hc : l.length ≤ c) (hL : (l.length : Int) < 9223372036854775807) (hr_ : dmBad k l 0 = some r) :
 Calls Try.prog 64 #[.slice A l.length c, .func (.func 71) #[] #[]] w fun e w' => e = .returned (.bool (decide (0 ≤ r))) ∧ Below w.heap.size w w' := by
 have hcon := dm_idx k A c l r w hr hc hL hr_; clear hr_ hr hc hL
 go_enter Try.func64, Try.ntmps64
 go_wp2_with (go_at_call 80; refine hcon.mono ?_; rintro e w' ⟨rfl, hb'⟩)
 go_ret
 exact ⟨rfl, hb'⟩
def api_Node_64.f (k : Nat) (l0 : List (S28)) : Option (Bool) := if l0.length = 12 then (dmBad k l0 0).bind fun i => some (decide (0 ≤ i)) else none
theorem api_Node_64.mono : ∀ a0 k, LeO (api_Node_64.f k a0) (api_Node_64.f (k + 1) a0) := fun a0 k => LeO.ite (LeO.bind (dmBad_mono k a0 0) (fun _ => LeO.refl _)) (LeO.refl _)
theorem api_Node_64.calls (k : Nat) (A0 : Option Addr) (c0 : Nat) (l0 : List (S28)) (r : Bool) (w : World) (hr0 : Kd.C k28 w A0 l0.length l0) (hc0 : l0.length ≤ c0) (h : api_Node_64.f k l0 = some r) :
 Calls Try.prog 64 #[.slice A0 l0.length c0, .func (.func 71) #[] #[]] w fun e w' => e = .returned (.bool r) ∧ Below w.heap.size w w' := by
 unfold api_Node_64.f at h
 by_cases hl : l0.length = 12
 ·
  rw [if_pos hl] at h; obtain ⟨i, hi, h⟩ := qB h; obtain rfl := qI h; exact dm_any k A0 c0 l0 i w hr0 hc0 (by omega) hi
 ·
  rw [if_neg hl] at h; cases h
def badAt (k : Nat) : List S28 → Int → Option Int
 | [], _ => some (-1)
 | x :: r, i => (node_May.f k x.f0 x.f1 x.f2 x.f3 x.f4).bind fun b => if b = true then badAt k r (i + 1) else some i
theorem badAt_mono (k : Nat) : ∀ (l : List S28) (i : Int), LeO (badAt k l i) (badAt (k + 1) l i)
 | [], _ => LeO.refl _
 | x :: r, i => LeO.bind (node_May.mono _ _ _ _ _ _) (fun b => LeO.ite (badAt_mono k r (i + 1)) (LeO.refl _))
set_option maxHeartbeats 4000000 in
theorem bad_clo (k : Nat) (a0 a1 a2 : Int) (A3 : Option Addr) (c3 : Nat) (l3 : List Int) (A4 : Option Addr) (c4 : Nat) (l4 : List S78) (b : Bool) (w : World)
 (hr3 : Kd.C (Kd.int .i64) w A3 l3.length l3) (hc3 : l3.length ≤ c3) (hr4 : Kd.C k78 w A4 l4.length l4) (hc4 : l4.length ≤ c4) (h : node_May.f k a0 a1 a2 l3 l4 = some b) :
 Calls Try.prog 65 #[.agg #[.int .i64 a0, .int .i64 a1, .int .i64 a2, .slice A3 l3.length c3, .slice A4 l4.length c4]] w fun e w' => e = .returned (.bool (!b)) ∧ Below w.heap.size w w' := by
 have hu28 := Try.underlying28; have HR3 := kA hr3; have HC3 := kA hc3; clear hr3 hc3; have HR4 := kA hr4; have HC4 := kA hc4; clear hr4 hc4; have HB := kA (Below.refl w.heap.size w); have HH := kA h; clear h
 go_enter Try.func65, Try.ntmps65
 go_wp2_with (first | ((with_reducible refine gate_dst (N := 1) rfl ?_); refine bxE 28 (cs := #[.int .i64 a0, .int .i64 a1, .int .i64 a2, .slice A3 l3.length c3, .slice A4 l4.length c4]) ?_; intro gb hg w2 hbox hb; replace HB := kA (below_step HB.out hb); clear hb hg; have hcz0 := (bC hbox 0).trans rfl; have hcz1 := (bC hbox 1).trans rfl; have hcz2 := (bC hbox 2).trans rfl; have hcz3 := (bC hbox 3).trans rfl; have hcz4 := (bC hbox 4).trans rfl) | (go_at_call 48; refine (node_May.calls k a0 a1 a2 _ _ l3 _ _ l4 b _ ?side1 ?side2 ?side3 ?side4 HH.out).mono ?_; (case side1 => exact (Kd.C_below HR3.out HB.out)); (case side2 => exact HC3.out); (case side3 => exact (Kd.C_below HR4.out HB.out)); (case side4 => exact HC4.out); rintro e w' ⟨rfl, hb⟩; replace HB := kA (below_step HB.out hb)))
 all_goals (go_ret; exact ⟨by simp, HB.out⟩)
set_option maxHeartbeats 8000000 in
theorem off_idx (k : Nat) (A : Option Addr) (c : Nat) (l : List S28) (r : Int) (w : World) (hr : Kd.C k28 w A l.length l) (hc : l.length ≤ c) (hL : (l.length : Int) < 9223372036854775807) (hr_ : badAt k l 0 = some r) :
 Calls Try.prog 80 #[.slice A l.length c, .func (.func 65) #[] #[]] w fun e w' => e = .returned (.int .i64 r) ∧ Below w.heap.size w w' := by
 have hu28 := Try.underlying28; have HR0 := kA hr; have HB := kA (Below.refl w.heap.size w); have HP := kA hr_; have LL := kA hL; clear hr hc hr_ hL
 go_enter Try.func80, Try.ntmps80
 go_wp2
 go_loopg [5, 8] l.length (fun gk v5 v8 w' => ∃ kk : Nat, kk ≤ l.length ∧ l.length - kk ≤ gk ∧ v8 = .int .i64 kk ∧ Aside0 (badAt k (l.drop kk) kk = some r) ∧ Aside0 (Below w.heap.size w w'))
 case atStart => exact ⟨0, Nat.zero_le _, by omega, rfl, ⟨by simpa using HP.out⟩, HB⟩
 case round =>
  obtain ⟨kk, hkk, hgk, rfl, HQ, HB⟩ := hrel; clear HP
  by_cases hlt : kk < l.length
  ·
   have c3b0 : decide ((kk : Int) < (l.length : Int)) = true := qT (by omega)
   have p124 : 0 ≤ (kk : Int) := by omega
   have q124 : (kk : Int) < (l.length : Int) := by omega
   obtain ⟨ad124, A3, c3, A4, c4, e124, hx124_0, hx124_1, hx124_2, hx124_3, hx124_4, hl3, hi3, hl4, hi4⟩ := at_T28 HR0.out kk p124 q124
   cases e124
   replace hx124_0 := xC HB hx124_0; replace hx124_1 := xC HB hx124_1; replace hx124_2 := xC HB hx124_2; replace hx124_3 := xC HB hx124_3; replace hx124_4 := xC HB hx124_4; simp only [Int.toNat_natCast] at hx124_0 hx124_1 hx124_2 hx124_3 hx124_4; replace p124 := eq_true p124; replace q124 := eq_true q124
   have hd : l.drop kk = rU l kk :: l.drop (kk + 1) := by
    rw [List.drop_eq_getElem_cons hlt]; unfold rU; rw [Int.toNat_natCast, qG, List.getElem?_eq_getElem hlt]; rfl
   have hq := HQ.out; rw [hd] at hq; simp only [badAt] at hq; obtain ⟨b, hb0, hq⟩ := qB hq; have hW : kk + 1 ≤ l.length := hlt
   have HC0 := fun W hW => bad_clo k (rU l kk).f0 (rU l kk).f1 (rU l kk).f2 A3 c3 (rU l kk).f3 A4 c4 (rU l kk).f4 b W (Kd.C_below hi3 hW) hl3 (Kd.C_below hi4 hW) hl4 hb0
   have HC := kA HC0; clear hd hi3 hi4 hl3 hl4 hb0 HC0
   cases b with
   | false =>
    rw [if_neg (by decide)] at hq; obtain rfl := qI hq; clear hq
    go_wp2_with (go_at_call 65; refine (HC.out _ HB.out).mono ?_; rintro e w' ⟨rfl, hb'⟩)
    go_ret
    exact ⟨rfl, below_step HB.out hb'⟩
   | true =>
    rw [if_pos rfl] at hq; have HQ := kA hq; clear hq
    go_wp2_with (go_at_call 65; refine (HC.out _ HB.out).mono ?_; rintro e w' ⟨rfl, hb'⟩)
    go_roundg (l.length - (kk + 1))
    case measure => omega
    case rel =>
     have e_ : wrap64 ((kk : Int) + 1) = ((kk + 1 : Nat) : Int) := by have := LL.out; unfold wrap64; omega
     exact ⟨kk + 1, by omega, by omega, by rw [e_], ⟨by have := HQ.out; push_cast; exact this⟩, ⟨below_step HB.out hb'⟩⟩
  ·
   have : kk = l.length := by omega
   subst this; have hq := HQ.out; rw [List.drop_length] at hq; simp only [badAt] at hq; obtain rfl := qI hq
   go_wp2
   go_ret
   exact ⟨rfl, HB.out⟩
set_option maxHeartbeats 4000000 in
theorem off_any (k : Nat) (A : Option Addr) (c : Nat) (l : List S28) (r : Int) (w : World) (hr : Kd.C k28 w A l.length l) (hc : l.length ≤ c) (hL : (l.length : Int) < 9223372036854775807) (hr_ : badAt k l 0 = some r) :
 Calls Try.prog 64 #[.slice A l.length c, .func (.func 65) #[] #[]] w fun e w' => e = .returned (.bool (decide (0 ≤ r))) ∧ Below w.heap.size w w' := by
 have hcon := off_idx k A c l r w hr hc hL hr_; clear hr_ hr hc hL
 go_enter Try.func64, Try.ntmps64
 go_wp2_with (go_at_call 80; refine hcon.mono ?_; rintro e w' ⟨rfl, hb'⟩)
 go_ret
 exact ⟨rfl, hb'⟩
set_option maxHeartbeats 4000000 in
theorem off_walk (k : Nat) (A : Option Addr) (c : Nat) (l : List S28) (r : Bool) (w : World) (hr : Kd.C k28 w A l.length l) (hc : l.length ≤ c) (h : (if l.length = 12 then (badAt k l 0).bind fun i => some (decide (0 ≤ i)) else some true) = some r) :
 Calls Try.prog 45 #[.agg #[.slice A l.length c]] w fun e w' => e = .returned (.bool r) ∧ Below w.heap.size w w' := by
 have hu24 := Try.underlying24; have HB := kA (Below.refl w.heap.size w)
 by_cases h4 : l.length = 12
 ·
  rw [if_pos h4] at h; obtain ⟨i, hi, h⟩ := qB h; obtain rfl := qI h; have hcon := kA (fun W (hW : Below w.heap.size w W) => off_any k A c l i W (Kd.C_below hr hW) hc (by omega) hi); have e4 : ((l.length : Int) != 12) = false := bne_eq_false_iff_eq.mpr (by omega); clear h4 hi hr hc
  go_enter Try.func45, Try.ntmps45
  go_wp2_with (first | ((with_reducible refine gate_dst (N := 1) rfl ?_); refine bxE 24 (cs := #[.slice A l.length c]) ?_; intro gb hg w2 hbox hb; replace HB := kA (below_step HB.out hb); clear hb hg; have hcz0 : w2.cell? ⟨gb, 0, none⟩ = some (.slice A l.length c) := (bC hbox 0).trans rfl) | (go_at_call 64; refine (hcon.out _ HB.out).mono ?_; rintro e w' ⟨rfl, hb'⟩; have n0_ := kA (below_step HB.out hb'); clear HB; have HB := n0_; clear n0_ hb'))
  go_ret
  exact ⟨rfl, HB.out⟩
 ·
  rw [if_neg h4] at h; obtain rfl := qI h; have e4 : ((l.length : Int) != 12) = true := bne_iff_ne.mpr (by omega); clear hr hc
  go_enter Try.func45, Try.ntmps45
  go_wp2_with (first | ((with_reducible refine gate_dst (N := 1) rfl ?_); refine bxE 24 (cs := #[.slice A l.length c]) ?_; intro gb hg w2 hbox hb; replace HB := kA (below_step HB.out hb); clear hb hg; have hcz0 : w2.cell? ⟨gb, 0, none⟩ = some (.slice A l.length c) := (bC hbox 0).trans rfl))
  go_ret
  exact ⟨rfl, HB.out⟩
def quota_off.f (k : Nat) (l0_0 : List (S28)) : Option (Bool) := if l0_0.length = 12 then (badAt k l0_0 0).bind fun i => some (decide (0 ≤ i)) else some true
theorem quota_off.mono : ∀ a0 k, LeO (quota_off.f k a0) (quota_off.f (k + 1) a0) := fun a0 k => LeO.ite (LeO.bind (badAt_mono k a0 0) (fun _ => LeO.refl _)) (LeO.refl _)
theorem quota_off.calls (k : Nat) (A0_0 : Option Addr) (c0_0 : Nat) (l0_0 : List (S28)) (r : Bool) (w : World) (hr0_0 : Kd.C k28 w A0_0 l0_0.length l0_0) (hc0_0 : l0_0.length ≤ c0_0) (h : quota_off.f k l0_0 = some r) :
 Calls Try.prog 45 #[.agg #[.slice A0_0 l0_0.length c0_0]] w fun e w' => e = .returned (.bool r) ∧ Below w.heap.size w w' := by
 unfold quota_off.f at h
 exact off_walk k A0_0 c0_0 l0_0 r w hr0_0 hc0_0 h
mutual
def node_Refs.j0 : Nat → Int → Bool → Int → Int → Int → List Int → List (S78) → Option ((List (S102)))
 | 0, _, _, _, _, _, _, _ => none
 | k + 1, x0, x20, x153000, x153001, x153002, x153003, x153004 => if x20 = true then (some ([] : List (S102))) else (node_Refs.l0 k x0 ([] : List (S102)) x153003 (x153003.length : Int) 0)
def node_Refs.l0 : Nat → Int → List (S102) → List Int → Int → Int → Option ((List (S102)))
 | 0, _, _, _, _, _ => none
 | k + 1, x0, x5, x22, x23, x24 => if x24 < x23 then (if 0 ≤ x24 then (if x24 < (x22.length : Int) then (if (rd x22 x24) = 0 then (node_Refs.l0 k x0 x5 x22 x23 (wrap64 (x24 + 1))) else (if x5.length < 8796093022208 then (node_Refs.l0 k x0 (x5 ++ [(⟨wrap64 ((wrap64 (1 + (wrap64 (x0 * 5)))) + x24), rd x22 x24⟩ : S102)]) x22 x23 (wrap64 (x24 + 1))) else (none))) else (none)) else (none)) else (some x5)
end
def node_Refs.f (k : Nat) (a0 : Int) (a1_0 : Int) (a1_1 : Int) (a1_2 : Int) (l1_3 : List Int) (l1_4 : List (S78)) : Option ((List (S102))) := if a1_0 = 1 then ((node_May.f k a1_0 a1_1 a1_2 l1_3 l1_4).bind fun t153 => (if t153 = true then ((node_within.f a0 11).bind fun t154 => (node_Refs.j0 k a0 (!t154) a1_0 a1_1 a1_2 l1_3 l1_4)) else (node_Refs.j0 k a0 true a1_0 a1_1 a1_2 l1_3 l1_4))) else (node_Refs.j0 k a0 true a1_0 a1_1 a1_2 l1_3 l1_4)
theorem node_Refs.mono_l : ∀ k, (∀ y0 y1 y2 y3 y4 y5 y6, LeO (node_Refs.j0 k y0 y1 y2 y3 y4 y5 y6) (node_Refs.j0 (k + 1) y0 y1 y2 y3 y4 y5 y6)) ∧ (∀ y0 y1 y2 y3 y4, LeO (node_Refs.l0 k y0 y1 y2 y3 y4) (node_Refs.l0 (k + 1) y0 y1 y2 y3 y4))
 | 0 => ⟨fun _ _ _ _ _ _ _ r h => by simp [node_Refs.j0] at h, fun _ _ _ _ _ r h => by simp [node_Refs.l0] at h⟩
 | k + 1 => by
  obtain ⟨ih0, ih1⟩ := node_Refs.mono_l k; refine ⟨?_, ?_⟩
  ·
   intro y0 y1 y2 y3 y4 y5 y6
   unfold node_Refs.j0
   repeat' with_reducible first | apply ih0 | apply ih1 | apply node_May.mono | exact LeO.refl _ | exact LeO.none _ | refine LeO.ite ?_ ?_ | refine LeO.bind ?_ (fun _ => ?_)
  ·
   intro y0 y1 y2 y3 y4
   unfold node_Refs.l0
   repeat' with_reducible first | apply ih0 | apply ih1 | apply node_May.mono | exact LeO.refl _ | exact LeO.none _ | refine LeO.ite ?_ ?_ | refine LeO.bind ?_ (fun _ => ?_)
theorem node_Refs.mono : ∀ a0 a1 a2 a3 a4 a5 k, LeO (node_Refs.f k a0 a1 a2 a3 a4 a5) (node_Refs.f (k + 1) a0 a1 a2 a3 a4 a5) := by
 intro a0 a1 a2 a3 a4 a5 k; obtain ⟨ih0, ih1⟩ := node_Refs.mono_l k
 unfold node_Refs.f
 repeat' with_reducible first | apply ih0 | apply ih1 | apply node_May.mono | exact LeO.refl _ | exact LeO.none _ | refine LeO.ite ?_ ?_ | refine LeO.bind ?_ (fun _ => ?_)
set_option maxHeartbeats 8000000 in
set_option maxRecDepth 100000 in
theorem node_Refs.calls (k : Nat) (a0 : Int) (a1_0 : Int) (a1_1 : Int) (a1_2 : Int) (A1_3 : Option Addr) (c1_3 : Nat) (l1_3 : List Int) (A1_4 : Option Addr) (c1_4 : Nat) (l1_4 : List (S78)) (r : List (S102)) (w : World) (hr1_3 : Kd.C (Kd.int .i64) w A1_3 l1_3.length l1_3) (hc1_3 : l1_3.length ≤ c1_3) (hr1_4 : Kd.C k78 w A1_4 l1_4.length l1_4) (hc1_4 : l1_4.length ≤ c1_4) (h : node_Refs.f k a0 a1_0 a1_1 a1_2 l1_3 l1_4 = some r) :
 Calls Try.prog 66 #[.int .i64 a0, .agg #[.int .i64 a1_0, .int .i64 a1_1, .int .i64 a1_2, .slice A1_3 l1_3.length c1_3, .slice A1_4 l1_4.length c1_4]] w fun e w' => ∃ v0_ : Value, e = .returned (v0_) ∧ Kd.R k102 102 w' w.heap.size (fun _ => True) v0_ r ∧ Below w.heap.size w w' := by
 have hu28 := Try.underlying28; have hu102 := Try.underlying102; have HR1_3 := kA hr1_3; have HC1_3 := kA hc1_3; clear hr1_3 hc1_3; have HR1_4 := kA hr1_4; have HC1_4 := kA hc1_4; clear hr1_4 hc1_4; have HB := kA (Below.refl w.heap.size w); have H : (if a1_0 = 1 then ((node_May.f k a1_0 a1_1 a1_2 l1_3 l1_4).bind fun t153 => (if t153 = true then ((node_within.f a0 11).bind fun t154 => (node_Refs.j0 k a0 (!t154) a1_0 a1_1 a1_2 l1_3 l1_4)) else (node_Refs.j0 k a0 true a1_0 a1_1 a1_2 l1_3 l1_4))) else (node_Refs.j0 k a0 true a1_0 a1_1 a1_2 l1_3 l1_4)) = some r := h; clear h; have HC3 := kA H; clear H
 go_enter Try.func66, Try.ntmps66
 go_upto_region 1 with (first | ((with_reducible refine gate_dst (N := 3) rfl ?_); refine bxE 28 (cs := #[.int .i64 a1_0, .int .i64 a1_1, .int .i64 a1_2, .slice A1_3 l1_3.length c1_3, .slice A1_4 l1_4.length c1_4]) ?_; intro gb152 hg w4 hbox hb; have BK152 := kA hbox; have GW152 := kG HB hg; have GE152 := kG HB hg; replace HB := kH HB hb; clear hb hbox hg))
 (try simp only [Act.put, lT, l0_, lS])
 go_cut [20] (fun v20 wc => ∃ (kq : Nat) (x20_2 : Bool), v20 = .bool x20_2 ∧ Aside0 (node_Refs.j0 kq a0 x20_2 a1_0 a1_1 a1_2 l1_3 l1_4 = some r) ∧ Aside0 (kq ≤ k) ∧ Aside0 (wc.heap[gb152]? = some (.cells #[.int .i64 a1_0, .int .i64 a1_1, .int .i64 a1_2, (.slice A1_3 l1_3.length c1_3), (.slice A1_4 l1_4.length c1_4)] 28 (0, 0))) ∧ Aside0 (Below w.heap.size w wc))
 case first =>
  have H := HC3.out; clear HC3
  by_cases c5 : a1_0 = 1
  ·
   rw [if_pos c5] at H; obtain ⟨c5b0, c5b1⟩ := eP c5; clear c5
   (first | rw [c5b0] | (simp only [i64_w, i32_w]; rw [c5b0]) | skip)
   replace H := qB H; obtain ⟨t153, A60, H⟩ := H; have A6 := kA A60; clear A60
   by_cases c7 : t153 = true
   ·
    subst c7
    have H1 : ((node_within.f a0 11).bind fun t154 => (node_Refs.j0 k a0 (!t154) a1_0 a1_1 a1_2 l1_3 l1_4)) = some r := by rw [if_pos rfl] at H; exact H
    clear H; have H := H1; clear H1; replace H := qB H; obtain ⟨t154, A80, H⟩ := H; have A8 := kA A80; clear A80; have H' := kA H; clear H; obtain ⟨hcz9_0, hfz9_0⟩ := cY0 BK152; obtain ⟨hcz9_1, hfz9_1⟩ := cY1 BK152; obtain ⟨hcz9_2, hfz9_2⟩ := cY2 BK152; obtain ⟨hcz9_3, hfz9_3⟩ := cY3 BK152; obtain ⟨hcz9_4, hfz9_4⟩ := cY4 BK152
    go_wp2_with (first | (go_at_call 48; (with_reducible refine (node_May.calls k a1_0 a1_1 a1_2 _ _ l1_3 _ _ l1_4 true _ ?side1 ?side2 ?side3 ?side4 A6.out).mono ?_); (case side1 => exact mC HR1_3 HB); (case side2 => exact HC1_3.out); (case side3 => exact mC HR1_4 HB); (case side4 => exact HC1_4.out); rintro e w10 ⟨rfl, hb⟩; replace BK152 := kB BK152 hb; replace HB := kH HB hb; (try clear hb)) | (go_at_call 81; (with_reducible refine (node_within.calls a0 11 t154 _ A8.out).mono ?_); rintro e w' ⟨rfl, ⟨nd, rfl⟩⟩))
    go_meet
    case rel => exact ⟨_, (!t154), sI, H', ⟨by first | omega | exact Nat.le_refl _⟩, ⟨mB BK152⟩, ⟨mH HB⟩⟩
   ·
    replace c7 := Bool.eq_false_iff.mpr c7; subst c7
    have H1 : (node_Refs.j0 k a0 true a1_0 a1_1 a1_2 l1_3 l1_4) = some r := by rw [if_neg (show ¬ (false = true) by decide)] at H; exact H
    clear H; have H := H1; clear H1; have H' := kA H; clear H; obtain ⟨hcz11_0, hfz11_0⟩ := cY0 BK152; obtain ⟨hcz11_1, hfz11_1⟩ := cY1 BK152; obtain ⟨hcz11_2, hfz11_2⟩ := cY2 BK152; obtain ⟨hcz11_3, hfz11_3⟩ := cY3 BK152; obtain ⟨hcz11_4, hfz11_4⟩ := cY4 BK152
    go_wp2_with (first | (go_at_call 48; (with_reducible refine (node_May.calls k a1_0 a1_1 a1_2 _ _ l1_3 _ _ l1_4 false _ ?side1 ?side2 ?side3 ?side4 A6.out).mono ?_); (case side1 => exact mC HR1_3 HB); (case side2 => exact HC1_3.out); (case side3 => exact mC HR1_4 HB); (case side4 => exact HC1_4.out); rintro e w12 ⟨rfl, hb⟩; replace BK152 := kB BK152 hb; replace HB := kH HB hb; (try clear hb)))
    go_meet
    case rel => exact ⟨_, (true), sI, H', ⟨by first | omega | exact Nat.le_refl _⟩, ⟨mB BK152⟩, ⟨mH HB⟩⟩
  ·
   rw [if_neg c5] at H; obtain ⟨c5b0, c5b1⟩ := eN c5
   (first | rw [c5b0] | (simp only [i64_w, i32_w]; rw [c5b0]) | skip)
   have H' := kA H; clear H; obtain ⟨hcz13_0, hfz13_0⟩ := cY0 BK152; obtain ⟨hcz13_1, hfz13_1⟩ := cY1 BK152; obtain ⟨hcz13_2, hfz13_2⟩ := cY2 BK152; obtain ⟨hcz13_3, hfz13_3⟩ := cY3 BK152; obtain ⟨hcz13_4, hfz13_4⟩ := cY4 BK152
   go_wp2
   go_meet
   case rel => exact ⟨_, (true), sI, H', ⟨by first | omega | exact Nat.le_refl _⟩, ⟨mB BK152⟩, ⟨mH HB⟩⟩
 case rest =>
  clear HC3
  obtain ⟨kq, x20_2, rfl, HA, HJ2, BK152, HB⟩ := hcut
  cases kq with
  | zero => exact absurd HA.out (by simp [node_Refs.j0])
  | succ kj2 =>
   have H := HA.out; clear HA; simp only [node_Refs.j0] at H
   by_cases c14 : x20_2 = true
   ·
    subst c14
    have H1 : (some ([] : List (S102))) = some r := by rw [if_pos rfl] at H; exact H
    clear H; have H := H1; clear H1; obtain rfl := qI H
    go_wp2
    go_ret
    exact ⟨_, rT, by first | exact Kd.R_nil _ _ _ _ _ | exact Kd.N_nil _ _ _ _ _ | exact Kd.V_nil _ _ _ _ _ | exact Kd.Q_nil _ _ _ _ _ | exact Kd.S_nil _ _ _ _ _, mH HB⟩
   ·
    replace c14 := Bool.eq_false_iff.mpr c14; subst c14
    have H1 : (node_Refs.l0 kj2 a0 ([] : List (S102)) l1_3 (l1_3.length : Int) 0) = some r := by rw [if_neg (show ¬ (false = true) by decide)] at H; exact H
    clear H; have H := H1; clear H1; have H' := kA H; clear H; obtain ⟨hcz15_0, hfz15_0⟩ := cY0 BK152; obtain ⟨hcz15_1, hfz15_1⟩ := cY1 BK152; obtain ⟨hcz15_2, hfz15_2⟩ := cY2 BK152; obtain ⟨hcz15_3, hfz15_3⟩ := cY3 BK152; obtain ⟨hcz15_4, hfz15_4⟩ := cY4 BK152
    go_wp2
    go_loopg [5, 24] kj2 (fun kq v5 v24 w' => ∃ (x5_2 : List (S102)) (x24_2 : Int), v24 = .int .i64 x24_2 ∧ Aside0 (node_Refs.l0 kq a0 x5_2 l1_3 (l1_3.length : Int) x24_2 = some r) ∧ Aside0 (kq ≤ kj2) ∧ Aside0 (Kd.R k102 102 w' w.heap.size (fun _ => True) v5 x5_2) ∧ Aside0 (w'.heap[gb152]? = some (.cells #[.int .i64 a1_0, .int .i64 a1_1, .int .i64 a1_2, (.slice A1_3 l1_3.length c1_3), (.slice A1_4 l1_4.length c1_4)] 28 (0, 0))) ∧ Aside0 (Below w.heap.size w w'))
    case atStart => exact ⟨(([] : List (S102))), (0), sI, H', ⟨Nat.le_refl _⟩, ⟨by first | exact Kd.R_nil _ _ _ _ _ | exact Kd.N_nil _ _ _ _ _ | exact Kd.V_nil _ _ _ _ _ | exact Kd.Q_nil _ _ _ _ _ | exact Kd.S_nil _ _ _ _ _⟩, ⟨mB BK152⟩, ⟨mH HB⟩⟩
    case round =>
     clear H'
     (try clear c14); (try clear hcz15_0); (try clear hcz15_1); (try clear hcz15_2); (try clear hcz15_3); (try clear hcz15_4); (try clear hfz15_0); (try clear hfz15_1); (try clear hfz15_2); (try clear hfz15_3); (try clear hfz15_4)
     obtain ⟨x5_2, x24_2, rfl, HA, HK2, HO_5, BK152, HB⟩ := hrel
     cases gk with
     | zero => exact absurd HA.out (by simp [node_Refs.l0])
     | succ k2 =>
      have H := HA.out; clear HA; simp only [node_Refs.l0] at H
      by_cases c16 : x24_2 < (l1_3.length : Int)
      ·
       rw [if_pos c16] at H; have c16b0 := qT c16; clear c16
       replace H := nP H; obtain ⟨c17, H⟩ := H; have c17b0 := qT c17; clear c17
       replace H := nP H; obtain ⟨c18, H⟩ := H; have c18b0 := qT c18; clear c18
       by_cases c19 : (rd l1_3 x24_2) = 0
       ·
        rw [if_pos c19] at H; obtain ⟨c19b0, c19b1⟩ := eP c19; clear c19; have H' := kA H; clear H; have p155 : 0 ≤ (x24_2 : Int) := dT; have q155 : x24_2 < (l1_3.length : Int) := dT; obtain ⟨ad155, e155, hx155_0⟩ := Kd.at_int HR1_3.out x24_2 p155 q155
        cases e155
        replace hx155_0 := xC HB hx155_0; replace p155 := eq_true p155; replace q155 := eq_true q155
        go_wp2
        go_roundg k2
        case measure => have := HJ2.out; have := HK2.out; omega
        case rel => exact ⟨(x5_2), (wrap64 (x24_2 + 1)), sI, H', ⟨oM HJ2 HK2⟩, ⟨mR HO_5⟩, ⟨mB BK152⟩, ⟨mH HB⟩⟩
       ·
        rw [if_neg c19] at H; obtain ⟨c19b0, c19b1⟩ := eN c19
        replace H := nP H; obtain ⟨c20, H⟩ := H; have LMc20 := kA c20; clear c20; obtain ⟨y156, hy156⟩ : ∃ y_ : List (S102), y_ = (x5_2 ++ [(⟨wrap64 ((wrap64 (1 + (wrap64 (a0 * 5)))) + x24_2), rd l1_3 x24_2⟩ : S102)]) := ⟨_, rfl⟩
        replace H : (node_Refs.l0 k2 a0 y156 l1_3 (l1_3.length : Int) (wrap64 (x24_2 + 1))) = some r := rH H hy156
        have Ny156 := kA hy156; clear hy156; have H' := kA H; clear H; have p155 : 0 ≤ (x24_2 : Int) := dT; have q155 : x24_2 < (l1_3.length : Int) := dT; obtain ⟨ad155, e155, hx155_0⟩ := Kd.at_int HR1_3.out x24_2 p155 q155
        cases e155
        replace hx155_0 := xC HB hx155_0; replace p155 := eq_true p155; replace q155 := eq_true q155
        go_wp2_with (first | ((with_reducible refine gate_builtin (b := .append) (xs := #[.tmp 31, .tmp 39]) rfl ?_); at_builtin; refine Kd.R_append k102 (w0 := w) w.heap.size rfl (.tmp 31) (.tmp 39) 91 102 (.agg #[(.int .i64 0), (.int .i64 0)]) 16 rfl Try.underlying91 info102 rfl (by decide) (by omega) u5 x5_2 (⟨wrap64 ((wrap64 (1 + (wrap64 (a0 * 5)))) + x24_2), rd l1_3 x24_2⟩ : S102) [.int .i64 (wrap64 ((wrap64 (1 + (wrap64 (a0 * 5)))) + x24_2)), .int .i64 (rd l1_3 x24_2)] (fun _ => True) (fun _ => False) rfl rfl ?aP (fun _ hk => hk.elim) ?aF ?aO ?aB ?aS ?aL ?_; (case aP => exact k102_mkM _ _ _ (⟨wrap64 ((wrap64 (1 + (wrap64 (a0 * 5)))) + x24_2), rd l1_3 x24_2⟩ : S102)); (case aB => exact (mH HB)); (case aF => exact (fun _ _ => trivial)); (case aO => exact (mR HO_5)); (case aS => exact (below_size (mH HB))); (case aL => have := LMc20.out; omega); intro v157 w21 ho hb hg hat; rw [← Ny156.out] at ho; replace BK152 := kA (blk_grown (g := gb152) (o := .cells #[.int .i64 a1_0, .int .i64 a1_1, .int .i64 a1_2, .slice (some ad155) l1_3.length c1_3, .slice A1_4 l1_4.length c1_4] 28 (0, 0)) (mB BK152) hg (Kd.R_ne HO_5.out BK152.out (by decide))); replace HB := kA (hb); have HO158 := kA (ho); clear HO_5; clear ho hb hg hat))
        go_roundg k2
        case measure => have := HJ2.out; have := HK2.out; omega
        case rel => exact ⟨(y156), (wrap64 (x24_2 + 1)), sI, H', ⟨oM HJ2 HK2⟩, ⟨mR HO158⟩, ⟨mB BK152⟩, ⟨mH HB⟩⟩
      ·
       rw [if_neg c16] at H; have c16b0 := qF c16; clear c16; obtain rfl := qI H
       go_wp2
       go_ret
       exact ⟨_, rT, mR HO_5, mH HB⟩
def node_Pages.f (k : Nat) (a0_0 : Int) (a0_1 : Int) (a0_2 : Int) (l0_3 : List Int) (l0_4 : List (S78)) : Option (Int) := (node_Refs.f k 0 a0_0 a0_1 a0_2 l0_3 l0_4).bind fun t160 => (some (t160.length : Int))
theorem node_Pages.mono : ∀ a0 a1 a2 a3 a4 k, LeO (node_Pages.f k a0 a1 a2 a3 a4) (node_Pages.f (k + 1) a0 a1 a2 a3 a4) := by
 intro a0 a1 a2 a3 a4 k
 unfold node_Pages.f
 repeat' with_reducible first | apply node_Refs.mono | exact LeO.refl _ | exact LeO.none _ | refine LeO.ite ?_ ?_ | refine LeO.bind ?_ (fun _ => ?_)
set_option maxHeartbeats 8000000 in
set_option maxRecDepth 100000 in
theorem node_Pages.calls (k : Nat) (a0_0 : Int) (a0_1 : Int) (a0_2 : Int) (A0_3 : Option Addr) (c0_3 : Nat) (l0_3 : List Int) (A0_4 : Option Addr) (c0_4 : Nat) (l0_4 : List (S78)) (r : Int) (w : World) (hr0_3 : Kd.C (Kd.int .i64) w A0_3 l0_3.length l0_3) (hc0_3 : l0_3.length ≤ c0_3) (hr0_4 : Kd.C k78 w A0_4 l0_4.length l0_4) (hc0_4 : l0_4.length ≤ c0_4) (h : node_Pages.f k a0_0 a0_1 a0_2 l0_3 l0_4 = some r) :
 Calls Try.prog 46 #[.agg #[.int .i64 a0_0, .int .i64 a0_1, .int .i64 a0_2, .slice A0_3 l0_3.length c0_3, .slice A0_4 l0_4.length c0_4]] w fun e w' => e = .returned (.int .i64 r) ∧ Below w.heap.size w w' := by
 have hu28 := Try.underlying28; have HR0_3 := kA hr0_3; have HC0_3 := kA hc0_3; clear hr0_3 hc0_3; have HR0_4 := kA hr0_4; have HC0_4 := kA hc0_4; clear hr0_4 hc0_4; have HB := kA (Below.refl w.heap.size w); have H : ((node_Refs.f k 0 a0_0 a0_1 a0_2 l0_3 l0_4).bind fun t160 => (some (t160.length : Int))) = some r := h; clear h; replace H := qB H; obtain ⟨t160, A20, H⟩ := H; have A2 := kA A20; clear A20; obtain rfl := qI H
 go_enter Try.func46, Try.ntmps46
 go_wp2_with (first | ((with_reducible refine gate_dst (N := 1) rfl ?_); refine bxE 28 (cs := #[.int .i64 a0_0, .int .i64 a0_1, .int .i64 a0_2, .slice A0_3 l0_3.length c0_3, .slice A0_4 l0_4.length c0_4]) ?_; intro gb159 hg w3 hbox hb; have BK159 := kA hbox; have GW159 := kG HB hg; have GE159 := kG HB hg; replace HB := kH HB hb; clear hb hbox hg; obtain ⟨hcz4_0, hfz4_0⟩ := cY0 BK159; obtain ⟨hcz4_1, hfz4_1⟩ := cY1 BK159; obtain ⟨hcz4_2, hfz4_2⟩ := cY2 BK159; obtain ⟨hcz4_3, hfz4_3⟩ := cY3 BK159; obtain ⟨hcz4_4, hfz4_4⟩ := cY4 BK159) | ((with_reducible refine gate_callee (f := 66) rfl ?_); refine goesK (some 4) Try.func66 #[.int .i64 0, .agg #[.int .i64 a0_0, .int .i64 a0_1, .int .i64 a0_2, .slice A0_3 l0_3.length c0_3, .slice A0_4 l0_4.length c0_4]] ?_; (with_reducible refine (node_Refs.calls k 0 a0_0 a0_1 a0_2 _ _ l0_3 _ _ l0_4 t160 _ ?side1 ?side2 ?side3 ?side4 A2.out).mono ?_); (case side1 => exact mC HR0_3 HB); (case side2 => exact HC0_3.out); (case side3 => exact mC HR0_4 HB); (case side4 => exact HC0_4.out); rintro e w5 ⟨v161, rfl, ho0, hb⟩; refine ⟨_, rfl, ?_⟩; have HO162 := kA (Kd.R_lower ho0 (below_size (mH HB))); replace BK159 := kB BK159 hb; replace HB := kH HB hb; (try clear hb); (try clear ho0); obtain ⟨Ao6, co6, eo6⟩ := Kd.R_slice HO162.out; subst eo6))
 go_ret
 exact ⟨rT, mH HB⟩
def quota_Used.l0 : Nat → Int → List (S28) → Int → Int → Option (Int)
 | 0, _, _, _, _ => none
 | k + 1, x3, x9, x10, x11 => if x11 < x10 then (if 0 ≤ x11 then (if x11 < (x9.length : Int) then ((node_Pages.f k ((rU x9 x11).f0) ((rU x9 x11).f1) ((rU x9 x11).f2) ((rU x9 x11).f3) ((rU x9 x11).f4)).bind fun t167 => (quota_Used.l0 k (wrap64 (x3 + t167)) x9 x10 (wrap64 (x11 + 1)))) else (none)) else (none)) else (some x3)
def quota_Used.f (k : Nat) (l0_0 : List (S28)) : Option (Int) := (quota_off.f k l0_0).bind fun t164 => (if t164 = true then (some 0) else (quota_Used.l0 k 0 l0_0 (l0_0.length : Int) 0))
theorem quota_Used.mono_l : ∀ k, (∀ y0 y1 y2 y3, LeO (quota_Used.l0 k y0 y1 y2 y3) (quota_Used.l0 (k + 1) y0 y1 y2 y3))
 | 0 => fun _ _ _ _ r h => by simp [quota_Used.l0] at h
 | k + 1 => by
  have ih0 := quota_Used.mono_l k
  ·
   intro y0 y1 y2 y3
   unfold quota_Used.l0
   repeat' with_reducible first | apply ih0 | apply node_Pages.mono | apply quota_off.mono | exact LeO.refl _ | exact LeO.none _ | refine LeO.ite ?_ ?_ | refine LeO.bind ?_ (fun _ => ?_)
theorem quota_Used.mono : ∀ a0 k, LeO (quota_Used.f k a0) (quota_Used.f (k + 1) a0) := by
 intro a0 k; have ih0 := quota_Used.mono_l k
 unfold quota_Used.f
 repeat' with_reducible first | apply ih0 | apply node_Pages.mono | apply quota_off.mono | exact LeO.refl _ | exact LeO.none _ | refine LeO.ite ?_ ?_ | refine LeO.bind ?_ (fun _ => ?_)
set_option maxHeartbeats 8000000 in
set_option maxRecDepth 100000 in
theorem quota_Used.calls (k : Nat) (A0_0 : Option Addr) (c0_0 : Nat) (l0_0 : List (S28)) (r : Int) (w : World) (hr0_0 : Kd.C k28 w A0_0 l0_0.length l0_0) (hc0_0 : l0_0.length ≤ c0_0) (h : quota_Used.f k l0_0 = some r) :
 Calls Try.prog 16 #[.agg #[.slice A0_0 l0_0.length c0_0]] w fun e w' => e = .returned (.int .i64 r) ∧ Below w.heap.size w w' := by
 have hu24 := Try.underlying24; have hu28 := Try.underlying28; have HR0_0 := kA hr0_0; have HC0_0 := kA hc0_0; clear hr0_0 hc0_0; have HB := kA (Below.refl w.heap.size w); have H : ((quota_off.f k l0_0).bind fun t164 => (if t164 = true then (some 0) else (quota_Used.l0 k 0 l0_0 (l0_0.length : Int) 0))) = some r := h; clear h; replace H := qB H; obtain ⟨t164, A20, H⟩ := H; have A2 := kA A20; clear A20
 by_cases c3 : t164 = true
 ·
  subst c3
  have H1 : (some 0) = some r := by rw [if_pos rfl] at H; exact H
  clear H; have H := H1; clear H1; obtain rfl := qI H
  go_enter Try.func16, Try.ntmps16
  go_wp2_with (first | ((with_reducible refine gate_dst (N := 1) rfl ?_); refine bxE 24 (cs := #[.slice A0_0 l0_0.length c0_0]) ?_; intro gb163 hg w4 hbox hb; have BK163 := kA hbox; have GW163 := kG HB hg; have GE163 := kG HB hg; replace HB := kH HB hb; clear hb hbox hg; obtain ⟨hcz5_0, hfz5_0⟩ := cY0 BK163) | ((with_reducible refine gate_callee (f := 45) rfl ?_); refine goesK (some 7) Try.func45 #[.agg #[.slice A0_0 l0_0.length c0_0]] ?_; (with_reducible refine (quota_off.calls k _ _ l0_0 true _ ?side1 ?side2 A2.out).mono ?_); (case side1 => exact mC HR0_0 HB); (case side2 => exact HC0_0.out); rintro e w6 ⟨rfl, hb⟩; refine ⟨_, rfl, ?_⟩; replace BK163 := kB BK163 hb; replace HB := kH HB hb; (try clear hb)))
  go_ret
  exact ⟨rT, mH HB⟩
 ·
  replace c3 := Bool.eq_false_iff.mpr c3; subst c3
  have H1 : (quota_Used.l0 k 0 l0_0 (l0_0.length : Int) 0) = some r := by rw [if_neg (show ¬ (false = true) by decide)] at H; exact H
  clear H; have H := H1; clear H1; have H' := kA H; clear H
  go_enter Try.func16, Try.ntmps16
  go_wp2_with (first | ((with_reducible refine gate_dst (N := 1) rfl ?_); refine bxE 24 (cs := #[.slice A0_0 l0_0.length c0_0]) ?_; intro gb163 hg w7 hbox hb; have BK163 := kA hbox; have GW163 := kG HB hg; have GE163 := kG HB hg; replace HB := kH HB hb; clear hb hbox hg; obtain ⟨hcz8_0, hfz8_0⟩ := cY0 BK163) | ((with_reducible refine gate_callee (f := 45) rfl ?_); refine goesK (some 7) Try.func45 #[.agg #[.slice A0_0 l0_0.length c0_0]] ?_; (with_reducible refine (quota_off.calls k _ _ l0_0 false _ ?side1 ?side2 A2.out).mono ?_); (case side1 => exact mC HR0_0 HB); (case side2 => exact HC0_0.out); rintro e w9 ⟨rfl, hb⟩; refine ⟨_, rfl, ?_⟩; replace BK163 := kB BK163 hb; replace HB := kH HB hb; (try clear hb); obtain ⟨hcz10_0, hfz10_0⟩ := cY0 BK163))
  go_loopg [3, 11] k (fun kq v3 v11 w' => ∃ (x3_1 : Int) (x11_1 : Int), v3 = .int .i64 x3_1 ∧ v11 = .int .i64 x11_1 ∧ Aside0 (quota_Used.l0 kq x3_1 l0_0 (l0_0.length : Int) x11_1 = some r) ∧ Aside0 (kq ≤ k) ∧ Aside0 (w'.heap[gb163]? = some (.cells #[(.slice A0_0 l0_0.length c0_0)] 24 (0, 0))) ∧ Aside0 (Below w.heap.size w w'))
  case atStart => exact ⟨(0), (0), sI, sI, H', ⟨Nat.le_refl _⟩, ⟨mB BK163⟩, ⟨mH HB⟩⟩
  case round =>
   clear H'
   (try clear c3); (try clear hcz10_0); (try clear hcz8_0); (try clear hfz10_0); (try clear hfz8_0)
   obtain ⟨x3_1, x11_1, rfl, rfl, HA, HK1, BK163, HB⟩ := hrel
   cases gk with
   | zero => exact absurd HA.out (by simp [quota_Used.l0])
   | succ k1 =>
    have H := HA.out; clear HA; simp only [quota_Used.l0] at H
    by_cases c11 : x11_1 < (l0_0.length : Int)
    ·
     rw [if_pos c11] at H; have c11b0 := qT c11; clear c11
     replace H := nP H; obtain ⟨c12, H⟩ := H; have c12b0 := qT c12; clear c12
     replace H := nP H; obtain ⟨c13, H⟩ := H; have c13b0 := qT c13; clear c13; replace H := qB H; obtain ⟨t167, A140, H⟩ := H; have A14 := kA A140; clear A140; have H' := kA H; clear H; have p165 : 0 ≤ (x11_1 : Int) := dT; have q165 : x11_1 < (l0_0.length : Int) := dT; obtain ⟨ad165, A165_3, c165_3, A165_4, c165_4, e165, hx165_0, hx165_1, hx165_2, hx165_3, hx165_4, hl165_3, hi165_3, hl165_4, hi165_4⟩ := at_T28 HR0_0.out x11_1 p165 q165
     cases e165
     replace hx165_0 := xC HB hx165_0; replace hx165_1 := xC HB hx165_1; replace hx165_2 := xC HB hx165_2; replace hx165_3 := xC HB hx165_3; replace hx165_4 := xC HB hx165_4; have HR165_3 := kA hi165_3; have HC165_3 := kA hl165_3; clear hi165_3 hl165_3; have HR165_4 := kA hi165_4; have HC165_4 := kA hl165_4; clear hi165_4 hl165_4; replace p165 := eq_true p165; replace q165 := eq_true q165
     go_wp2_with (first | ((with_reducible refine gate_dst (N := 5) rfl ?_); refine bxE 28 (cs := #[.int .i64 0, .int .i64 0, .int .i64 0, .slice none 0 0, .slice none 0 0]) ?_; intro gb166 hg w15 hbox hb; have BK166 := kA hbox; have GW166 := kG HB hg; have GE166 := kG HB hg; replace HB := kH HB hb; have NB163_166 := kL BK163 hg; have NB166_163 := kQ BK163 hg; replace BK163 := kB BK163 hb; clear hb hbox hg; have hnb16 := NB166_163.out; have hnc16 := NB163_166.out; obtain ⟨hcz17_0, hfz17_0⟩ := cY0 BK166; obtain ⟨hcz17_1, hfz17_1⟩ := cY1 BK166; obtain ⟨hcz17_2, hfz17_2⟩ := cY2 BK166; obtain ⟨hcz17_3, hfz17_3⟩ := cY3 BK166; obtain ⟨hcz17_4, hfz17_4⟩ := cY4 BK166) | ((with_reducible refine gate_callee (f := 46) rfl ?_); refine goesK (some 17) Try.func46 #[.agg #[.int .i64 ((rU l0_0 x11_1).f0), .int .i64 ((rU l0_0 x11_1).f1), .int .i64 ((rU l0_0 x11_1).f2), .slice A165_3 ((rU l0_0 x11_1).f3).length c165_3, .slice A165_4 ((rU l0_0 x11_1).f4).length c165_4]] ?_; (with_reducible refine (node_Pages.calls k1 ((rU l0_0 x11_1).f0) ((rU l0_0 x11_1).f1) ((rU l0_0 x11_1).f2) _ _ ((rU l0_0 x11_1).f3) _ _ ((rU l0_0 x11_1).f4) t167 _ ?side1 ?side2 ?side3 ?side4 A14.out).mono ?_); (case side1 => exact Kd.C_below HR165_3.out (mH HB)); (case side2 => exact HC165_3.out); (case side3 => exact Kd.C_below HR165_4.out (mH HB)); (case side4 => exact HC165_4.out); rintro e w18 ⟨rfl, hb⟩; refine ⟨_, rfl, ?_⟩; replace BK163 := kA (bB (mF BK163) hb); replace BK166 := kA (bB (g := gb166) (o := .cells #[.int .i64 ((rU l0_0 x11_1).f0), .int .i64 ((rU l0_0 x11_1).f1), .int .i64 ((rU l0_0 x11_1).f2), .slice A165_3 ((rU l0_0 x11_1).f3).length c165_3, .slice A165_4 ((rU l0_0 x11_1).f4).length c165_4] 28 (0, 0)) (pP BK166) hb); replace HB := kH HB hb; (try clear hb)))
     go_roundg k1
     case measure => have := HK1.out; omega
     case rel => exact ⟨(wrap64 (x3_1 + t167)), (wrap64 (x11_1 + 1)), sI, sI, H', ⟨oK HK1⟩, ⟨mB BK163⟩, ⟨mH HB⟩⟩
    ·
     rw [if_neg c11] at H; have c11b0 := qF c11; clear c11; obtain rfl := qI H
     go_wp2
     go_ret
     exact ⟨rT, mH HB⟩
def span_Fits.f (a0 : Int) (a1 : Int) : Option (Bool) := if a0 ≥ 0 then (if a0 ≤ 80 then (if a1 ≥ 0 then (some (decide (a1 ≤ (wrap64 (80 - a0))))) else (some false)) else (some false)) else (some false)
set_option maxHeartbeats 8000000 in
set_option maxRecDepth 100000 in
theorem span_Fits.calls (a0 : Int) (a1 : Int) (r : Bool) (w : World) (h : span_Fits.f a0 a1 = some r) :
 Calls Try.prog 58 #[.int .i64 a0, .int .i64 a1] w fun e w' => e = .returned (.bool r) ∧ Drawn0 w w' := by
 have H : (if a0 ≥ 0 then (if a0 ≤ 80 then (if a1 ≥ 0 then (some (decide (a1 ≤ (wrap64 (80 - a0))))) else (some false)) else (some false)) else (some false)) = some r := h; clear h
 by_cases c3 : a0 ≥ 0
 ·
  rw [if_pos c3] at H; have c3b0 : decide (0 ≤ a0) = true := qT c3; clear c3
  by_cases c4 : a0 ≤ 80
  ·
   rw [if_pos c4] at H; have c4b0 := qT c4; clear c4
   by_cases c5 : a1 ≥ 0
   ·
    rw [if_pos c5] at H; have c5b0 : decide (0 ≤ a1) = true := qT c5; clear c5; obtain rfl := qI H
    go_enter Try.func58, Try.ntmps58
    go_wp2
    go_ret
    exact ⟨sI, by repeat (first | exact Drawn0.refl _ | apply Drawn0.step)⟩
   ·
    rw [if_neg c5] at H; have c5b0 : decide (0 ≤ a1) = false := qF c5; clear c5; obtain rfl := qI H
    go_enter Try.func58, Try.ntmps58
    go_wp2
    go_ret
    exact ⟨sI, by repeat (first | exact Drawn0.refl _ | apply Drawn0.step)⟩
  ·
   rw [if_neg c4] at H; have c4b0 := qF c4; clear c4; obtain rfl := qI H
   go_enter Try.func58, Try.ntmps58
   go_wp2
   go_ret
   exact ⟨sI, by repeat (first | exact Drawn0.refl _ | apply Drawn0.step)⟩
 ·
  rw [if_neg c3] at H; have c3b0 : decide (0 ≤ a0) = false := qF c3; clear c3; obtain rfl := qI H
  go_enter Try.func58, Try.ntmps58
  go_wp2
  go_ret
  exact ⟨sI, by repeat (first | exact Drawn0.refl _ | apply Drawn0.step)⟩
def span_Pieces.l0 : Nat → Int → Int → List (S41) → Option ((List (S41)))
 | 0, _, _, _ => none
 | k + 1, x0, x1, x5 => if x1 > 0 then (if x5.length < 5864062014805 then (span_Pieces.l0 k (wrap64 (x0 + (mn x1 (wrap64 (16 - (Int.tmod x0 16)))))) (wrap64 (x1 - (mn x1 (wrap64 (16 - (Int.tmod x0 16)))))) (x5 ++ [(⟨wrap64 (Int.tdiv x0 16), Int.tmod x0 16, mn x1 (wrap64 (16 - (Int.tmod x0 16)))⟩ : S41)])) else (none)) else (some x5)
def span_Pieces.f (k : Nat) (a0 : Int) (a1 : Int) : Option ((List (S41))) := (span_Fits.f a0 a1).bind fun t168 => (if t168 = true then (span_Pieces.l0 k a0 a1 ([] : List (S41))) else (some ([] : List (S41))))
theorem span_Pieces.mono_l : ∀ k, (∀ y0 y1 y2, LeO (span_Pieces.l0 k y0 y1 y2) (span_Pieces.l0 (k + 1) y0 y1 y2))
 | 0 => fun _ _ _ r h => by simp [span_Pieces.l0] at h
 | k + 1 => by
  have ih0 := span_Pieces.mono_l k
  ·
   intro y0 y1 y2
   unfold span_Pieces.l0
   repeat' with_reducible first | apply ih0 | exact LeO.refl _ | exact LeO.none _ | refine LeO.ite ?_ ?_ | refine LeO.bind ?_ (fun _ => ?_)
theorem span_Pieces.mono : ∀ a0 a1 k, LeO (span_Pieces.f k a0 a1) (span_Pieces.f (k + 1) a0 a1) := by
 intro a0 a1 k; have ih0 := span_Pieces.mono_l k
 unfold span_Pieces.f
 repeat' with_reducible first | apply ih0 | exact LeO.refl _ | exact LeO.none _ | refine LeO.ite ?_ ?_ | refine LeO.bind ?_ (fun _ => ?_)
set_option maxHeartbeats 8000000 in
set_option maxRecDepth 100000 in
theorem span_Pieces.calls (k : Nat) (a0 : Int) (a1 : Int) (r : List (S41)) (w : World) (h : span_Pieces.f k a0 a1 = some r) :
 Calls Try.prog 49 #[.int .i64 a0, .int .i64 a1] w fun e w' => ∃ v0_ : Value, e = .returned (v0_) ∧ Kd.R k41 41 w' w.heap.size (fun _ => True) v0_ r ∧ Below w.heap.size w w' := by
 have hu41 := Try.underlying41; have HB := kA (Below.refl w.heap.size w); have H : ((span_Fits.f a0 a1).bind fun t168 => (if t168 = true then (span_Pieces.l0 k a0 a1 ([] : List (S41))) else (some ([] : List (S41))))) = some r := h; clear h; replace H := qB H; obtain ⟨t168, A30, H⟩ := H; have A3 := kA A30; clear A30
 by_cases c4 : t168 = true
 ·
  subst c4
  have H1 : (span_Pieces.l0 k a0 a1 ([] : List (S41))) = some r := by rw [if_pos rfl] at H; exact H
  clear H; have H := H1; clear H1; have H' := kA H; clear H
  go_enter Try.func49, Try.ntmps49
  go_wp2_with (first | ((with_reducible refine gate_callee (f := 58) rfl ?_); refine goesK (some 10) Try.func58 #[.int .i64 a0, .int .i64 a1] ?_; (with_reducible refine (span_Fits.calls a0 a1 true _ A3.out).mono ?_); rintro e w' ⟨rfl, ⟨nd, rfl⟩⟩; refine ⟨_, rfl, ?_⟩))
  go_loopg [0, 1, 5] k (fun kq v0 v1 v5 w' => ∃ (x0_1 : Int) (x1_1 : Int) (x5_1 : List (S41)), v0 = .int .i64 x0_1 ∧ v1 = .int .i64 x1_1 ∧ Aside0 (span_Pieces.l0 kq x0_1 x1_1 x5_1 = some r) ∧ Aside0 (kq ≤ k) ∧ Aside0 (Kd.R k41 41 w' w.heap.size (fun _ => True) v5 x5_1) ∧ Aside0 (Below w.heap.size w w'))
  case atStart => exact ⟨(a0), (a1), (([] : List (S41))), sI, sI, H', ⟨Nat.le_refl _⟩, ⟨by first | exact Kd.R_nil _ _ _ _ _ | exact Kd.N_nil _ _ _ _ _ | exact Kd.V_nil _ _ _ _ _ | exact Kd.Q_nil _ _ _ _ _ | exact Kd.S_nil _ _ _ _ _⟩, ⟨mH HB⟩⟩
  case round =>
   clear H'
   (try clear c4)
   obtain ⟨x0_1, x1_1, x5_1, rfl, rfl, HA, HK1, HO_5, HB⟩ := hrel
   cases gk with
   | zero => exact absurd HA.out (by simp [span_Pieces.l0])
   | succ k1 =>
    have H := HA.out; clear HA; simp only [span_Pieces.l0] at H
    by_cases c5 : x1_1 > 0
    ·
     rw [if_pos c5] at H; have c5b0 : decide (0 < x1_1) = true := qT c5; clear c5; obtain ⟨ji6, hji6⟩ : ∃ j_ : Int, (mn x1_1 (wrap64 (16 - (Int.tmod x0_1 16)))) = j_ := ⟨_, rfl⟩
     replace H : (if x5_1.length < 5864062014805 then (span_Pieces.l0 k1 (wrap64 (x0_1 + (ji6))) (wrap64 (x1_1 - (ji6))) (x5_1 ++ [(⟨wrap64 (Int.tdiv x0_1 16), Int.tmod x0_1 16, ji6⟩ : S41)])) else (none)) = some r := by first | (rw [hji6] at H; exact H) | (simp only [hji6] at H ⊢; exact H)
     have hji6_ : (if (wrap64 (16 - (Int.tmod x0_1 16))) < x1_1 then (wrap64 (16 - (Int.tmod x0_1 16))) else x1_1) = ji6 := hji6
     replace H := nP H; obtain ⟨c7, H⟩ := H; have LMc7 := kA c7; clear c7; obtain ⟨y169, hy169⟩ : ∃ y_ : List (S41), y_ = (x5_1 ++ [(⟨wrap64 (Int.tdiv x0_1 16), Int.tmod x0_1 16, ji6⟩ : S41)]) := ⟨_, rfl⟩
     replace H : (span_Pieces.l0 k1 (wrap64 (x0_1 + (ji6))) (wrap64 (x1_1 - (ji6))) y169) = some r := rH H hy169
     have Ny169 := kA hy169; clear hy169; have H' := kA H; clear H
     go_wp2_with (first | ((with_reducible refine gate_builtin (b := .append) (xs := #[.tmp 20, .tmp 26]) rfl ?_); at_builtin; refine Kd.R_append k41 (w0 := w) w.heap.size rfl (.tmp 20) (.tmp 26) 38 41 (.agg #[(.int .i64 0), (.int .i64 0), (.int .i64 0)]) 24 rfl Try.underlying38 info41 rfl (by decide) (by omega) u5 x5_1 (⟨wrap64 (Int.tdiv x0_1 16), Int.tmod x0_1 16, ji6⟩ : S41) [.int .i64 (wrap64 (Int.tdiv x0_1 16)), .int .i64 (Int.tmod x0_1 16), .int .i64 ji6] (fun _ => True) (fun _ => False) rfl rfl ?aP (fun _ hk => hk.elim) ?aF ?aO ?aB ?aS ?aL ?_; (case aP => exact k41_mkM _ _ _ (⟨wrap64 (Int.tdiv x0_1 16), Int.tmod x0_1 16, ji6⟩ : S41)); (case aB => exact (mH HB)); (case aF => exact (fun _ _ => trivial)); (case aO => exact (mR HO_5)); (case aS => exact (below_size (mH HB))); (case aL => have := LMc7.out; omega); intro v170 w8 ho hb hg hat; rw [← Ny169.out] at ho; replace HB := kA (hb); have HO171 := kA (ho); clear HO_5; clear ho hb hg hat))
     go_roundg k1
     case measure => have := HK1.out; omega
     case rel => exact ⟨(wrap64 (x0_1 + (ji6))), (wrap64 (x1_1 - (ji6))), (y169), (by first | rfl | (simp; done) | (simp only [← hji6] <;> (first | rfl | simp)) | (simp [*]; done)), (by first | rfl | (simp; done) | (simp only [← hji6] <;> (first | rfl | simp)) | (simp [*]; done)), H', ⟨oK HK1⟩, ⟨mR HO171⟩, ⟨mH HB⟩⟩
    ·
     rw [if_neg c5] at H; have c5b0 : decide (0 < x1_1) = false := qF c5; clear c5; obtain rfl := qI H
     go_wp2
     go_ret
     exact ⟨_, rT, mR HO_5, mH HB⟩
 ·
  replace c4 := Bool.eq_false_iff.mpr c4; subst c4
  have H1 : (some ([] : List (S41))) = some r := by rw [if_neg (show ¬ (false = true) by decide)] at H; exact H
  clear H; have H := H1; clear H1; obtain rfl := qI H
  go_enter Try.func49, Try.ntmps49
  go_wp2_with (first | ((with_reducible refine gate_callee (f := 58) rfl ?_); refine goesK (some 10) Try.func58 #[.int .i64 a0, .int .i64 a1] ?_; (with_reducible refine (span_Fits.calls a0 a1 false _ A3.out).mono ?_); rintro e w' ⟨rfl, ⟨nd, rfl⟩⟩; refine ⟨_, rfl, ?_⟩))
  go_ret
  exact ⟨_, rT, by first | exact Kd.R_nil _ _ _ _ _ | exact Kd.N_nil _ _ _ _ _ | exact Kd.V_nil _ _ _ _ _ | exact Kd.Q_nil _ _ _ _ _ | exact Kd.S_nil _ _ _ _ _, mH HB⟩
mutual
def quota_More.j0 : Nat → Int → Int → Bool → Int → Int → Int → List Int → List (S78) → Option (Int)
 | 0, _, _, _, _, _, _, _, _ => none
 | k + 1, x1, x2, x17, x173000, x173001, x173002, x173003, x173004 => if x17 = true then (some 0) else ((span_Pieces.f k x1 x2).bind fun t174 => (quota_More.l0 k 0 t174 (t174.length : Int) 0 x173000 x173001 x173002 x173003 x173004))
def quota_More.l0 : Nat → Int → List (S41) → Int → Int → Int → Int → Int → List Int → List (S78) → Option (Int)
 | 0, _, _, _, _, _, _, _, _, _ => none
 | k + 1, x7, x20, x21, x22, x173000, x173001, x173002, x173003, x173004 => if x22 < x21 then (if 0 ≤ x22 then (if x22 < (x20.length : Int) then (if 0 ≤ ((rX x20 x22).f0) then (if ((rX x20 x22).f0) < (x173003.length : Int) then (if (rd x173003 ((rX x20 x22).f0)) = 0 then (quota_More.l0 k (wrap64 (x7 + 1)) x20 x21 (wrap64 (x22 + 1)) x173000 x173001 x173002 x173003 x173004) else (quota_More.l0 k x7 x20 x21 (wrap64 (x22 + 1)) x173000 x173001 x173002 x173003 x173004)) else (none)) else (none)) else (none)) else (none)) else (some x7)
end
def quota_More.f (k : Nat) (a0_0 : Int) (a0_1 : Int) (a0_2 : Int) (l0_3 : List Int) (l0_4 : List (S78)) (a1 : Int) (a2 : Int) : Option (Int) := if a0_0 = 1 then ((node_May.f k a0_0 a0_1 a0_2 l0_3 l0_4).bind fun t173 => (quota_More.j0 k a1 a2 (!t173) a0_0 a0_1 a0_2 l0_3 l0_4)) else (quota_More.j0 k a1 a2 true a0_0 a0_1 a0_2 l0_3 l0_4)
theorem quota_More.mono_l : ∀ k, (∀ y0 y1 y2 y3 y4 y5 y6 y7, LeO (quota_More.j0 k y0 y1 y2 y3 y4 y5 y6 y7) (quota_More.j0 (k + 1) y0 y1 y2 y3 y4 y5 y6 y7)) ∧ (∀ y0 y1 y2 y3 y4 y5 y6 y7 y8, LeO (quota_More.l0 k y0 y1 y2 y3 y4 y5 y6 y7 y8) (quota_More.l0 (k + 1) y0 y1 y2 y3 y4 y5 y6 y7 y8))
 | 0 => ⟨fun _ _ _ _ _ _ _ _ r h => by simp [quota_More.j0] at h, fun _ _ _ _ _ _ _ _ _ r h => by simp [quota_More.l0] at h⟩
 | k + 1 => by
  obtain ⟨ih0, ih1⟩ := quota_More.mono_l k; refine ⟨?_, ?_⟩
  ·
   intro y0 y1 y2 y3 y4 y5 y6 y7
   unfold quota_More.j0
   repeat' with_reducible first | apply ih0 | apply ih1 | apply node_May.mono | apply span_Pieces.mono | exact LeO.refl _ | exact LeO.none _ | refine LeO.ite ?_ ?_ | refine LeO.bind ?_ (fun _ => ?_)
  ·
   intro y0 y1 y2 y3 y4 y5 y6 y7 y8
   unfold quota_More.l0
   repeat' with_reducible first | apply ih0 | apply ih1 | apply node_May.mono | apply span_Pieces.mono | exact LeO.refl _ | exact LeO.none _ | refine LeO.ite ?_ ?_ | refine LeO.bind ?_ (fun _ => ?_)
theorem quota_More.mono : ∀ a0 a1 a2 a3 a4 a5 a6 k, LeO (quota_More.f k a0 a1 a2 a3 a4 a5 a6) (quota_More.f (k + 1) a0 a1 a2 a3 a4 a5 a6) := by
 intro a0 a1 a2 a3 a4 a5 a6 k; obtain ⟨ih0, ih1⟩ := quota_More.mono_l k
 unfold quota_More.f
 repeat' with_reducible first | apply ih0 | apply ih1 | apply node_May.mono | apply span_Pieces.mono | exact LeO.refl _ | exact LeO.none _ | refine LeO.ite ?_ ?_ | refine LeO.bind ?_ (fun _ => ?_)
set_option maxHeartbeats 8000000 in
set_option maxRecDepth 100000 in
theorem quota_More.calls (k : Nat) (a0_0 : Int) (a0_1 : Int) (a0_2 : Int) (A0_3 : Option Addr) (c0_3 : Nat) (l0_3 : List Int) (A0_4 : Option Addr) (c0_4 : Nat) (l0_4 : List (S78)) (a1 : Int) (a2 : Int) (r : Int) (w : World) (hr0_3 : Kd.C (Kd.int .i64) w A0_3 l0_3.length l0_3) (hc0_3 : l0_3.length ≤ c0_3) (hr0_4 : Kd.C k78 w A0_4 l0_4.length l0_4) (hc0_4 : l0_4.length ≤ c0_4) (h : quota_More.f k a0_0 a0_1 a0_2 l0_3 l0_4 a1 a2 = some r) :
 Calls Try.prog 22 #[.agg #[.int .i64 a0_0, .int .i64 a0_1, .int .i64 a0_2, .slice A0_3 l0_3.length c0_3, .slice A0_4 l0_4.length c0_4], .int .i64 a1, .int .i64 a2] w fun e w' => e = .returned (.int .i64 r) ∧ Below w.heap.size w w' := by
 have hu28 := Try.underlying28; have hu41 := Try.underlying41; have HR0_3 := kA hr0_3; have HC0_3 := kA hc0_3; clear hr0_3 hc0_3; have HR0_4 := kA hr0_4; have HC0_4 := kA hc0_4; clear hr0_4 hc0_4; have HB := kA (Below.refl w.heap.size w); have H : (if a0_0 = 1 then ((node_May.f k a0_0 a0_1 a0_2 l0_3 l0_4).bind fun t173 => (quota_More.j0 k a1 a2 (!t173) a0_0 a0_1 a0_2 l0_3 l0_4)) else (quota_More.j0 k a1 a2 true a0_0 a0_1 a0_2 l0_3 l0_4)) = some r := h; clear h; have HC4 := kA H; clear H
 go_enter Try.func22, Try.ntmps22
 go_upto_region 1 with (first | ((with_reducible refine gate_dst (N := 3) rfl ?_); refine bxE 28 (cs := #[.int .i64 a0_0, .int .i64 a0_1, .int .i64 a0_2, .slice A0_3 l0_3.length c0_3, .slice A0_4 l0_4.length c0_4]) ?_; intro gb172 hg w5 hbox hb; have BK172 := kA hbox; have GW172 := kG HB hg; have GE172 := kG HB hg; replace HB := kH HB hb; clear hb hbox hg))
 (try simp only [Act.put, lT, l0_, lS])
 go_cut [17] (fun v17 wc => ∃ (kq : Nat) (x17_3 : Bool), v17 = .bool x17_3 ∧ Aside0 (quota_More.j0 kq a1 a2 x17_3 a0_0 a0_1 a0_2 l0_3 l0_4 = some r) ∧ Aside0 (kq ≤ k) ∧ Aside0 (wc.heap[gb172]? = some (.cells #[.int .i64 a0_0, .int .i64 a0_1, .int .i64 a0_2, (.slice A0_3 l0_3.length c0_3), (.slice A0_4 l0_4.length c0_4)] 28 (0, 0))) ∧ Aside0 (Below w.heap.size w wc))
 case first =>
  have H := HC4.out; clear HC4
  by_cases c6 : a0_0 = 1
  ·
   rw [if_pos c6] at H; obtain ⟨c6b0, c6b1⟩ := eP c6; clear c6
   (first | rw [c6b0] | (simp only [i64_w, i32_w]; rw [c6b0]) | skip)
   replace H := qB H; obtain ⟨t173, A70, H⟩ := H; have A7 := kA A70; clear A70; have H' := kA H; clear H; obtain ⟨hcz8_0, hfz8_0⟩ := cY0 BK172; obtain ⟨hcz8_1, hfz8_1⟩ := cY1 BK172; obtain ⟨hcz8_2, hfz8_2⟩ := cY2 BK172; obtain ⟨hcz8_3, hfz8_3⟩ := cY3 BK172; obtain ⟨hcz8_4, hfz8_4⟩ := cY4 BK172
   go_wp2_with (first | (go_at_call 48; (with_reducible refine (node_May.calls k a0_0 a0_1 a0_2 _ _ l0_3 _ _ l0_4 t173 _ ?side1 ?side2 ?side3 ?side4 A7.out).mono ?_); (case side1 => exact mC HR0_3 HB); (case side2 => exact HC0_3.out); (case side3 => exact mC HR0_4 HB); (case side4 => exact HC0_4.out); rintro e w9 ⟨rfl, hb⟩; replace BK172 := kB BK172 hb; replace HB := kH HB hb; (try clear hb)))
   go_meet
   case rel => exact ⟨_, (!t173), sI, H', ⟨by first | omega | exact Nat.le_refl _⟩, ⟨mB BK172⟩, ⟨mH HB⟩⟩
  ·
   rw [if_neg c6] at H; obtain ⟨c6b0, c6b1⟩ := eN c6
   (first | rw [c6b0] | (simp only [i64_w, i32_w]; rw [c6b0]) | skip)
   have H' := kA H; clear H; obtain ⟨hcz10_0, hfz10_0⟩ := cY0 BK172; obtain ⟨hcz10_1, hfz10_1⟩ := cY1 BK172; obtain ⟨hcz10_2, hfz10_2⟩ := cY2 BK172; obtain ⟨hcz10_3, hfz10_3⟩ := cY3 BK172; obtain ⟨hcz10_4, hfz10_4⟩ := cY4 BK172
   go_wp2
   go_meet
   case rel => exact ⟨_, (true), sI, H', ⟨by first | omega | exact Nat.le_refl _⟩, ⟨mB BK172⟩, ⟨mH HB⟩⟩
 case rest =>
  clear HC4
  obtain ⟨kq, x17_3, rfl, HA, HJ3, BK172, HB⟩ := hcut
  cases kq with
  | zero => exact absurd HA.out (by simp [quota_More.j0])
  | succ kj3 =>
   have H := HA.out; clear HA; simp only [quota_More.j0] at H
   by_cases c11 : x17_3 = true
   ·
    subst c11
    have H1 : (some 0) = some r := by rw [if_pos rfl] at H; exact H
    clear H; have H := H1; clear H1; obtain rfl := qI H
    go_wp2
    go_ret
    exact ⟨rT, mH HB⟩
   ·
    replace c11 := Bool.eq_false_iff.mpr c11; subst c11
    have H1 : ((span_Pieces.f kj3 a1 a2).bind fun t174 => (quota_More.l0 kj3 0 t174 (t174.length : Int) 0 a0_0 a0_1 a0_2 l0_3 l0_4)) = some r := by rw [if_neg (show ¬ (false = true) by decide)] at H; exact H
    clear H; have H := H1; clear H1; replace H := qB H; obtain ⟨t174, A120, H⟩ := H; have A12 := kA A120; clear A120; have H' := kA H; clear H
    go_wp2_with (first | ((with_reducible refine gate_callee (f := 49) rfl ?_); refine goesK (some 20) Try.func49 #[.int .i64 a1, .int .i64 a2] ?_; (with_reducible refine (span_Pieces.calls kj3 a1 a2 t174 _ A12.out).mono ?_); rintro e w13 ⟨v175, rfl, ho0, hb⟩; refine ⟨_, rfl, ?_⟩; have HO176 := kA (Kd.R_lower ho0 (below_size (mH HB))); replace BK172 := kB BK172 hb; replace HB := kH HB hb; (try clear hb); (try clear ho0); obtain ⟨Ao14, co14, eo14⟩ := Kd.R_slice HO176.out; subst eo14))
    go_loopg [7, 22] kj3 (fun kq v7 v22 w' => ∃ (x7_2 : Int) (x22_2 : Int), v7 = .int .i64 x7_2 ∧ v22 = .int .i64 x22_2 ∧ Aside0 (quota_More.l0 kq x7_2 t174 (t174.length : Int) x22_2 a0_0 a0_1 a0_2 l0_3 l0_4 = some r) ∧ Aside0 (kq ≤ kj3) ∧ Aside0 (Kd.R k41 41 w' w.heap.size (fun _ => True) (.slice Ao14 t174.length co14) t174) ∧ Aside0 (w'.heap[gb172]? = some (.cells #[.int .i64 a0_0, .int .i64 a0_1, .int .i64 a0_2, (.slice A0_3 l0_3.length c0_3), (.slice A0_4 l0_4.length c0_4)] 28 (0, 0))) ∧ Aside0 (Below w.heap.size w w'))
    case atStart => exact ⟨(0), (0), sI, sI, H', ⟨Nat.le_refl _⟩, ⟨mR HO176⟩, ⟨mB BK172⟩, ⟨mH HB⟩⟩
    case round =>
     clear H'
     (try clear c11)
     obtain ⟨x7_2, x22_2, rfl, rfl, HA, HK2, HO_20, BK172, HB⟩ := hrel
     cases gk with
     | zero => exact absurd HA.out (by simp [quota_More.l0])
     | succ k2 =>
      have H := HA.out; clear HA; simp only [quota_More.l0] at H
      by_cases c15 : x22_2 < (t174.length : Int)
      ·
       rw [if_pos c15] at H; have c15b0 := qT c15; clear c15
       replace H := nP H; obtain ⟨c16, H⟩ := H; have c16b0 := qT c16; clear c16
       replace H := nP H; obtain ⟨c17, H⟩ := H; have c17b0 := qT c17; clear c17
       replace H := nP H; obtain ⟨c18, H⟩ := H; have c18b0 := qT c18; clear c18
       replace H := nP H; obtain ⟨c19, H⟩ := H; have c19b0 := qT c19; clear c19
       by_cases c20 : (rd l0_3 ((rX t174 x22_2).f0)) = 0
       ·
        rw [if_pos c20] at H; obtain ⟨c20b0, c20b1⟩ := eP c20; clear c20; have H' := kA H; clear H; have p177 : 0 ≤ (x22_2 : Int) := dT; have q177 : x22_2 < (t174.length : Int) := dT; obtain ⟨ad177, e177, hx177_0, hx177_1, hx177_2⟩ := at_T41 (Kd.R_reads' HO_20.out).2.2 x22_2 p177 q177
        cases e177
        replace p177 := eq_true p177; replace q177 := eq_true q177
        go_wp2_with (first | ((with_reducible refine gate_dst (N := 9) rfl ?_); refine bxE 41 (cs := #[.int .i64 0, .int .i64 0, .int .i64 0]) ?_; intro gb178 hg w21 hbox hb; replace HO_20 := kA (Kd.R_below (Kd.R_elderB (mR HO_20) gb178 (Nat.le_of_eq hg.symm)) hb); have BK178 := kA hbox; have GW178 := kG HB hg; have GE178 := kG HB hg; replace HB := kH HB hb; have NB172_178 := kL BK172 hg; have NB178_172 := kQ BK172 hg; replace BK172 := kB BK172 hb; clear hb hbox hg; have hnb22 := NB178_172.out; have hnc22 := NB172_178.out; obtain ⟨hcz23_0, hfz23_0⟩ := cY0 BK178; obtain ⟨hcz23_1, hfz23_1⟩ := cY1 BK178; obtain ⟨hcz23_2, hfz23_2⟩ := cY2 BK178; obtain ⟨hcz24_0, hfz24_0⟩ := cY0 BK172; obtain ⟨hcz24_1, hfz24_1⟩ := cY1 BK172; obtain ⟨hcz24_2, hfz24_2⟩ := cY2 BK172; obtain ⟨hcz24_3, hfz24_3⟩ := cY3 BK172; obtain ⟨hcz24_4, hfz24_4⟩ := cY4 BK172; have p179 : 0 ≤ (((rX t174 x22_2).f0) : Int) := dT; have q179 : ((rX t174 x22_2).f0) < (l0_3.length : Int) := dT; obtain ⟨ad179, e179, hx179_0⟩ := Kd.at_int HR0_3.out ((rX t174 x22_2).f0) p179 q179; cases e179; have hn179_0 : ad179.block ≠ gb178 := Nat.ne_of_lt (Nat.lt_of_lt_of_le (by have := World.block_lt_of_cell? _ _ hx179_0; first | rwa [add_block] at this | exact this) GW178.out); have hn179_1 : ad179.block ≠ gb178 := Nat.ne_of_lt (Nat.lt_of_lt_of_le (by have := World.block_lt_of_cell? _ _ hx179_0; first | rwa [add_block] at this | exact this) GW178.out); have hn179_2 : ad179.block ≠ gb178 := Nat.ne_of_lt (Nat.lt_of_lt_of_le (by have := World.block_lt_of_cell? _ _ hx179_0; first | rwa [add_block] at this | exact this) GW178.out); replace hx179_0 := xC HB hx179_0; replace hx179_0 := cF hn179_0 0 (.int .i64 ((rX t174 x22_2).f0)) hx179_0; replace hx179_0 := cF hn179_1 1 (.int .i64 ((rX t174 x22_2).f1)) hx179_0; replace hx179_0 := cF hn179_2 2 (.int .i64 ((rX t174 x22_2).f2)) hx179_0; clear hn179_0; clear hn179_1; clear hn179_2; replace p179 := eq_true p179; replace q179 := eq_true q179))
        go_roundg k2
        case measure => have := HJ3.out; have := HK2.out; omega
        case rel => exact ⟨(wrap64 (x7_2 + 1)), (wrap64 (x22_2 + 1)), sI, sI, H', ⟨oM HJ3 HK2⟩, ⟨fR HO_20⟩, ⟨mF BK172⟩, ⟨mH HB⟩⟩
       ·
        rw [if_neg c20] at H; obtain ⟨c20b0, c20b1⟩ := eN c20; have H' := kA H; clear H; have p177 : 0 ≤ (x22_2 : Int) := dT; have q177 : x22_2 < (t174.length : Int) := dT; obtain ⟨ad177, e177, hx177_0, hx177_1, hx177_2⟩ := at_T41 (Kd.R_reads' HO_20.out).2.2 x22_2 p177 q177
        cases e177
        replace p177 := eq_true p177; replace q177 := eq_true q177
        go_wp2_with (first | ((with_reducible refine gate_dst (N := 9) rfl ?_); refine bxE 41 (cs := #[.int .i64 0, .int .i64 0, .int .i64 0]) ?_; intro gb178 hg w25 hbox hb; replace HO_20 := kA (Kd.R_below (Kd.R_elderB (mR HO_20) gb178 (Nat.le_of_eq hg.symm)) hb); have BK178 := kA hbox; have GW178 := kG HB hg; have GE178 := kG HB hg; replace HB := kH HB hb; have NB172_178 := kL BK172 hg; have NB178_172 := kQ BK172 hg; replace BK172 := kB BK172 hb; clear hb hbox hg; have hnb26 := NB178_172.out; have hnc26 := NB172_178.out; obtain ⟨hcz27_0, hfz27_0⟩ := cY0 BK178; obtain ⟨hcz27_1, hfz27_1⟩ := cY1 BK178; obtain ⟨hcz27_2, hfz27_2⟩ := cY2 BK178; obtain ⟨hcz28_0, hfz28_0⟩ := cY0 BK172; obtain ⟨hcz28_1, hfz28_1⟩ := cY1 BK172; obtain ⟨hcz28_2, hfz28_2⟩ := cY2 BK172; obtain ⟨hcz28_3, hfz28_3⟩ := cY3 BK172; obtain ⟨hcz28_4, hfz28_4⟩ := cY4 BK172; have p179 : 0 ≤ (((rX t174 x22_2).f0) : Int) := dT; have q179 : ((rX t174 x22_2).f0) < (l0_3.length : Int) := dT; obtain ⟨ad179, e179, hx179_0⟩ := Kd.at_int HR0_3.out ((rX t174 x22_2).f0) p179 q179; cases e179; have hn179_0 : ad179.block ≠ gb178 := Nat.ne_of_lt (Nat.lt_of_lt_of_le (by have := World.block_lt_of_cell? _ _ hx179_0; first | rwa [add_block] at this | exact this) GW178.out); have hn179_1 : ad179.block ≠ gb178 := Nat.ne_of_lt (Nat.lt_of_lt_of_le (by have := World.block_lt_of_cell? _ _ hx179_0; first | rwa [add_block] at this | exact this) GW178.out); have hn179_2 : ad179.block ≠ gb178 := Nat.ne_of_lt (Nat.lt_of_lt_of_le (by have := World.block_lt_of_cell? _ _ hx179_0; first | rwa [add_block] at this | exact this) GW178.out); replace hx179_0 := xC HB hx179_0; replace hx179_0 := cF hn179_0 0 (.int .i64 ((rX t174 x22_2).f0)) hx179_0; replace hx179_0 := cF hn179_1 1 (.int .i64 ((rX t174 x22_2).f1)) hx179_0; replace hx179_0 := cF hn179_2 2 (.int .i64 ((rX t174 x22_2).f2)) hx179_0; clear hn179_0; clear hn179_1; clear hn179_2; replace p179 := eq_true p179; replace q179 := eq_true q179))
        go_roundg k2
        case measure => have := HJ3.out; have := HK2.out; omega
        case rel => exact ⟨(x7_2), (wrap64 (x22_2 + 1)), sI, sI, H', ⟨oM HJ3 HK2⟩, ⟨fR HO_20⟩, ⟨mF BK172⟩, ⟨mH HB⟩⟩
      ·
       rw [if_neg c15] at H; have c15b0 := qF c15; clear c15; obtain rfl := qI H
       go_wp2
       go_ret
       exact ⟨rT, mH HB⟩
mutual
def dir_names.l0 : Nat → List Int → List (S28) → Int → Int → Option (List Int)
 | 0, _, _, _, _ => none
 | k + 1, x3, x13, x14, x15 => if x15 < x14 then (if 0 ≤ x15 then (if x15 < (x13.length : Int) then (dir_names.l1 k x3 x13 x14 x15 ((rU x13 x15).f4) (((rU x13 x15).f4).length : Int) 0) else (none)) else (none)) else (some x3)
def dir_names.l1 : Nat → List Int → List (S28) → Int → Int → List (S78) → Int → Int → Option (List Int)
 | 0, _, _, _, _, _, _, _ => none
 | k + 1, x3, x13, x14, x15, x20, x21, x22 => if x22 < x21 then (if 0 ≤ x22 then (if x22 < (x20.length : Int) then (if ((rV x20 x22).f1) ≥ 0 then (if ((rV x20 x22).f1) < (x3.length : Int) then (if 0 ≤ ((rV x20 x22).f1) then (dir_names.l1 k (x3.set (((rV x20 x22).f1) : Int).toNat (wrap64 ((rd x3 ((rV x20 x22).f1)) + 1))) x13 x14 x15 x20 x21 (wrap64 (x22 + 1))) else (none)) else (none)) else (none)) else (none)) else (none)) else (dir_names.l0 k x3 x13 x14 (wrap64 (x15 + 1)))
end
def dir_names.f (k : Nat) (l0_0 : List (S28)) : Option (List Int) := if 0 ≤ (l0_0.length : Int) then (if ((l0_0.length : Int) : Int).toNat ≤ 35184372088832 then (dir_names.l0 k (List.replicate ((l0_0.length : Int) : Int).toNat 0) l0_0 (l0_0.length : Int) 0) else (none)) else (none)
theorem dir_names.mono_l : ∀ k, (∀ y0 y1 y2 y3, LeO (dir_names.l0 k y0 y1 y2 y3) (dir_names.l0 (k + 1) y0 y1 y2 y3)) ∧ (∀ y0 y1 y2 y3 y4 y5 y6, LeO (dir_names.l1 k y0 y1 y2 y3 y4 y5 y6) (dir_names.l1 (k + 1) y0 y1 y2 y3 y4 y5 y6))
 | 0 => ⟨fun _ _ _ _ r h => by simp [dir_names.l0] at h, fun _ _ _ _ _ _ _ r h => by simp [dir_names.l1] at h⟩
 | k + 1 => by
  obtain ⟨ih0, ih1⟩ := dir_names.mono_l k; refine ⟨?_, ?_⟩
  ·
   intro y0 y1 y2 y3
   unfold dir_names.l0
   repeat' with_reducible first | apply ih0 | apply ih1 | exact LeO.refl _ | exact LeO.none _ | refine LeO.ite ?_ ?_ | refine LeO.bind ?_ (fun _ => ?_)
  ·
   intro y0 y1 y2 y3 y4 y5 y6
   unfold dir_names.l1
   repeat' with_reducible first | apply ih0 | apply ih1 | exact LeO.refl _ | exact LeO.none _ | refine LeO.ite ?_ ?_ | refine LeO.bind ?_ (fun _ => ?_)
theorem dir_names.mono : ∀ a0 k, LeO (dir_names.f k a0) (dir_names.f (k + 1) a0) := by
 intro a0 k; obtain ⟨ih0, ih1⟩ := dir_names.mono_l k
 unfold dir_names.f
 repeat' with_reducible first | apply ih0 | apply ih1 | exact LeO.refl _ | exact LeO.none _ | refine LeO.ite ?_ ?_ | refine LeO.bind ?_ (fun _ => ?_)
set_option maxHeartbeats 8000000 in
set_option maxRecDepth 100000 in
theorem dir_names.calls (k : Nat) (A0_0 : Option Addr) (c0_0 : Nat) (l0_0 : List (S28)) (r : List Int) (w : World) (hr0_0 : Kd.C k28 w A0_0 l0_0.length l0_0) (hc0_0 : l0_0.length ≤ c0_0) (h : dir_names.f k l0_0 = some r) :
 Calls Try.prog 72 #[.agg #[.slice A0_0 l0_0.length c0_0]] w fun e w' => ∃ v0_ : Value, e = .returned (v0_) ∧ Kd.R (Kd.int .i64) 3 w' w.heap.size (fun _ => True) v0_ r ∧ Below w.heap.size w w' := by
 have hu24 := Try.underlying24; have hu28 := Try.underlying28; have hu78 := Try.underlying78; have HR0_0 := kA hr0_0; have HC0_0 := kA hc0_0; clear hr0_0 hc0_0; have HB := kA (Below.refl w.heap.size w); have H : (if 0 ≤ (l0_0.length : Int) then (if ((l0_0.length : Int) : Int).toNat ≤ 35184372088832 then (dir_names.l0 k (List.replicate ((l0_0.length : Int) : Int).toNat 0) l0_0 (l0_0.length : Int) 0) else (none)) else (none)) = some r := h; clear h
 replace H := nP H; obtain ⟨c2, H⟩ := H; have c2b0 := eq_true c2; have c2b1 := qT c2; clear c2
 replace H := nP H; obtain ⟨c3, H⟩ := H; have c3b0 := eq_true c3; have c3b1 := qT c3; clear c3; obtain ⟨y181, hy181⟩ : ∃ y_ : List Int, y_ = (List.replicate ((l0_0.length : Int) : Int).toNat 0) := ⟨_, rfl⟩
 replace H : (dir_names.l0 k y181 l0_0 (l0_0.length : Int) 0) = some r := rH H hy181
 have Ny181 := kA hy181; clear hy181; have H' := kA H; clear H
 go_enter Try.func72, Try.ntmps72
 go_wp2_with (first | ((with_reducible refine gate_dst (N := 1) rfl ?_); (try (refine gate_guard (by rfl) ?_; dsimp only)); refine bxE 24 (cs := #[.slice A0_0 l0_0.length c0_0]) ?_; intro gb180 hg w4 hbox hb; have BK180 := kA hbox; have GW180 := kG HB hg; have GE180 := kG HB hg; replace HB := kH HB hb; clear hb hbox hg; obtain ⟨hcz5_0, hfz5_0⟩ := cY0 BK180) | ((with_reducible refine gate_dst (N := 11) rfl ?_); (try (refine gate_guard (by rfl) ?_; dsimp only)); refine Kd.R_make (Kd.int .i64) _ 3 rfl (N := 11) rfl 25 _ _ rfl (l0_0.length : Int) rfl rfl Try.underlying25 (.int .i64 0) 8 info3 rfl (by decide) (by omega) 0 (ok := fun _ => True) (okp := fun _ => True) rfl (fun _ hk => hk) trivial (dT) (Nat.le_trans (Nat.mul_le_mul_right _ (dT : (l0_0.length : Int).toNat ≤ 35184372088832)) (by omega)) (Below.refl _ _) (Nat.le_refl _) ?_; intro v182 w6 ho7 hb hg_ hnew_; clear hg_ hnew_; (first | rw [← Ny181.out] at ho7 | (simp only [Int.reduceToNat] at ho7; rw [← Ny181.out] at ho7)); have HO183 := kA (Kd.R_lower ho7 (below_size (mH HB))); replace BK180 := kB BK180 hb; replace HB := kH HB hb; clear hb ho7; obtain ⟨hcz8_0, hfz8_0⟩ := cY0 BK180))
 go_loopg [15] k (fun kq v15 w' => ∃ (x3_1 : List Int) (x15_1 : Int), v15 = .int .i64 x15_1 ∧ Aside0 (dir_names.l0 kq x3_1 l0_0 (l0_0.length : Int) x15_1 = some r) ∧ Aside0 (kq ≤ k) ∧ Aside0 (Kd.R (Kd.int .i64) 3 w' w.heap.size (fun _ => True) v182 x3_1) ∧ Aside0 (w'.heap[gb180]? = some (.cells #[(.slice A0_0 l0_0.length c0_0)] 24 (0, 0))) ∧ Aside0 (Below w.heap.size w w'))
 case atStart => exact ⟨(y181), (0), sI, H', ⟨Nat.le_refl _⟩, ⟨mR HO183⟩, ⟨mB BK180⟩, ⟨mH HB⟩⟩
 case round =>
  clear H'
  (try clear c2); (try clear c2b0); (try clear c2b1); (try clear c3); (try clear c3b0); (try clear c3b1); (try clear hcz5_0); (try clear hcz8_0); (try clear hfz5_0); (try clear hfz8_0)
  obtain ⟨x3_1, x15_1, rfl, HA, HK1, HO_3, BK180, HB⟩ := hrel
  cases gk with
  | zero => exact absurd HA.out (by simp [dir_names.l0])
  | succ k1 =>
   have H := HA.out; clear HA; simp only [dir_names.l0] at H
   by_cases c9 : x15_1 < (l0_0.length : Int)
   ·
    rw [if_pos c9] at H; have c9b0 := qT c9; clear c9
    replace H := nP H; obtain ⟨c10, H⟩ := H; have c10b0 := qT c10; clear c10
    replace H := nP H; obtain ⟨c11, H⟩ := H; have c11b0 := qT c11; clear c11; have H' := kA H; clear H; have p184 : 0 ≤ (x15_1 : Int) := dT; have q184 : x15_1 < (l0_0.length : Int) := dT; obtain ⟨ad184, A184_3, c184_3, A184_4, c184_4, e184, hx184_0, hx184_1, hx184_2, hx184_3, hx184_4, hl184_3, hi184_3, hl184_4, hi184_4⟩ := at_T28 HR0_0.out x15_1 p184 q184
    cases e184
    replace hx184_0 := xC HB hx184_0; replace hx184_1 := xC HB hx184_1; replace hx184_2 := xC HB hx184_2; replace hx184_3 := xC HB hx184_3; replace hx184_4 := xC HB hx184_4; have HR184_3 := kA hi184_3; have HC184_3 := kA hl184_3; clear hi184_3 hl184_3; have HR184_4 := kA hi184_4; have HC184_4 := kA hl184_4; clear hi184_4 hl184_4; replace p184 := eq_true p184; replace q184 := eq_true q184
    go_wp2_with (first | ((with_reducible refine gate_dst (N := 5) rfl ?_); (try (refine gate_guard (by rfl) ?_; dsimp only)); refine bxE 28 (cs := #[.int .i64 0, .int .i64 0, .int .i64 0, .slice none 0 0, .slice none 0 0]) ?_; intro gb185 hg w12 hbox hb; replace HO_3 := kR HO_3 hb; have BK185 := kA hbox; have GW185 := kG HB hg; have GE185 := kG HB hg; replace HB := kH HB hb; have NB180_185 := kL BK180 hg; have NB185_180 := kQ BK180 hg; replace BK180 := kB BK180 hb; clear hb hbox hg; have hnb13 := NB185_180.out; have hnc13 := NB180_185.out; obtain ⟨hcz14_0, hfz14_0⟩ := cY0 BK185; obtain ⟨hcz14_1, hfz14_1⟩ := cY1 BK185; obtain ⟨hcz14_2, hfz14_2⟩ := cY2 BK185; obtain ⟨hcz14_3, hfz14_3⟩ := cY3 BK185; obtain ⟨hcz14_4, hfz14_4⟩ := cY4 BK185))
    go_loopg [22] k1 (fun kq v22 w' => ∃ (x3_2 : List Int) (x22_2 : Int), v22 = .int .i64 x22_2 ∧ Aside0 (dir_names.l1 kq x3_2 l0_0 (l0_0.length : Int) x15_1 ((rU l0_0 x15_1).f4) (((rU l0_0 x15_1).f4).length : Int) x22_2 = some r) ∧ Aside0 (kq ≤ k1) ∧ Aside0 (Kd.R (Kd.int .i64) 3 w' w.heap.size (fun _ => True) v182 x3_2) ∧ Aside0 (w'.heap[gb180]? = some (.cells #[(.slice (some ad184) l0_0.length c0_0)] 24 (0, 0))) ∧ Aside0 (w'.heap[gb185]? = some (.cells #[.int .i64 ((rU l0_0 x15_1).f0), .int .i64 ((rU l0_0 x15_1).f1), .int .i64 ((rU l0_0 x15_1).f2), (.slice A184_3 ((rU l0_0 x15_1).f3).length c184_3), (.slice A184_4 ((rU l0_0 x15_1).f4).length c184_4)] 28 (0, 0))) ∧ Aside0 (Below w.heap.size w w'))
    case atStart => exact ⟨(x3_1), (0), sI, H', ⟨Nat.le_refl _⟩, ⟨fR ⟨Kd.R_types HO_3.out BK185.out (by decide)⟩⟩, ⟨mF BK180⟩, ⟨pP BK185⟩, ⟨mH HB⟩⟩
    case round =>
     clear H'
     (try clear c2); (try clear c2b0); (try clear c2b1); (try clear c3); (try clear c3b0); (try clear c3b1); (try clear c9); (try clear c9b0); (try clear c10); (try clear c10b0); (try clear c11); (try clear c11b0); (try clear hcz14_0); (try clear hcz14_1); (try clear hcz14_2); (try clear hcz14_3); (try clear hcz14_4); (try clear hcz5_0); (try clear hcz8_0); (try clear hfz14_0); (try clear hfz14_1); (try clear hfz14_2); (try clear hfz14_3); (try clear hfz14_4); (try clear hfz5_0); (try clear hfz8_0); (try clear hx184_0); (try clear hx184_1); (try clear hx184_2); (try clear hx184_3); (try clear hx184_4); (try clear p184); (try clear q184)
     obtain ⟨x3_2, x22_2, rfl, HA, HK2, HO_3, BK180, BK185, HB⟩ := hrel
     cases gk with
     | zero => exact absurd HA.out (by simp [dir_names.l1])
     | succ k2 =>
      have H := HA.out; clear HA; simp only [dir_names.l1] at H
      by_cases c15 : x22_2 < (((rU l0_0 x15_1).f4).length : Int)
      ·
       rw [if_pos c15] at H; have c15b0 := qT c15; clear c15
       replace H := nP H; obtain ⟨c16, H⟩ := H; have c16b0 := qT c16; clear c16
       replace H := nP H; obtain ⟨c17, H⟩ := H; have c17b0 := qT c17; clear c17
       replace H := nP H; obtain ⟨c18, H⟩ := H; have c18b0 : decide (0 ≤ ((rV ((rU l0_0 x15_1).f4) x22_2).f1)) = true := qT c18; clear c18
       replace H := nP H; obtain ⟨c19, H⟩ := H; have c19b0 := qT c19; clear c19
       replace H := nP H; obtain ⟨c20, H⟩ := H; have c20b0 := qT c20; clear c20; obtain ⟨y189, hy189⟩ : ∃ y_ : List Int, y_ = (x3_2.set (((rV ((rU l0_0 x15_1).f4) x22_2).f1) : Int).toNat (wrap64 ((rd x3_2 ((rV ((rU l0_0 x15_1).f4) x22_2).f1)) + 1))) := ⟨_, rfl⟩
       replace H : (dir_names.l1 k2 y189 l0_0 (l0_0.length : Int) x15_1 ((rU l0_0 x15_1).f4) (((rU l0_0 x15_1).f4).length : Int) (wrap64 (x22_2 + 1))) = some r := rH H hy189
       have Ny189 := kA hy189; clear hy189; have H' := kA H; clear H; have p186 : 0 ≤ (x22_2 : Int) := dT; have q186 : x22_2 < (((rU l0_0 x15_1).f4).length : Int) := dT; obtain ⟨ad186, e186, hx186_0, hx186_1⟩ := at_T78 HR184_4.out x22_2 p186 q186
       cases e186
       replace hx186_0 := xC HB hx186_0; replace hx186_1 := xC HB hx186_1; replace p186 := eq_true p186; replace q186 := eq_true q186
       go_wp2_with (first | ((with_reducible refine gate_dst (N := 7) rfl ?_); (try (refine gate_guard (by rfl) ?_; dsimp only)); refine bxE 78 (cs := #[.string (⟨#[]⟩ : ByteArray), .int .i64 0]) ?_; intro gb187 hg w22 hbox hb; replace HO_3 := kR HO_3 hb; have BK187 := kA hbox; have GW187 := kG HB hg; have GE187 := kG HB hg; replace HB := kH HB hb; have NB180_187 := kL BK180 hg; have NB187_180 := kQ BK180 hg; replace BK180 := kB BK180 hb; have NB185_187 := kL BK185 hg; have NB187_185 := kQ BK185 hg; replace BK185 := kB BK185 hb; clear hb hbox hg; have hnb23 := NB187_180.out; have hnc23 := NB180_187.out; have hnb24 := NB187_185.out; have hnc24 := NB185_187.out; obtain ⟨hcz25_0, hfz25_0⟩ := cY0 BK187; obtain ⟨hcz25_1, hfz25_1⟩ := cY1 BK187) | ((with_reducible refine gate_store (t := 78) (p := 7) rfl ?_); refine store_event (t := 78) (p := 7) (v := ?vo_w26) (w1 := ((w22.setCell ⟨gb187, 0, none⟩ (.string ((rV ((rU l0_0 x15_1).f4) x22_2).f0))).setCell ⟨gb187, 1, none⟩ (.int .i64 ((rV ((rU l0_0 x15_1).f4) x22_2).f1)))) ?hg ?ho ?hn ?hr ?_; (case ho => rfl); (case hg => rfl); (case hn => rfl); (case hr => first | (go_simp; done) | (go_simp; rfl)); intro w26 hw; have n0_ : Aside0 (Kd.R (Kd.int .i64) 3 w26 w.heap.size (fun _ => True) v182 x3_2) := ⟨(by rw [hw]; exact (fR ⟨Kd.R_types HO_3.out BK187.out (by decide)⟩))⟩; have n1_ : Aside0 (w26.heap[gb180]? = some (.cells #[.slice (some ad184) l0_0.length c0_0] 24 (0, 0))) := ⟨(by rw [hw]; exact (mF BK180))⟩; have n2_ : Aside0 (w26.heap[gb185]? = some (.cells #[.int .i64 ((rU l0_0 x15_1).f0), .int .i64 ((rU l0_0 x15_1).f1), .int .i64 ((rU l0_0 x15_1).f2), .slice A184_3 ((rU l0_0 x15_1).f3).length c184_3, .slice (some ad186) ((rU l0_0 x15_1).f4).length c184_4] 28 (0, 0))) := ⟨(by rw [hw]; exact (mF BK185))⟩; have n3_ : Aside0 (w26.heap[gb187]? = some (.cells #[.string ((rV ((rU l0_0 x15_1).f4) x22_2).f0), .int .i64 ((rV ((rU l0_0 x15_1).f4) x22_2).f1)] 78 (0, 0))) := ⟨(by rw [hw]; exact (pP BK187))⟩; have n4_ : Aside0 (Below w.heap.size w w26) := ⟨(by rw [hw]; exact (mH HB))⟩; clear hw; clear HO_3; clear BK180; clear BK185; clear BK187; clear HB; have HO_3 := n0_; have BK180 := n1_; have BK185 := n2_; have BK187 := n3_; have HB := n4_; clear n0_ n1_ n2_ n3_ n4_; obtain ⟨hcz27_0, hfz27_0⟩ := cY0 BK187; obtain ⟨hcz27_1, hfz27_1⟩ := cY1 BK187; obtain ⟨Ao28, co28, eo28⟩ := Kd.R_slice HO_3.out; subst eo28; have p188 : 0 ≤ (((rV ((rU l0_0 x15_1).f4) x22_2).f1) : Int) := dT; have q188 : ((rV ((rU l0_0 x15_1).f4) x22_2).f1) < (x3_2.length : Int) := dT; obtain ⟨ad188, e188, hx188_0⟩ := Kd.at_int (Kd.R_reads' HO_3.out).2.2 ((rV ((rU l0_0 x15_1).f4) x22_2).f1) p188 q188; cases e188; replace p188 := eq_true p188; replace q188 := eq_true q188; have p21 : 0 ≤ (((rV ((rU l0_0 x15_1).f4) x22_2).f1) : Int) := dT; have q21 : (((rV ((rU l0_0 x15_1).f4) x22_2).f1) : Int) < ((x3_2.length : Int) : Int) := dT; obtain ⟨go21, co21, eo21, gb21, gl21, cl21, HG21⟩ := Kd.R_form HO_3.out (by omega); (first | cases eo21 | (injection eo21 with ea_ en_ ec_; (first | subst ea_ | (injection ea_ with ea_; subst ea_)); subst ec_; clear en_)); have GB21 := kA gb21; have GG21 := kA HG21; clear gb21 gl21 HG21; (first | simp only [add_plain] at hx188_0 | skip); obtain ⟨hx21_0, hf21_0⟩ := Kd.R_celln 0 HO_3.out (((rV ((rU l0_0 x15_1).f4) x22_2).f1) : Int) p21 q21; replace p21 := eq_true p21; replace q21 := eq_true q21; obtain ⟨hy29_, hz29_⟩ := Kd.R_celln 0 HO_3.out (((rV ((rU l0_0 x15_1).f4) x22_2).f1) : Int) (dT) (dT); have HP29 := Kd.R_putg HO_3.out (((rV ((rU l0_0 x15_1).f4) x22_2).f1) : Int) (wrap64 ((rd x3_2 ((rV ((rU l0_0 x15_1).f4) x22_2).f1)) + 1))) | ((with_reducible refine gate_store (t := 3) (p := 42) rfl ?_); refine store_event (t := 3) (p := 42) (v := ?vo_w30) (w1 := (w26.setCell ⟨go21, (((rV ((rU l0_0 x15_1).f4) x22_2).f1) : Int).toNat, none⟩ (.int .i64 (wrap64 ((rd x3_2 ((rV ((rU l0_0 x15_1).f4) x22_2).f1)) + 1))))) ?hg ?ho ?hn ?hr ?_; (case ho => rfl); (case hg => rfl); (case hn => rfl); (case hr => first | (go_simp; done) | (go_simp; rfl)); intro w30 hw; have hg : w26.grownBy w30 (some go21) := (by rw [hw]; exact HP29.2); have hp_ : Kd.R (Kd.int .i64) 3 w30 w.heap.size (fun _ => True) (.slice (some ⟨go21, 0, none⟩) x3_2.length co28) y189 := (by rw [hw, Ny189.out]; exact HP29.1); clear HP29; replace BK180 := kA (blk_grown (g := gb180) (o := .cells #[.slice (some ad184) l0_0.length c0_0] 24 (0, 0)) (mB BK180) hg (Kd.R_ne HO_3.out BK180.out (by decide))); replace BK185 := kA (blk_grown (g := gb185) (o := .cells #[.int .i64 ((rU l0_0 x15_1).f0), .int .i64 ((rU l0_0 x15_1).f1), .int .i64 ((rU l0_0 x15_1).f2), .slice A184_3 ((rU l0_0 x15_1).f3).length c184_3, .slice (some ad186) ((rU l0_0 x15_1).f4).length c184_4] 28 (0, 0)) (mB BK185) hg (Kd.R_ne HO_3.out BK185.out (by decide))); replace BK187 := kA (blk_grown (g := gb187) (o := .cells #[.string ((rV ((rU l0_0 x15_1).f4) x22_2).f0), .int .i64 ((rV ((rU l0_0 x15_1).f4) x22_2).f1)] 78 (0, 0)) (mB BK187) hg (Kd.R_ne HO_3.out BK187.out (by decide))); replace HO_3 := kA (hp_); replace HB := kA ((by rw [hw]; exact wS (HB.out) GB21.out : Below w.heap.size w w30)); clear hg hw hp_))
       go_roundg k2
       case measure => have := HK1.out; have := HK2.out; omega
       case rel => exact ⟨(y189), (wrap64 (x22_2 + 1)), sI, H', ⟨oM HK1 HK2⟩, ⟨mR HO_3⟩, ⟨mB BK180⟩, ⟨mB BK185⟩, ⟨mH HB⟩⟩
      ·
       rw [if_neg c15] at H; have c15b0 := qF c15; clear c15; have H' := kA H; clear H
       go_wp2
       go_roundg k2
       case measure => have := HK1.out; have := HK2.out; omega
       case rel => exact ⟨(x3_2), (wrap64 (x15_1 + 1)), sI, H', ⟨oM HK1 HK2⟩, ⟨mR HO_3⟩, ⟨mB BK180⟩, ⟨mH HB⟩⟩
   ·
    rw [if_neg c9] at H; have c9b0 := qF c9; clear c9; obtain rfl := qI H
    go_wp2
    go_ret
    exact ⟨_, rT, mR HO_3, mH HB⟩
end Go.Proofs.Ytkigiehkckjlhaa.PReads
