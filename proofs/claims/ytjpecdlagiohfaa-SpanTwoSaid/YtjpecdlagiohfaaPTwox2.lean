/- The Go functions that these laws reach, each as a Lean function with the same answers (a law itself where it answers true), and the proof that the code comes to them; conditions: those of each theorem. Laid by a program of this session over the print. -/
import Derived.Test.YtjpecdlagiohfaaPTwox0
import Derived.Test.YtjpecdlagiohfaaPTwox1
namespace Go.Proofs.Ytjpecdlagiohfaa.PTwo
open Go.RowKit Go.Proofs.YtjpecdlagiohfaaW.PrintWords Go.Proofs.YtjpecdlagiohfaaW.PrintLast Go.Proofs.YtjpecdlagiohfaaW.PrintMore
attribute [local go_sem] max2_int min2_int max_two min_two max_three min_three max_four min_four   -- for this text's walks alone
set_option linter.unusedVariables false
set_option linter.unusedSimpArgs false
open Go.Proofs.YtjpecdlagiohfaaW.PrintWords renaming blk_drewN → bN, blk_drew → bD, blk_alloc → bA, below_set → wS, below_alloc → wA, pw_below_drewN → wN, below_drew1 → wD, blk_below → bB, blk_far → bF, blk_cell → bC, blk_frozen → bZ
open List renaming setIfInBounds_toArray → lT, set_cons_zero → l0_, set_cons_succ → lS

attribute [local go_sem high] eqA25
/-! ### span_Fits: function 17 -/
def span_Fits.f (a0 : Int) (a1 : Int) : Option (Bool) := if a0 ≥ 0 then (if a0 ≤ 80 then (if a1 ≥ 0 then (some (decide (a1 ≤ (wrap64 (80 - a0))))) else (some false)) else (some false)) else (some false)
set_option maxHeartbeats 8000000 in
set_option maxRecDepth 100000 in
theorem span_Fits.calls (a0 : Int) (a1 : Int) (r : Bool) (w : World) (h : span_Fits.f a0 a1 = some r) :
 Calls Try.prog 17 #[.int .i64 a0, .int .i64 a1] w fun e w' => e = .returned (.bool r) ∧ Drawn0 w w' := by
 have H : (if a0 ≥ 0 then (if a0 ≤ 80 then (if a1 ≥ 0 then (some (decide (a1 ≤ (wrap64 (80 - a0))))) else (some false)) else (some false)) else (some false)) = some r := h; clear h
 by_cases c3 : a0 ≥ 0
 ·
  rw [if_pos c3] at H; have c3b0 : decide (0 ≤ a0) = true := decide_eq_true c3; clear c3
  by_cases c4 : a0 ≤ 80
  ·
   rw [if_pos c4] at H; have c4b0 : decide (a0 ≤ 80) = true := decide_eq_true c4; clear c4
   by_cases c5 : a1 ≥ 0
   ·
    rw [if_pos c5] at H; have c5b0 : decide (0 ≤ a1) = true := decide_eq_true c5; clear c5; obtain rfl := Option.some.inj H
    go_enter Try.func17, Try.ntmps17
    go_wp2
    go_ret
    exact ⟨by first | rfl | (simp; done) | (simp [*]; done), by repeat (first | exact Drawn0.refl _ | apply Drawn0.step)⟩
   ·
    rw [if_neg c5] at H; have c5b0 : decide (0 ≤ a1) = false := decide_eq_false c5; clear c5; obtain rfl := Option.some.inj H
    go_enter Try.func17, Try.ntmps17
    go_wp2
    go_ret
    exact ⟨by first | rfl | (simp; done) | (simp [*]; done), by repeat (first | exact Drawn0.refl _ | apply Drawn0.step)⟩
  ·
   rw [if_neg c4] at H; have c4b0 : decide (a0 ≤ 80) = false := decide_eq_false c4; clear c4; obtain rfl := Option.some.inj H
   go_enter Try.func17, Try.ntmps17
   go_wp2
   go_ret
   exact ⟨by first | rfl | (simp; done) | (simp [*]; done), by repeat (first | exact Drawn0.refl _ | apply Drawn0.step)⟩
 ·
  rw [if_neg c3] at H; have c3b0 : decide (0 ≤ a0) = false := decide_eq_false c3; clear c3; obtain rfl := Option.some.inj H
  go_enter Try.func17, Try.ntmps17
  go_wp2
  go_ret
  exact ⟨by first | rfl | (simp; done) | (simp [*]; done), by repeat (first | exact Drawn0.refl _ | apply Drawn0.step)⟩

/-! ### span_Pieces: function 13 -/
def span_Pieces.l0 : Nat → Int → Int → List (S25) → Option ((List (S25)))
 | 0, _, _, _ => none
 | k + 1, x0, x1, x5 => if x1 > 0 then (if x5.length < 5864062014805 then (span_Pieces.l0 k (wrap64 (x0 + (mn x1 (wrap64 (16 - (Int.tmod x0 16)))))) (wrap64 (x1 - (mn x1 (wrap64 (16 - (Int.tmod x0 16)))))) (x5 ++ [(⟨wrap64 (Int.tdiv x0 16), Int.tmod x0 16, mn x1 (wrap64 (16 - (Int.tmod x0 16)))⟩ : S25)])) else (none)) else (some x5)
def span_Pieces.f (k : Nat) (a0 : Int) (a1 : Int) : Option ((List (S25))) := (span_Fits.f a0 a1).bind fun t101 => (if t101 = true then (span_Pieces.l0 k a0 a1 ([] : List (S25))) else (some ([] : List (S25))))
theorem span_Pieces.mono_l : ∀ k, (∀ y0 y1 y2, LeO (span_Pieces.l0 k y0 y1 y2) (span_Pieces.l0 (k + 1) y0 y1 y2))
 | 0 => fun _ _ _ r h => by simp [span_Pieces.l0] at h
 | k + 1 => by
  have ih0 := span_Pieces.mono_l k
  ·
   intro y0 y1 y2
   unfold span_Pieces.l0
   repeat' first
   | (with_reducible exact ih0 _ _ _)
   | (with_reducible exact LeO.refl _)
   | (with_reducible exact LeO.none _)
   | (with_reducible refine LeO.ite ?_ ?_)
   | (with_reducible refine LeO.bind ?_ (fun _ => ?_))
   | exact ih0 _ _ _
   | exact LeO.none _
   | refine LeO.ite ?_ ?_
   | refine LeO.bind ?_ (fun _ => ?_)
theorem span_Pieces.mono : ∀ a0 a1 k, LeO (span_Pieces.f k a0 a1) (span_Pieces.f (k + 1) a0 a1) := by
 intro a0 a1 k; have ih0 := span_Pieces.mono_l k
 unfold span_Pieces.f
 repeat' first
  | (with_reducible exact ih0 _ _ _)
  | (with_reducible exact LeO.refl _)
  | (with_reducible exact LeO.none _)
  | (with_reducible refine LeO.ite ?_ ?_)
  | (with_reducible refine LeO.bind ?_ (fun _ => ?_))
  | exact ih0 _ _ _
  | exact LeO.none _
  | refine LeO.ite ?_ ?_
  | refine LeO.bind ?_ (fun _ => ?_)
set_option maxHeartbeats 8000000 in
set_option maxRecDepth 100000 in
theorem span_Pieces.calls (k : Nat) (a0 : Int) (a1 : Int) (r : List (S25)) (w : World) (h : span_Pieces.f k a0 a1 = some r) :
 Calls Try.prog 13 #[.int .i64 a0, .int .i64 a1] w fun e w' => ∃ v0_ : Value, e = .returned (v0_) ∧ Kd.R k25 25 w' w.heap.size (fun _ => True) v0_ r ∧ Below w.heap.size w w' := by
 have hu25 := Try.underlying25; have HB := Aside0.mk (Below.refl w.heap.size w); have H : ((span_Fits.f a0 a1).bind fun t101 => (if t101 = true then (span_Pieces.l0 k a0 a1 ([] : List (S25))) else (some ([] : List (S25))))) = some r := h; clear h; replace H := Option.bind_eq_some_iff.mp H; obtain ⟨t101, A30, H⟩ := H; replace H : (if t101 = true then (span_Pieces.l0 k a0 a1 ([] : List (S25))) else (some ([] : List (S25)))) = some r := H; have A3 := Aside0.mk A30; clear A30
 by_cases c4 : t101 = true
 ·
  subst c4
  have H1 : (span_Pieces.l0 k a0 a1 ([] : List (S25))) = some r := by rw [if_pos rfl] at H; exact H
  clear H; have H := H1; clear H1; have H' := Aside0.mk H; clear H
  go_enter Try.func13, Try.ntmps13
  go_wp2_with (first | ((with_reducible refine gate_callee (f := 17) rfl ?_); refine goesL_ (some 10) rfl rfl Try.func17 (by kernel_rfl) rfl #[.int .i64 a0, .int .i64 a1] rfl (by (try simp only [List.map_toArray, List.map_cons, List.map_nil]); first | done | rfl | (simp only [List.length_drop, List.length_take]; rfl)) ?_; (with_reducible refine (span_Fits.calls a0 a1 true _ A3.out).mono ?_); rintro e w' ⟨rfl, ⟨nd, rfl⟩⟩; refine ⟨_, rfl, ?_⟩))
  go_loopg [0, 1, 5] k (fun kq v0 v1 v5 w' => ∃ (x0_1 : Int) (x1_1 : Int) (x5_1 : List (S25)), v0 = .int .i64 x0_1 ∧ v1 = .int .i64 x1_1 ∧ Aside0 (span_Pieces.l0 kq x0_1 x1_1 x5_1 = some r) ∧ Aside0 (kq ≤ k) ∧ Aside0 (Kd.R k25 25 w' w.heap.size (fun _ => True) v5 x5_1) ∧ Aside0 (Below w.heap.size w w'))
  case atStart => exact ⟨(a0), (a1), (([] : List (S25))), (by first | rfl | (simp; done) | (simp [*]; done)), (by first | rfl | (simp; done) | (simp [*]; done)), H', ⟨Nat.le_refl _⟩, ⟨by first | exact Kd.R_nil _ _ _ _ _ | exact Kd.N_nil _ _ _ _ _ | exact Kd.V_nil _ _ _ _ _ | exact Kd.Q_nil _ _ _ _ _ | exact Kd.S_nil _ _ _ _ _⟩, ⟨by repeat (first | (with_reducible first | exact HB.out | apply wA | apply wN | apply wD) | exact HB.out)⟩⟩
  case round =>
   clear H'
   try clear c1
   try clear p2
   try clear c4
   obtain ⟨x0_1, x1_1, x5_1, rfl, rfl, HA, HK1, HO_5, HB⟩ := hrel
   cases gk with
   | zero => exact absurd HA.out (by simp [span_Pieces.l0])
   | succ k1 =>
    have H := HA.out; clear HA; simp only [span_Pieces.l0] at H
    by_cases c5 : x1_1 > 0
    ·
     rw [if_pos c5] at H; have c5b0 : decide (0 < x1_1) = true := decide_eq_true c5; clear c5; obtain ⟨ji6, hji6⟩ : ∃ j_ : Int, (mn x1_1 (wrap64 (16 - (Int.tmod x0_1 16)))) = j_ := ⟨_, rfl⟩
     replace H : (if x5_1.length < 5864062014805 then (span_Pieces.l0 k1 (wrap64 (x0_1 + (ji6))) (wrap64 (x1_1 - (ji6))) (x5_1 ++ [(⟨wrap64 (Int.tdiv x0_1 16), Int.tmod x0_1 16, ji6⟩ : S25)])) else (none)) = some r := by first | (rw [hji6] at H; exact H) | (simp only [hji6] at H ⊢; exact H)
     have hji6_ : (if (wrap64 (16 - (Int.tmod x0_1 16))) < x1_1 then (wrap64 (16 - (Int.tmod x0_1 16))) else x1_1) = ji6 := hji6
     by_cases c7 : x5_1.length < 5864062014805
     ·
      rw [if_pos c7] at H; have LMc7 := Aside0.mk c7; clear c7; obtain ⟨y102, hy102⟩ : ∃ y_ : List (S25), y_ = (x5_1 ++ [(⟨wrap64 (Int.tdiv x0_1 16), Int.tmod x0_1 16, ji6⟩ : S25)]) := ⟨_, rfl⟩
      replace H : (span_Pieces.l0 k1 (wrap64 (x0_1 + (ji6))) (wrap64 (x1_1 - (ji6))) y102) = some r := by first | (rw [hy102]; with_reducible exact H) | (have H2_ := (Option.bind_some _ _).symm.trans H; rw [hy102]; with_reducible exact H2_) | (have H2_ := (Option.bind_some _ _).symm.trans H; with_reducible exact H2_) | with_reducible exact H | (rw [hy102]; exact H) | exact H
      have Ny102 := Aside0.mk hy102; clear hy102; have H' := Aside0.mk H; clear H
      go_wp2_with (first | ((with_reducible refine gate_builtin (b := .append) (xs := #[.tmp 20, .tmp 26]) rfl ?_); at_builtin; refine Kd.R_append k25 (w0 := w) w.heap.size rfl (.tmp 20) (.tmp 26) 22 25 (.agg #[(.int .i64 0), (.int .i64 0), (.int .i64 0)]) 24 rfl Try.underlying22 info25 rfl (by decide) (by omega) u5 x5_1 (⟨wrap64 (Int.tdiv x0_1 16), Int.tmod x0_1 16, ji6⟩ : S25) [.int .i64 (wrap64 (Int.tdiv x0_1 16)), .int .i64 (Int.tmod x0_1 16), .int .i64 ji6] (fun _ => True) (fun _ => False) rfl rfl ?aP (fun _ hk => hk.elim) ?aF ?aO ?aB ?aS ?aL ?_; (case aP => exact k25_mkM _ _ _ (⟨wrap64 (Int.tdiv x0_1 16), Int.tmod x0_1 16, ji6⟩ : S25)); (case aB => exact (by repeat (first | (with_reducible first | exact HB.out | apply wA | apply wN | apply wD) | exact HB.out))); (case aF => exact (fun _ _ => trivial)); (case aO => exact (by (with_reducible repeat (first | apply Kd.R_alloc | apply Kd.R_drewN | apply Kd.R_drew)); exact HO_5.out)); (case aS => exact (below_size (by repeat (first | (with_reducible first | exact HB.out | apply wA | apply wN | apply wD) | exact HB.out)))); (case aL => have := LMc7.out; omega); intro v103 w8 ho hb hg hat; rw [← Ny102.out] at ho; have n0_ := Aside0.mk (hb); have n1_ := Aside0.mk (ho); clear HB; clear HO_5; have HB := n0_; have HO104 := n1_; clear n0_ n1_; clear ho hb hg hat))
      go_roundg k1
      case measure => have := HK1.out; omega
      case rel => exact ⟨(wrap64 (x0_1 + (ji6))), (wrap64 (x1_1 - (ji6))), (y102), (by first | rfl | (simp; done) | (simp only [← hji6] <;> (first | rfl | simp)) | (simp [*]; done)), (by first | rfl | (simp; done) | (simp only [← hji6] <;> (first | rfl | simp)) | (simp [*]; done)), H', ⟨by have := HK1.out; omega⟩, ⟨by (with_reducible repeat (first | apply Kd.R_alloc | apply Kd.R_drewN | apply Kd.R_drew)); exact HO104.out⟩, ⟨by repeat (first | (with_reducible first | exact HB.out | apply wA | apply wN | apply wD) | exact HB.out)⟩⟩
     ·
      rw [if_neg c7] at H; exact absurd H (by simp)
    ·
     rw [if_neg c5] at H; have c5b0 : decide (0 < x1_1) = false := decide_eq_false c5; clear c5; obtain rfl := Option.some.inj H
     go_wp2
     go_ret
     exact ⟨_, by first | rfl | exact congrArg (fun b_ => Ending.returned (Value.bool b_)) HRET.out | (rw [HRET.out]) | (simp [errW_none, errW_some] <;> rfl) | (simp [*, errW_none, errW_some] <;> rfl), by (with_reducible repeat (first | apply Kd.R_alloc | apply Kd.R_drewN | apply Kd.R_drew)); exact HO_5.out, by repeat (first | (with_reducible first | exact HB.out | apply wA | apply wN | apply wD) | exact HB.out)⟩
 ·
  replace c4 := Bool.eq_false_iff.mpr c4; subst c4
  have H1 : (some ([] : List (S25))) = some r := by rw [if_neg (show ¬ (false = true) by decide)] at H; exact H
  clear H; have H := H1; clear H1; obtain rfl := Option.some.inj H
  go_enter Try.func13, Try.ntmps13
  go_wp2_with (first | ((with_reducible refine gate_callee (f := 17) rfl ?_); refine goesL_ (some 10) rfl rfl Try.func17 (by kernel_rfl) rfl #[.int .i64 a0, .int .i64 a1] rfl (by (try simp only [List.map_toArray, List.map_cons, List.map_nil]); first | done | rfl | (simp only [List.length_drop, List.length_take]; rfl)) ?_; (with_reducible refine (span_Fits.calls a0 a1 false _ A3.out).mono ?_); rintro e w' ⟨rfl, ⟨nd, rfl⟩⟩; refine ⟨_, rfl, ?_⟩))
  go_ret
  exact ⟨_, by first | rfl | exact congrArg (fun b_ => Ending.returned (Value.bool b_)) HRET.out | (rw [HRET.out]) | (simp [errW_none, errW_some] <;> rfl) | (simp [*, errW_none, errW_some] <;> rfl), by first | exact Kd.R_nil _ _ _ _ _ | exact Kd.N_nil _ _ _ _ _ | exact Kd.V_nil _ _ _ _ _ | exact Kd.Q_nil _ _ _ _ _ | exact Kd.S_nil _ _ _ _ _, by repeat (first | (with_reducible first | exact HB.out | apply wA | apply wN | apply wD) | exact HB.out)⟩

/-! ### span_Pages: function 15 -/
def span_Pages.f (a0 : Int) : Option (Int) := some ((((mn (mx a0 0) 80) + 16) - 1) / 16)
set_option maxHeartbeats 8000000 in
set_option maxRecDepth 100000 in
theorem span_Pages.calls (a0 : Int) (r : Int) (w : World) (h : span_Pages.f a0 = some r) :
 Calls Try.prog 15 #[.int .i64 a0] w fun e w' => e = .returned (.int .i64 r) ∧ Below w.heap.size w w' := by
 have HB := Aside0.mk (Below.refl w.heap.size w); have H : (some ((((mn (mx a0 0) 80) + 16) - 1) / 16)) = some r := h; clear h; obtain ⟨ji2, hji2⟩ : ∃ j_ : Int, (mx a0 0) = j_ := ⟨_, rfl⟩
 replace H : (some ((((mn (ji2) 80) + 16) - 1) / 16)) = some r := by first | (rw [hji2] at H; exact H) | (simp only [hji2] at H ⊢; exact H)
 (try (have hji2l : 0 ≤ ji2 := by (rw [← hji2]; unfold mx; (repeat' split) <;> omega)))
 (try (have hji2m : 0 ≤ ji2 := by omega))
 have hji2_ : (if a0 < 0 then 0 else a0) = ji2 := hji2; obtain ⟨ji3, hji3⟩ : ∃ j_ : Int, (mn (ji2) 80) = j_ := ⟨_, rfl⟩
 replace H : (some ((((ji3) + 16) - 1) / 16)) = some r := by first | (rw [hji3] at H; exact H) | (simp only [hji3] at H ⊢; exact H)
 have hji3_ : (if 80 < (ji2) then 80 else (ji2)) = ji3 := hji3; obtain rfl := Option.some.inj H
 go_enter Try.func15, Try.ntmps15
 go_wp2
 go_ret
 exact ⟨by first | rfl | exact congrArg (fun b_ => Ending.returned (Value.bool b_)) HRET.out | (rw [HRET.out]) | (simp [errW_none, errW_some] <;> rfl) | (simp only [← hji2, ← hji3]; first | rfl | (simp [errW_none, errW_some] <;> rfl)) | (simp [*, errW_none, errW_some] <;> rfl), by repeat (first | (with_reducible first | exact HB.out | apply wA | apply wN | apply wD) | exact HB.out)⟩

/-! ### span_Cut: function 19 -/
def span_Cut.f (a0 : Int) (a1 : Int) (a2 : Int) : Option (Int) := if a1 < 0 then (some 0) else (if a2 < 0 then (some 0) else (if a0 ≤ a1 then (some 0) else (some (mn a2 (wrap64 (a0 - a1))))))
set_option maxHeartbeats 8000000 in
set_option maxRecDepth 100000 in
theorem span_Cut.calls (a0 : Int) (a1 : Int) (a2 : Int) (r : Int) (w : World) (h : span_Cut.f a0 a1 a2 = some r) :
 Calls Try.prog 19 #[.int .i64 a0, .int .i64 a1, .int .i64 a2] w fun e w' => e = .returned (.int .i64 r) ∧ Below w.heap.size w w' := by
 have HB := Aside0.mk (Below.refl w.heap.size w); have H : (if a1 < 0 then (some 0) else (if a2 < 0 then (some 0) else (if a0 ≤ a1 then (some 0) else (some (mn a2 (wrap64 (a0 - a1))))))) = some r := h; clear h
 by_cases c4 : a1 < 0
 ·
  rw [if_pos c4] at H; have c4b0 : decide (a1 < 0) = true := decide_eq_true c4; clear c4; obtain rfl := Option.some.inj H
  go_enter Try.func19, Try.ntmps19
  go_wp2
  go_ret
  exact ⟨by first | rfl | exact congrArg (fun b_ => Ending.returned (Value.bool b_)) HRET.out | (rw [HRET.out]) | (simp [errW_none, errW_some] <;> rfl) | (simp [*, errW_none, errW_some] <;> rfl), by repeat (first | (with_reducible first | exact HB.out | apply wA | apply wN | apply wD) | exact HB.out)⟩
 ·
  rw [if_neg c4] at H; have c4b0 : decide (a1 < 0) = false := decide_eq_false c4; clear c4
  by_cases c5 : a2 < 0
  ·
   rw [if_pos c5] at H; have c5b0 : decide (a2 < 0) = true := decide_eq_true c5; clear c5; obtain rfl := Option.some.inj H
   go_enter Try.func19, Try.ntmps19
   go_wp2
   go_ret
   exact ⟨by first | rfl | exact congrArg (fun b_ => Ending.returned (Value.bool b_)) HRET.out | (rw [HRET.out]) | (simp [errW_none, errW_some] <;> rfl) | (simp [*, errW_none, errW_some] <;> rfl), by repeat (first | (with_reducible first | exact HB.out | apply wA | apply wN | apply wD) | exact HB.out)⟩
  ·
   rw [if_neg c5] at H; have c5b0 : decide (a2 < 0) = false := decide_eq_false c5; clear c5
   by_cases c6 : a0 ≤ a1
   ·
    rw [if_pos c6] at H; have c6b0 : decide (a0 ≤ a1) = true := decide_eq_true c6; clear c6; obtain rfl := Option.some.inj H
    go_enter Try.func19, Try.ntmps19
    go_wp2
    go_ret
    exact ⟨by first | rfl | exact congrArg (fun b_ => Ending.returned (Value.bool b_)) HRET.out | (rw [HRET.out]) | (simp [errW_none, errW_some] <;> rfl) | (simp [*, errW_none, errW_some] <;> rfl), by repeat (first | (with_reducible first | exact HB.out | apply wA | apply wN | apply wD) | exact HB.out)⟩
   ·
    rw [if_neg c6] at H; have c6b0 : decide (a0 ≤ a1) = false := decide_eq_false c6; clear c6; obtain ⟨ji7, hji7⟩ : ∃ j_ : Int, (mn a2 (wrap64 (a0 - a1))) = j_ := ⟨_, rfl⟩
    replace H : (some ji7) = some r := by first | (rw [hji7] at H; exact H) | (simp only [hji7] at H ⊢; exact H)
    have hji7_ : (if (wrap64 (a0 - a1)) < a2 then (wrap64 (a0 - a1)) else a2) = ji7 := hji7; obtain rfl := Option.some.inj H
    go_enter Try.func19, Try.ntmps19
    go_wp2
    go_ret
    exact ⟨by first | rfl | exact congrArg (fun b_ => Ending.returned (Value.bool b_)) HRET.out | (rw [HRET.out]) | (simp [errW_none, errW_some] <;> rfl) | (simp only [← hji7]; first | rfl | (simp [errW_none, errW_some] <;> rfl)) | (simp [*, errW_none, errW_some] <;> rfl), by repeat (first | (with_reducible first | exact HB.out | apply wA | apply wN | apply wD) | exact HB.out)⟩

/-! ### potsherdlaw16_awake: function 21 -/
def potsherdlaw16_awake.f (k : Nat)  : Option (Bool) := (span_Pieces.f k 14 4).bind fun t105 => (if (t105.length : Int) = 2 then (if 0 < (t105.length : Int) then (if (((rd_T25 t105 0).f0) == 0 && (((rd_T25 t105 0).f1) == 14 && (((rd_T25 t105 0).f2) == 2))) = true then (if 1 < (t105.length : Int) then (if (((rd_T25 t105 1).f0) == 1 && (((rd_T25 t105 1).f1) == 0 && (((rd_T25 t105 1).f2) == 2))) = true then ((span_Pages.f 17).bind fun t110 => (if t110 = 2 then ((span_Cut.f 5 3 9).bind fun t111 => (if t111 = 2 then ((span_Fits.f 80 0).bind fun t112 => (some t112)) else (some false))) else (some false))) else (some false)) else (none)) else (some false)) else (none)) else (some false))
theorem potsherdlaw16_awake.mono : ∀ k, LeO (potsherdlaw16_awake.f k ) (potsherdlaw16_awake.f (k + 1) ) := by
 intro  k
 unfold potsherdlaw16_awake.f
 repeat' first
  | (with_reducible exact span_Pieces.mono _ _ _)
  | (with_reducible exact LeO.refl _)
  | (with_reducible exact LeO.none _)
  | (with_reducible refine LeO.ite ?_ ?_)
  | (with_reducible refine LeO.bind ?_ (fun _ => ?_))
  | exact span_Pieces.mono _ _ _
  | exact LeO.none _
  | refine LeO.ite ?_ ?_
  | refine LeO.bind ?_ (fun _ => ?_)
set_option maxHeartbeats 8000000 in
set_option maxRecDepth 100000 in
theorem potsherdlaw16_awake.callsT (k : Nat)  (w : World) (h : potsherdlaw16_awake.f k  = some true) :
 Calls Try.prog 21 #[] w fun e w' => e = .returned (.bool true) ∧ Below w.heap.size w w' := by
 have hu25 := Try.underlying25; have HB := Aside0.mk (Below.refl w.heap.size w); have H : ((span_Pieces.f k 14 4).bind fun t105 => (if (t105.length : Int) = 2 then (if 0 < (t105.length : Int) then (if (((rd_T25 t105 0).f0) == 0 && (((rd_T25 t105 0).f1) == 14 && (((rd_T25 t105 0).f2) == 2))) = true then (if 1 < (t105.length : Int) then (if (((rd_T25 t105 1).f0) == 1 && (((rd_T25 t105 1).f1) == 0 && (((rd_T25 t105 1).f2) == 2))) = true then ((span_Pages.f 17).bind fun t110 => (if t110 = 2 then ((span_Cut.f 5 3 9).bind fun t111 => (if t111 = 2 then ((span_Fits.f 80 0).bind fun t112 => (some t112)) else (some false))) else (some false))) else (some false)) else (none)) else (some false)) else (none)) else (some false))) = some true := h; clear h; replace H := Option.bind_eq_some_iff.mp H; obtain ⟨t105, A10, H⟩ := H; replace H : (if (t105.length : Int) = 2 then (if 0 < (t105.length : Int) then (if (((rd_T25 t105 0).f0) == 0 && (((rd_T25 t105 0).f1) == 14 && (((rd_T25 t105 0).f2) == 2))) = true then (if 1 < (t105.length : Int) then (if (((rd_T25 t105 1).f0) == 1 && (((rd_T25 t105 1).f1) == 0 && (((rd_T25 t105 1).f2) == 2))) = true then ((span_Pages.f 17).bind fun t110 => (if t110 = 2 then ((span_Cut.f 5 3 9).bind fun t111 => (if t111 = 2 then ((span_Fits.f 80 0).bind fun t112 => (some t112)) else (some false))) else (some false))) else (some false)) else (none)) else (some false)) else (none)) else (some false)) = some true := H; have A1 := Aside0.mk A10; clear A10
 by_cases c2 : (t105.length : Int) = 2
 ·
  rw [if_pos c2] at H; have c2b0 : ((t105.length : Int) == 2) = true := beq_iff_eq.mpr c2; have c2b1 : ((t105.length : Int) != 2) = false := bne_eq_false_iff_eq.mpr c2; clear c2
  by_cases c3 : 0 < (t105.length : Int)
  ·
   rw [if_pos c3] at H; have c3b0 : decide (0 < (t105.length : Int)) = true := decide_eq_true c3; have c3b1 : decide (0 < t105.length) = true := decide_eq_true (by omega); clear c3
   by_cases c4 : (((rd_T25 t105 0).f0) == 0 && (((rd_T25 t105 0).f1) == 14 && (((rd_T25 t105 0).f2) == 2))) = true
   ·
    rw [if_pos c4] at H; have c4b0 : (((rd_T25 t105 0).f0) == 0 && (((rd_T25 t105 0).f1) == 14 && (((rd_T25 t105 0).f2) == 2))) = true := c4
    (try (have c4b1 : decide (((rd_T25 t105 0).f0) = 0 && (((rd_T25 t105 0).f1) == 14 && (((rd_T25 t105 0).f2) == 2))) = true := by simpa using c4))
    (try (have c4b2 : (((rd_T25 t105 0).f0) == 0 && (((rd_T25 t105 0).f1) == 14 && (((rd_T25 t105 0).f2) == 2))) = true := by simpa using c4))
    clear c4
    by_cases c5 : 1 < (t105.length : Int)
    ·
     rw [if_pos c5] at H; have c5b0 : decide (1 < (t105.length : Int)) = true := decide_eq_true c5; have c5b1 : decide (1 < t105.length) = true := decide_eq_true (by omega); clear c5
     by_cases c6 : (((rd_T25 t105 1).f0) == 1 && (((rd_T25 t105 1).f1) == 0 && (((rd_T25 t105 1).f2) == 2))) = true
     ·
      rw [if_pos c6] at H; have c6b0 : (((rd_T25 t105 1).f0) == 1 && (((rd_T25 t105 1).f1) == 0 && (((rd_T25 t105 1).f2) == 2))) = true := c6
      (try (have c6b1 : decide (((rd_T25 t105 1).f0) = 1 && (((rd_T25 t105 1).f1) == 0 && (((rd_T25 t105 1).f2) == 2))) = true := by simpa using c6))
      (try (have c6b2 : (((rd_T25 t105 1).f0) == 1 && (((rd_T25 t105 1).f1) == 0 && (((rd_T25 t105 1).f2) == 2))) = true := by simpa using c6))
      clear c6; replace H := Option.bind_eq_some_iff.mp H; obtain ⟨t110, A70, H⟩ := H; replace H : (if t110 = 2 then ((span_Cut.f 5 3 9).bind fun t111 => (if t111 = 2 then ((span_Fits.f 80 0).bind fun t112 => (some t112)) else (some false))) else (some false)) = some true := H; have A7 := Aside0.mk A70; clear A70
      by_cases c8 : t110 = 2
      ·
       rw [if_pos c8] at H; have c8b0 : (t110 == 2) = true := beq_iff_eq.mpr c8; have c8b1 : (t110 != 2) = false := bne_eq_false_iff_eq.mpr c8; clear c8; replace H := Option.bind_eq_some_iff.mp H; obtain ⟨t111, A90, H⟩ := H; replace H : (if t111 = 2 then ((span_Fits.f 80 0).bind fun t112 => (some t112)) else (some false)) = some true := H; have A9 := Aside0.mk A90; clear A90
       by_cases c10 : t111 = 2
       ·
        rw [if_pos c10] at H; have c10b0 : (t111 == 2) = true := beq_iff_eq.mpr c10; have c10b1 : (t111 != 2) = false := bne_eq_false_iff_eq.mpr c10; clear c10; replace H := Option.bind_eq_some_iff.mp H; obtain ⟨t112, A110, H⟩ := H; replace H : (some t112) = some true := H; have A11 := Aside0.mk A110; clear A110; have HRET := Aside0.mk (Option.some.inj H); clear H
        go_enter Try.func21, Try.ntmps21
        go_wp2_with (first | ((with_reducible refine gate_callee (f := 13) rfl ?_); refine goesL_ (some 2) rfl rfl Try.func13 (by kernel_rfl) rfl #[.int .i64 14, .int .i64 4] rfl (by (try simp only [List.map_toArray, List.map_cons, List.map_nil]); first | done | rfl | (simp only [List.length_drop, List.length_take]; rfl)) ?_; (with_reducible refine (span_Pieces.calls k 14 4 t105 _ A1.out).mono ?_); rintro e w12 ⟨v106, rfl, ho0, hb⟩; refine ⟨_, rfl, ?_⟩; have n0_ := Aside0.mk (Kd.R_lower ho0 (below_size (by repeat (first | (with_reducible first | exact HB.out | apply wA | apply wN | apply wD) | exact HB.out)))); have n1_ := Aside0.mk (below_step (by repeat (first | (with_reducible first | exact HB.out | apply wA | apply wN | apply wD) | exact HB.out)) hb); clear HB; have HO107 := n0_; have HB := n1_; clear n0_ n1_; (try clear hb); (try clear hb2); (try clear hk); (try clear hi); (try clear ho0); obtain ⟨Ao13, co13, eo13⟩ := Kd.R_slice HO107.out; subst eo13; have p108 : 0 ≤ (0 : Int) := (by omega); have q108 : 0 < (t105.length : Int) := of_decide_eq_true (by first | (with_reducible assumption) | assumption); obtain ⟨ad108, e108, hx108_0, hx108_1, hx108_2⟩ := at_T25 (Kd.R_reads' HO107.out).2.2 0 p108 q108; cases e108; have qi108 : (0 < t105.length) = True := eq_true (by omega); (try rw [show ((0 : Int)).toNat = 0 from rfl] at hx108_0); (try rw [show 0 * 3 = 0 from rfl] at hx108_0); (try rw [Addr.add_zero'] at hx108_0); (try rw [show ((0 : Int)).toNat = 0 from rfl] at hx108_1); (try rw [show 0 * 3 = 0 from rfl] at hx108_1); (try rw [Addr.add_zero'] at hx108_1); (try rw [show ((0 : Int)).toNat = 0 from rfl] at hx108_2); (try rw [show 0 * 3 = 0 from rfl] at hx108_2); (try rw [Addr.add_zero'] at hx108_2); replace p108 := eq_true p108; replace q108 := eq_true q108; have p109 : 0 ≤ (1 : Int) := (by omega); have q109 : 1 < (t105.length : Int) := of_decide_eq_true (by first | (with_reducible assumption) | assumption); obtain ⟨ad109, e109, hx109_0, hx109_1, hx109_2⟩ := at_T25 (Kd.R_reads' HO107.out).2.2 1 p109 q109; obtain rfl : ad108 = ad109 := (by injection e109); (try simp only [show (1 : Int).toNat = 1 from rfl, Nat.reduceMul, Nat.reduceEqDiff, Go.Addr.add, ↓reduceIte] at hx109_0); (try simp only [show (1 : Int).toNat = 1 from rfl, Nat.reduceMul, Nat.reduceEqDiff, Go.Addr.add, ↓reduceIte] at hx109_1); (try simp only [show (1 : Int).toNat = 1 from rfl, Nat.reduceMul, Nat.reduceEqDiff, Go.Addr.add, ↓reduceIte] at hx109_2); have qi109 : (1 < t105.length) = True := eq_true (by omega); (try rw [show ((1 : Int)).toNat = 1 from rfl] at hx109_0); (try rw [show 1 * 3 = 3 from rfl] at hx109_0); (try rw [show ((1 : Int)).toNat = 1 from rfl] at hx109_1); (try rw [show 1 * 3 = 3 from rfl] at hx109_1); (try rw [show ((1 : Int)).toNat = 1 from rfl] at hx109_2); (try rw [show 1 * 3 = 3 from rfl] at hx109_2); replace p109 := eq_true p109; replace q109 := eq_true q109) | (go_at_call 15; (with_reducible refine (span_Pages.calls 17 t110 _ A7.out).mono ?_); rintro e w14 ⟨rfl, hb⟩; have n0_ := Aside0.mk (Kd.R_below (by (with_reducible repeat (first | apply Kd.R_alloc | apply Kd.R_drewN | apply Kd.R_drew)); exact HO107.out) hb); have n1_ := Aside0.mk (below_step (by repeat (first | (with_reducible first | exact HB.out | apply wA | apply wN | apply wD) | exact HB.out)) hb); clear HO107; clear HB; have HO107 := n0_; have HB := n1_; clear n0_ n1_; (try clear hb); (try clear hb2); (try clear hk); (try clear hi)) | (go_at_call 19; (with_reducible refine (span_Cut.calls 5 3 9 t111 _ A9.out).mono ?_); rintro e w15 ⟨rfl, hb⟩; have n0_ := Aside0.mk (Kd.R_below (by (with_reducible repeat (first | apply Kd.R_alloc | apply Kd.R_drewN | apply Kd.R_drew)); exact HO107.out) hb); have n1_ := Aside0.mk (below_step (by repeat (first | (with_reducible first | exact HB.out | apply wA | apply wN | apply wD) | exact HB.out)) hb); clear HO107; clear HB; have HO107 := n0_; have HB := n1_; clear n0_ n1_; (try clear hb); (try clear hb2); (try clear hk); (try clear hi)) | (go_at_call 17; (with_reducible refine (span_Fits.calls 80 0 t112 _ A11.out).mono ?_); rintro e w' ⟨rfl, ⟨nd, rfl⟩⟩))
        go_ret
        exact ⟨by first | rfl | exact congrArg (fun b_ => Ending.returned (Value.bool b_)) HRET.out | (rw [HRET.out]) | (simp [errW_none, errW_some] <;> rfl) | (simp [*, errW_none, errW_some] <;> rfl), by repeat (first | (with_reducible first | exact HB.out | apply wA | apply wN | apply wD) | exact HB.out)⟩
       ·
        rw [if_neg c10] at H; have c10b0 : (t111 == 2) = false := beq_eq_false_iff_ne.mpr c10; have c10b1 : (t111 != 2) = true := bne_iff_ne.mpr c10; exact absurd H (by simp)
      ·
       rw [if_neg c8] at H; have c8b0 : (t110 == 2) = false := beq_eq_false_iff_ne.mpr c8; have c8b1 : (t110 != 2) = true := bne_iff_ne.mpr c8; exact absurd H (by simp)
     ·
      rw [if_neg c6] at H
      have c6b0 : (((rd_T25 t105 1).f0) == 1 && (((rd_T25 t105 1).f1) == 0 && (((rd_T25 t105 1).f2) == 2))) = false := by simpa using c6
      (try (have c6b1 : decide (((rd_T25 t105 1).f0) = 1 && (((rd_T25 t105 1).f1) == 0 && (((rd_T25 t105 1).f2) == 2))) = false := by simpa using c6))
      (try (have c6b2 : (((rd_T25 t105 1).f0) == 1 && (((rd_T25 t105 1).f1) == 0 && (((rd_T25 t105 1).f2) == 2))) = false := by simpa using c6))
      (try (have c6b3 : ¬ (((rd_T25 t105 1).f0) = 1 && (((rd_T25 t105 1).f1) == 0 && (((rd_T25 t105 1).f2) == 2))) := by simpa using c6))
      clear c6; exact absurd H (by simp)
    ·
     rw [if_neg c5] at H; exact absurd H (by simp)
   ·
    rw [if_neg c4] at H
    have c4b0 : (((rd_T25 t105 0).f0) == 0 && (((rd_T25 t105 0).f1) == 14 && (((rd_T25 t105 0).f2) == 2))) = false := by simpa using c4
    (try (have c4b1 : decide (((rd_T25 t105 0).f0) = 0 && (((rd_T25 t105 0).f1) == 14 && (((rd_T25 t105 0).f2) == 2))) = false := by simpa using c4))
    (try (have c4b2 : (((rd_T25 t105 0).f0) == 0 && (((rd_T25 t105 0).f1) == 14 && (((rd_T25 t105 0).f2) == 2))) = false := by simpa using c4))
    (try (have c4b3 : ¬ (((rd_T25 t105 0).f0) = 0 && (((rd_T25 t105 0).f1) == 14 && (((rd_T25 t105 0).f2) == 2))) := by simpa using c4))
    clear c4; exact absurd H (by simp)
  ·
   rw [if_neg c3] at H; exact absurd H (by simp)
 ·
  rw [if_neg c2] at H; have c2b0 : ((t105.length : Int) == 2) = false := beq_eq_false_iff_ne.mpr c2; have c2b1 : ((t105.length : Int) != 2) = true := bne_iff_ne.mpr c2; exact absurd H (by simp)
theorem potsherdlaw16_awake.only (k : Nat) (r : Bool) (h : potsherdlaw16_awake.f k  = some r) : r = true := by
 have h1 : potsherdlaw16_awake.f 30 = some true := by decide +kernel
 have h2 := at_rounds potsherdlaw16_awake.mono (Nat.le_max_left k 30) h; have h3 := at_rounds potsherdlaw16_awake.mono (Nat.le_max_right k 30) h1; rw [h2] at h3; exact Option.some.inj h3
theorem potsherdlaw16_awake.calls (k : Nat) (r : Bool) (w : World) (h : potsherdlaw16_awake.f k  = some r) :
 Calls Try.prog 21 #[] w fun e w' => e = .returned (.bool r) ∧ Below w.heap.size w w' := by
 obtain rfl := potsherdlaw16_awake.only k r h; exact potsherdlaw16_awake.callsT k w h

-- NOT PRINTED: function 7 (potsherdlaw16_SpanTwo)

end Go.Proofs.Ytjpecdlagiohfaa.PTwo
