-- PRINTED BY print.sh 35421559b90ae4d0a3588c463048766b98c2df88dd9212a6774a882060cdf62d: not written by this session
import Derived.Test.YtjpecdlagiohfaaPSpanAllx0
import Derived.Test.YtjpecdlagiohfaaPSpanAllx1
namespace Go.Proofs.Ytjpecdlagiohfaa.PSpanAll
open Go.RowKit Go.Proofs.YtjpecdlagiohfaaW.PrintWords Go.Proofs.YtjpecdlagiohfaaW.PrintLast Go.Proofs.YtjpecdlagiohfaaW.PrintMore
attribute [local go_sem] max2_int min2_int max_two min_two max_three min_three max_four min_four   -- for this text's walks alone
set_option linter.unusedVariables false
set_option linter.unusedSimpArgs false

attribute [local go_sem high] eqA25
/-! ### span_Fits: function 17 -/
def span_Fits.f (a0 : Int) (a1 : Int) : Option (Bool) := if a0 ≥ 0 then (if a0 ≤ 80 then (if a1 ≥ 0 then (some (decide (a1 ≤ (wrap64 (80 - a0))))) else (some false)) else (some false)) else (some false)
set_option maxHeartbeats 8000000 in
set_option maxRecDepth 100000 in
theorem span_Fits.calls (a0 : Int) (a1 : Int) (r : Bool) (w : World) (h : span_Fits.f a0 a1 = some r) :
    Calls Try.prog 17 #[.int .i64 a0, .int .i64 a1] w fun e w' => e = .returned (.bool r) ∧ Drawn0 w w' := by
  have H : (if a0 ≥ 0 then (if a0 ≤ 80 then (if a1 ≥ 0 then (some (decide (a1 ≤ (wrap64 (80 - a0))))) else (some false)) else (some false)) else (some false)) = some r := h
  clear h
  by_cases c3 : a0 ≥ 0
  · rw [if_pos c3] at H
    have c3b0 : decide (0 ≤ a0) = true := decide_eq_true c3
    clear c3
    by_cases c4 : a0 ≤ 80
    · rw [if_pos c4] at H
      have c4b0 : decide (a0 ≤ 80) = true := decide_eq_true c4
      clear c4
      by_cases c5 : a1 ≥ 0
      · rw [if_pos c5] at H
        have c5b0 : decide (0 ≤ a1) = true := decide_eq_true c5
        clear c5
        obtain rfl := Option.some.inj H
        go_enter Try.func17, Try.ntmps17
        go_wp2
        go_ret
        exact ⟨by first | rfl | (simp; done) | (simp [*]; done), by repeat (first | exact Drawn0.refl _ | apply Drawn0.step)⟩
      · rw [if_neg c5] at H
        have c5b0 : decide (0 ≤ a1) = false := decide_eq_false c5
        clear c5
        obtain rfl := Option.some.inj H
        go_enter Try.func17, Try.ntmps17
        go_wp2
        go_ret
        exact ⟨by first | rfl | (simp; done) | (simp [*]; done), by repeat (first | exact Drawn0.refl _ | apply Drawn0.step)⟩
    · rw [if_neg c4] at H
      have c4b0 : decide (a0 ≤ 80) = false := decide_eq_false c4
      clear c4
      obtain rfl := Option.some.inj H
      go_enter Try.func17, Try.ntmps17
      go_wp2
      go_ret
      exact ⟨by first | rfl | (simp; done) | (simp [*]; done), by repeat (first | exact Drawn0.refl _ | apply Drawn0.step)⟩
  · rw [if_neg c3] at H
    have c3b0 : decide (0 ≤ a0) = false := decide_eq_false c3
    clear c3
    obtain rfl := Option.some.inj H
    go_enter Try.func17, Try.ntmps17
    go_wp2
    go_ret
    exact ⟨by first | rfl | (simp; done) | (simp [*]; done), by repeat (first | exact Drawn0.refl _ | apply Drawn0.step)⟩

/-! ### span_Pieces: function 13 -/
def span_Pieces.l0 : Nat → Int → Int → List (S25) → Option ((List (S25)))
  | 0, _, _, _ => none
  | k + 1, x0, x1, x5 => if x1 > 0 then (if x5.length < 5864062014805 then (span_Pieces.l0 k (wrap64 (x0 + (mn x1 (wrap64 (16 - (Int.tmod x0 16)))))) (wrap64 (x1 - (mn x1 (wrap64 (16 - (Int.tmod x0 16)))))) (x5 ++ [(⟨wrap64 (Int.tdiv x0 16), Int.tmod x0 16, mn x1 (wrap64 (16 - (Int.tmod x0 16)))⟩ : S25)])) else (none)) else (some x5)
def span_Pieces.f (k : Nat) (a0 : Int) (a1 : Int) : Option ((List (S25))) := (span_Fits.f a0 a1).bind fun t101 => (if t101 = true then (span_Pieces.l0 k a0 a1 ([] : List (S25))) else (some ([] : List (S25))))
theorem span_Pieces.mono_l : ∀ k, (∀ y0 y1 y2, LeO (span_Pieces.l0 k y0 y1 y2) (span_Pieces.l0 (k + 1) y0 y1 y2))
  | 0 => fun _ _ _ r h => by simp [span_Pieces.l0] at h
  | k + 1 => by
    have ih0 := span_Pieces.mono_l k
    · intro y0 y1 y2
      unfold span_Pieces.l0
      repeat' first
      | (with_reducible exact ih0 _ _ _)
      | (with_reducible exact LeO.refl _)
      | (with_reducible exact LeO.none _)
      | (with_reducible refine LeO.ite ?_ ?_)
      | (with_reducible refine LeO.bind ?_ (fun _ => ?_))
      | exact ih0 _ _ _
      | exact LeO.none _
      | refine LeO.ite ?_ ?_
      | refine LeO.bind ?_ (fun _ => ?_)
theorem span_Pieces.mono : ∀ a0 a1 k, LeO (span_Pieces.f k a0 a1) (span_Pieces.f (k + 1) a0 a1) := by
  intro a0 a1 k
  have ih0 := span_Pieces.mono_l k
  unfold span_Pieces.f
  repeat' first
      | (with_reducible exact ih0 _ _ _)
      | (with_reducible exact LeO.refl _)
      | (with_reducible exact LeO.none _)
      | (with_reducible refine LeO.ite ?_ ?_)
      | (with_reducible refine LeO.bind ?_ (fun _ => ?_))
      | exact ih0 _ _ _
      | exact LeO.none _
      | refine LeO.ite ?_ ?_
      | refine LeO.bind ?_ (fun _ => ?_)
set_option maxHeartbeats 8000000 in
set_option maxRecDepth 100000 in
theorem span_Pieces.calls (k : Nat) (a0 : Int) (a1 : Int) (r : List (S25)) (w : World) (h : span_Pieces.f k a0 a1 = some r) :
    Calls Try.prog 13 #[.int .i64 a0, .int .i64 a1] w fun e w' => ∃ v0_ : Value, e = .returned (v0_) ∧ Kd.R k25 25 w' w.heap.size (fun _ => True) v0_ r ∧ Below w.heap.size w w' := by
  have hu25 := Try.underlying25
  have HB := Aside0.mk (Below.refl w.heap.size w)
  have H : ((span_Fits.f a0 a1).bind fun t101 => (if t101 = true then (span_Pieces.l0 k a0 a1 ([] : List (S25))) else (some ([] : List (S25))))) = some r := h
  clear h
  replace H := Option.bind_eq_some_iff.mp H
  obtain ⟨t101, A30, H⟩ := H
  replace H : (if t101 = true then (span_Pieces.l0 k a0 a1 ([] : List (S25))) else (some ([] : List (S25)))) = some r := H
  have A3 := Aside0.mk A30
  clear A30
  by_cases c4 : t101 = true
  · subst c4
    have H1 : (span_Pieces.l0 k a0 a1 ([] : List (S25))) = some r := by rw [if_pos rfl] at H; exact H
    clear H
    have H := H1
    clear H1
    have H' := Aside0.mk H
    clear H
    go_enter Try.func13, Try.ntmps13
    go_wp2_with (first | ((with_reducible refine gate_callee (f := 17) rfl ?_); refine goesL_ (some 10) rfl rfl Try.func17 (by kernel_rfl) rfl #[.int .i64 a0, .int .i64 a1] rfl (by (try simp only [List.map_toArray, List.map_cons, List.map_nil]); first | done | rfl | (simp only [List.length_drop, List.length_take]; rfl)) ?_; (with_reducible refine (span_Fits.calls a0 a1 true _ A3.out).mono ?_); rintro e w' ⟨rfl, ⟨nd, rfl⟩⟩; refine ⟨_, rfl, ?_⟩))
    go_loopg [0, 1, 5] k (fun kq v0 v1 v5 w' => ∃ (x0_1 : Int) (x1_1 : Int) (x5_1 : List (S25)), v0 = .int .i64 x0_1 ∧ v1 = .int .i64 x1_1 ∧ Aside0 (span_Pieces.l0 kq x0_1 x1_1 x5_1 = some r) ∧ Aside0 (kq ≤ k) ∧ Aside0 (Kd.R k25 25 w' w.heap.size (fun _ => True) v5 x5_1) ∧ Aside0 (Below w.heap.size w w'))
    case atStart => exact ⟨(a0), (a1), (([] : List (S25))), (by first | rfl | (simp; done) | (simp [*]; done)), (by first | rfl | (simp; done) | (simp [*]; done)), H', ⟨Nat.le_refl _⟩, ⟨by first | exact Kd.R_nil _ _ _ _ _ | exact Kd.N_nil _ _ _ _ _ | exact Kd.V_nil _ _ _ _ _ | exact Kd.Q_nil _ _ _ _ _ | exact Kd.S_nil _ _ _ _ _⟩, ⟨by repeat (first | (with_reducible first | exact HB.out | apply below_alloc | apply pw_below_drewN | apply below_drew1) | exact HB.out)⟩⟩
    case round =>
      clear H'
      try clear c1
      try clear p2
      try clear c4
      obtain ⟨x0_1, x1_1, x5_1, rfl, rfl, HA, HK1, HO_5, HB⟩ := hrel
      cases gk with
      | zero => exact absurd HA.out (by simp [span_Pieces.l0])
      | succ k1 =>
        have H := HA.out
        clear HA
        simp only [span_Pieces.l0] at H
        by_cases c5 : x1_1 > 0
        · rw [if_pos c5] at H
          have c5b0 : decide (0 < x1_1) = true := decide_eq_true c5
          clear c5
          obtain ⟨ji6, hji6⟩ : ∃ j_ : Int, (mn x1_1 (wrap64 (16 - (Int.tmod x0_1 16)))) = j_ := ⟨_, rfl⟩
          replace H : (if x5_1.length < 5864062014805 then (span_Pieces.l0 k1 (wrap64 (x0_1 + (ji6))) (wrap64 (x1_1 - (ji6))) (x5_1 ++ [(⟨wrap64 (Int.tdiv x0_1 16), Int.tmod x0_1 16, ji6⟩ : S25)])) else (none)) = some r := by first | (rw [hji6] at H; exact H) | (simp only [hji6] at H ⊢; exact H)
          have hji6_ : (if (wrap64 (16 - (Int.tmod x0_1 16))) < x1_1 then (wrap64 (16 - (Int.tmod x0_1 16))) else x1_1) = ji6 := hji6
          by_cases c7 : x5_1.length < 5864062014805
          · rw [if_pos c7] at H
            have LMc7 := Aside0.mk c7
            clear c7
            obtain ⟨y102, hy102⟩ : ∃ y_ : List (S25), y_ = (x5_1 ++ [(⟨wrap64 (Int.tdiv x0_1 16), Int.tmod x0_1 16, ji6⟩ : S25)]) := ⟨_, rfl⟩
            replace H : (span_Pieces.l0 k1 (wrap64 (x0_1 + (ji6))) (wrap64 (x1_1 - (ji6))) y102) = some r := by first | (rw [hy102]; with_reducible exact H) | (have H2_ := (Option.bind_some _ _).symm.trans H; rw [hy102]; with_reducible exact H2_) | (have H2_ := (Option.bind_some _ _).symm.trans H; with_reducible exact H2_) | with_reducible exact H | (rw [hy102]; exact H) | exact H
            have Ny102 := Aside0.mk hy102
            clear hy102
            have H' := Aside0.mk H
            clear H
            go_wp2_with (first | ((with_reducible refine gate_builtin (b := .append) (xs := #[.tmp 20, .tmp 26]) rfl ?_); at_builtin; refine Kd.R_append k25 (w0 := w) w.heap.size rfl (.tmp 20) (.tmp 26) 22 25 (.agg #[(.int .i64 0), (.int .i64 0), (.int .i64 0)]) 24 rfl Try.underlying22 info25 rfl (by decide) (by omega) u5 x5_1 (⟨wrap64 (Int.tdiv x0_1 16), Int.tmod x0_1 16, ji6⟩ : S25) [.int .i64 (wrap64 (Int.tdiv x0_1 16)), .int .i64 (Int.tmod x0_1 16), .int .i64 ji6] (fun _ => True) (fun _ => False) rfl rfl ?aP (fun _ hk => hk.elim) ?aF ?aO ?aB ?aS ?aL ?_; (case aP => exact k25_mkM _ _ _ (⟨wrap64 (Int.tdiv x0_1 16), Int.tmod x0_1 16, ji6⟩ : S25)); (case aB => exact (by repeat (first | (with_reducible first | exact HB.out | apply below_alloc | apply pw_below_drewN | apply below_drew1) | exact HB.out))); (case aF => exact (fun _ _ => trivial)); (case aO => exact (by (with_reducible repeat (first | apply Kd.R_alloc | apply Kd.R_drewN | apply Kd.R_drew)); exact HO_5.out)); (case aS => exact (below_size (by repeat (first | (with_reducible first | exact HB.out | apply below_alloc | apply pw_below_drewN | apply below_drew1) | exact HB.out)))); (case aL => have := LMc7.out; omega); intro v103 w8 ho hb hg hat; rw [← Ny102.out] at ho; have n0_ := Aside0.mk (hb); have n1_ := Aside0.mk (ho); clear HB; clear HO_5; have HB := n0_; have HO104 := n1_; clear n0_ n1_; clear ho hb hg hat))
            go_roundg k1
            case measure => have := HK1.out; omega
            case rel => exact ⟨(wrap64 (x0_1 + (ji6))), (wrap64 (x1_1 - (ji6))), (y102), (by first | rfl | (simp; done) | (simp only [← hji6] <;> (first | rfl | simp)) | (simp [*]; done)), (by first | rfl | (simp; done) | (simp only [← hji6] <;> (first | rfl | simp)) | (simp [*]; done)), H', ⟨by have := HK1.out; omega⟩, ⟨by (with_reducible repeat (first | apply Kd.R_alloc | apply Kd.R_drewN | apply Kd.R_drew)); exact HO104.out⟩, ⟨by repeat (first | (with_reducible first | exact HB.out | apply below_alloc | apply pw_below_drewN | apply below_drew1) | exact HB.out)⟩⟩
          · rw [if_neg c7] at H
            exact absurd H (by simp)
        · rw [if_neg c5] at H
          have c5b0 : decide (0 < x1_1) = false := decide_eq_false c5
          clear c5
          obtain rfl := Option.some.inj H
          go_wp2
          go_ret
          exact ⟨_, by first | rfl | (simp [errW_none, errW_some] <;> rfl) | (simp [*, errW_none, errW_some] <;> rfl), by (with_reducible repeat (first | apply Kd.R_alloc | apply Kd.R_drewN | apply Kd.R_drew)); exact HO_5.out, by repeat (first | (with_reducible first | exact HB.out | apply below_alloc | apply pw_below_drewN | apply below_drew1) | exact HB.out)⟩
  · replace c4 := Bool.eq_false_iff.mpr c4
    subst c4
    have H1 : (some ([] : List (S25))) = some r := by rw [if_neg (show ¬ (false = true) by decide)] at H; exact H
    clear H
    have H := H1
    clear H1
    obtain rfl := Option.some.inj H
    go_enter Try.func13, Try.ntmps13
    go_wp2_with (first | ((with_reducible refine gate_callee (f := 17) rfl ?_); refine goesL_ (some 10) rfl rfl Try.func17 (by kernel_rfl) rfl #[.int .i64 a0, .int .i64 a1] rfl (by (try simp only [List.map_toArray, List.map_cons, List.map_nil]); first | done | rfl | (simp only [List.length_drop, List.length_take]; rfl)) ?_; (with_reducible refine (span_Fits.calls a0 a1 false _ A3.out).mono ?_); rintro e w' ⟨rfl, ⟨nd, rfl⟩⟩; refine ⟨_, rfl, ?_⟩))
    go_ret
    exact ⟨_, by first | rfl | (simp [errW_none, errW_some] <;> rfl) | (simp [*, errW_none, errW_some] <;> rfl), by first | exact Kd.R_nil _ _ _ _ _ | exact Kd.N_nil _ _ _ _ _ | exact Kd.V_nil _ _ _ _ _ | exact Kd.Q_nil _ _ _ _ _ | exact Kd.S_nil _ _ _ _ _, by repeat (first | (with_reducible first | exact HB.out | apply below_alloc | apply pw_below_drewN | apply below_drew1) | exact HB.out)⟩

/-! ### span_Pages: function 15 -/
def span_Pages.f (a0 : Int) : Option (Int) := some ((((mn (mx a0 0) 80) + 16) - 1) / 16)
set_option maxHeartbeats 8000000 in
set_option maxRecDepth 100000 in
theorem span_Pages.calls (a0 : Int) (r : Int) (w : World) (h : span_Pages.f a0 = some r) :
    Calls Try.prog 15 #[.int .i64 a0] w fun e w' => e = .returned (.int .i64 r) ∧ Below w.heap.size w w' := by
  have HB := Aside0.mk (Below.refl w.heap.size w)
  have H : (some ((((mn (mx a0 0) 80) + 16) - 1) / 16)) = some r := h
  clear h
  obtain ⟨ji2, hji2⟩ : ∃ j_ : Int, (mx a0 0) = j_ := ⟨_, rfl⟩
  replace H : (some ((((mn (ji2) 80) + 16) - 1) / 16)) = some r := by first | (rw [hji2] at H; exact H) | (simp only [hji2] at H ⊢; exact H)
  (try (have hji2l : 0 ≤ ji2 := by (rw [← hji2]; unfold mx; (repeat' split) <;> omega)))
  (try (have hji2m : 0 ≤ ji2 := by omega))
  have hji2_ : (if a0 < 0 then 0 else a0) = ji2 := hji2
  obtain ⟨ji3, hji3⟩ : ∃ j_ : Int, (mn (ji2) 80) = j_ := ⟨_, rfl⟩
  replace H : (some ((((ji3) + 16) - 1) / 16)) = some r := by first | (rw [hji3] at H; exact H) | (simp only [hji3] at H ⊢; exact H)
  have hji3_ : (if 80 < (ji2) then 80 else (ji2)) = ji3 := hji3
  obtain rfl := Option.some.inj H
  go_enter Try.func15, Try.ntmps15
  go_wp2
  go_ret
  exact ⟨by first | rfl | (simp [errW_none, errW_some] <;> rfl) | (simp only [← hji2, ← hji3]; first | rfl | (simp [errW_none, errW_some] <;> rfl)) | (simp [*, errW_none, errW_some] <;> rfl), by repeat (first | (with_reducible first | exact HB.out | apply below_alloc | apply pw_below_drewN | apply below_drew1) | exact HB.out)⟩

/-! ### span_Cut: function 19 -/
def span_Cut.f (a0 : Int) (a1 : Int) (a2 : Int) : Option (Int) := if a1 < 0 then (some 0) else (if a2 < 0 then (some 0) else (if a0 ≤ a1 then (some 0) else (some (mn a2 (wrap64 (a0 - a1))))))
set_option maxHeartbeats 8000000 in
set_option maxRecDepth 100000 in
theorem span_Cut.calls (a0 : Int) (a1 : Int) (a2 : Int) (r : Int) (w : World) (h : span_Cut.f a0 a1 a2 = some r) :
    Calls Try.prog 19 #[.int .i64 a0, .int .i64 a1, .int .i64 a2] w fun e w' => e = .returned (.int .i64 r) ∧ Below w.heap.size w w' := by
  have HB := Aside0.mk (Below.refl w.heap.size w)
  have H : (if a1 < 0 then (some 0) else (if a2 < 0 then (some 0) else (if a0 ≤ a1 then (some 0) else (some (mn a2 (wrap64 (a0 - a1))))))) = some r := h
  clear h
  by_cases c4 : a1 < 0
  · rw [if_pos c4] at H
    have c4b0 : decide (a1 < 0) = true := decide_eq_true c4
    clear c4
    obtain rfl := Option.some.inj H
    go_enter Try.func19, Try.ntmps19
    go_wp2
    go_ret
    exact ⟨by first | rfl | (simp [errW_none, errW_some] <;> rfl) | (simp [*, errW_none, errW_some] <;> rfl), by repeat (first | (with_reducible first | exact HB.out | apply below_alloc | apply pw_below_drewN | apply below_drew1) | exact HB.out)⟩
  · rw [if_neg c4] at H
    have c4b0 : decide (a1 < 0) = false := decide_eq_false c4
    clear c4
    by_cases c5 : a2 < 0
    · rw [if_pos c5] at H
      have c5b0 : decide (a2 < 0) = true := decide_eq_true c5
      clear c5
      obtain rfl := Option.some.inj H
      go_enter Try.func19, Try.ntmps19
      go_wp2
      go_ret
      exact ⟨by first | rfl | (simp [errW_none, errW_some] <;> rfl) | (simp [*, errW_none, errW_some] <;> rfl), by repeat (first | (with_reducible first | exact HB.out | apply below_alloc | apply pw_below_drewN | apply below_drew1) | exact HB.out)⟩
    · rw [if_neg c5] at H
      have c5b0 : decide (a2 < 0) = false := decide_eq_false c5
      clear c5
      by_cases c6 : a0 ≤ a1
      · rw [if_pos c6] at H
        have c6b0 : decide (a0 ≤ a1) = true := decide_eq_true c6
        clear c6
        obtain rfl := Option.some.inj H
        go_enter Try.func19, Try.ntmps19
        go_wp2
        go_ret
        exact ⟨by first | rfl | (simp [errW_none, errW_some] <;> rfl) | (simp [*, errW_none, errW_some] <;> rfl), by repeat (first | (with_reducible first | exact HB.out | apply below_alloc | apply pw_below_drewN | apply below_drew1) | exact HB.out)⟩
      · rw [if_neg c6] at H
        have c6b0 : decide (a0 ≤ a1) = false := decide_eq_false c6
        clear c6
        obtain ⟨ji7, hji7⟩ : ∃ j_ : Int, (mn a2 (wrap64 (a0 - a1))) = j_ := ⟨_, rfl⟩
        replace H : (some ji7) = some r := by first | (rw [hji7] at H; exact H) | (simp only [hji7] at H ⊢; exact H)
        have hji7_ : (if (wrap64 (a0 - a1)) < a2 then (wrap64 (a0 - a1)) else a2) = ji7 := hji7
        obtain rfl := Option.some.inj H
        go_enter Try.func19, Try.ntmps19
        go_wp2
        go_ret
        exact ⟨by first | rfl | (simp [errW_none, errW_some] <;> rfl) | (simp only [← hji7]; first | rfl | (simp [errW_none, errW_some] <;> rfl)) | (simp [*, errW_none, errW_some] <;> rfl), by repeat (first | (with_reducible first | exact HB.out | apply below_alloc | apply pw_below_drewN | apply below_drew1) | exact HB.out)⟩

/-! ### potsherdlaw16_awake: function 21 -/
def potsherdlaw16_awake.f (k : Nat)  : Option (Bool) := (span_Pieces.f k 14 4).bind fun t105 => (if (t105.length : Int) = 2 then (if 0 < (t105.length : Int) then (if (((rd_T25 t105 0).f0) == 0 && (((rd_T25 t105 0).f1) == 14 && (((rd_T25 t105 0).f2) == 2))) = true then (if 1 < (t105.length : Int) then (if (((rd_T25 t105 1).f0) == 1 && (((rd_T25 t105 1).f1) == 0 && (((rd_T25 t105 1).f2) == 2))) = true then ((span_Pages.f 17).bind fun t110 => (if t110 = 2 then ((span_Cut.f 5 3 9).bind fun t111 => (if t111 = 2 then ((span_Fits.f 80 0).bind fun t112 => (some t112)) else (some false))) else (some false))) else (some false)) else (none)) else (some false)) else (none)) else (some false))
theorem potsherdlaw16_awake.mono : ∀ k, LeO (potsherdlaw16_awake.f k ) (potsherdlaw16_awake.f (k + 1) ) := by
  intro  k
  unfold potsherdlaw16_awake.f
  repeat' first
      | (with_reducible exact span_Pieces.mono _ _ _)
      | (with_reducible exact LeO.refl _)
      | (with_reducible exact LeO.none _)
      | (with_reducible refine LeO.ite ?_ ?_)
      | (with_reducible refine LeO.bind ?_ (fun _ => ?_))
      | exact span_Pieces.mono _ _ _
      | exact LeO.none _
      | refine LeO.ite ?_ ?_
      | refine LeO.bind ?_ (fun _ => ?_)
set_option maxHeartbeats 8000000 in
set_option maxRecDepth 100000 in
theorem potsherdlaw16_awake.calls (k : Nat)  (r : Bool) (w : World) (h : potsherdlaw16_awake.f k  = some r) :
    Calls Try.prog 21 #[] w fun e w' => e = .returned (.bool r) ∧ Below w.heap.size w w' := by
  have hu25 := Try.underlying25
  have HB := Aside0.mk (Below.refl w.heap.size w)
  have H : ((span_Pieces.f k 14 4).bind fun t105 => (if (t105.length : Int) = 2 then (if 0 < (t105.length : Int) then (if (((rd_T25 t105 0).f0) == 0 && (((rd_T25 t105 0).f1) == 14 && (((rd_T25 t105 0).f2) == 2))) = true then (if 1 < (t105.length : Int) then (if (((rd_T25 t105 1).f0) == 1 && (((rd_T25 t105 1).f1) == 0 && (((rd_T25 t105 1).f2) == 2))) = true then ((span_Pages.f 17).bind fun t110 => (if t110 = 2 then ((span_Cut.f 5 3 9).bind fun t111 => (if t111 = 2 then ((span_Fits.f 80 0).bind fun t112 => (some t112)) else (some false))) else (some false))) else (some false)) else (none)) else (some false)) else (none)) else (some false))) = some r := h
  clear h
  replace H := Option.bind_eq_some_iff.mp H
  obtain ⟨t105, A10, H⟩ := H
  replace H : (if (t105.length : Int) = 2 then (if 0 < (t105.length : Int) then (if (((rd_T25 t105 0).f0) == 0 && (((rd_T25 t105 0).f1) == 14 && (((rd_T25 t105 0).f2) == 2))) = true then (if 1 < (t105.length : Int) then (if (((rd_T25 t105 1).f0) == 1 && (((rd_T25 t105 1).f1) == 0 && (((rd_T25 t105 1).f2) == 2))) = true then ((span_Pages.f 17).bind fun t110 => (if t110 = 2 then ((span_Cut.f 5 3 9).bind fun t111 => (if t111 = 2 then ((span_Fits.f 80 0).bind fun t112 => (some t112)) else (some false))) else (some false))) else (some false)) else (none)) else (some false)) else (none)) else (some false)) = some r := H
  have A1 := Aside0.mk A10
  clear A10
  by_cases c2 : (t105.length : Int) = 2
  · rw [if_pos c2] at H
    have c2b0 : ((t105.length : Int) == 2) = true := beq_iff_eq.mpr c2
    have c2b1 : ((t105.length : Int) != 2) = false := bne_eq_false_iff_eq.mpr c2
    clear c2
    by_cases c3 : 0 < (t105.length : Int)
    · rw [if_pos c3] at H
      have c3b0 : decide (0 < (t105.length : Int)) = true := decide_eq_true c3
      have c3b1 : decide (0 < t105.length) = true := decide_eq_true (by omega)
      clear c3
      by_cases c4 : (((rd_T25 t105 0).f0) == 0 && (((rd_T25 t105 0).f1) == 14 && (((rd_T25 t105 0).f2) == 2))) = true
      · rw [if_pos c4] at H
        have c4b0 : (((rd_T25 t105 0).f0) == 0 && (((rd_T25 t105 0).f1) == 14 && (((rd_T25 t105 0).f2) == 2))) = true := c4
        (try (have c4b1 : decide (((rd_T25 t105 0).f0) = 0 && (((rd_T25 t105 0).f1) == 14 && (((rd_T25 t105 0).f2) == 2))) = true := by simpa using c4))
        (try (have c4b2 : (((rd_T25 t105 0).f0) == 0 && (((rd_T25 t105 0).f1) == 14 && (((rd_T25 t105 0).f2) == 2))) = true := by simpa using c4))
        clear c4
        by_cases c5 : 1 < (t105.length : Int)
        · rw [if_pos c5] at H
          have c5b0 : decide (1 < (t105.length : Int)) = true := decide_eq_true c5
          have c5b1 : decide (1 < t105.length) = true := decide_eq_true (by omega)
          clear c5
          by_cases c6 : (((rd_T25 t105 1).f0) == 1 && (((rd_T25 t105 1).f1) == 0 && (((rd_T25 t105 1).f2) == 2))) = true
          · rw [if_pos c6] at H
            have c6b0 : (((rd_T25 t105 1).f0) == 1 && (((rd_T25 t105 1).f1) == 0 && (((rd_T25 t105 1).f2) == 2))) = true := c6
            (try (have c6b1 : decide (((rd_T25 t105 1).f0) = 1 && (((rd_T25 t105 1).f1) == 0 && (((rd_T25 t105 1).f2) == 2))) = true := by simpa using c6))
            (try (have c6b2 : (((rd_T25 t105 1).f0) == 1 && (((rd_T25 t105 1).f1) == 0 && (((rd_T25 t105 1).f2) == 2))) = true := by simpa using c6))
            clear c6
            replace H := Option.bind_eq_some_iff.mp H
            obtain ⟨t110, A70, H⟩ := H
            replace H : (if t110 = 2 then ((span_Cut.f 5 3 9).bind fun t111 => (if t111 = 2 then ((span_Fits.f 80 0).bind fun t112 => (some t112)) else (some false))) else (some false)) = some r := H
            have A7 := Aside0.mk A70
            clear A70
            by_cases c8 : t110 = 2
            · rw [if_pos c8] at H
              have c8b0 : (t110 == 2) = true := beq_iff_eq.mpr c8
              have c8b1 : (t110 != 2) = false := bne_eq_false_iff_eq.mpr c8
              clear c8
              replace H := Option.bind_eq_some_iff.mp H
              obtain ⟨t111, A90, H⟩ := H
              replace H : (if t111 = 2 then ((span_Fits.f 80 0).bind fun t112 => (some t112)) else (some false)) = some r := H
              have A9 := Aside0.mk A90
              clear A90
              by_cases c10 : t111 = 2
              · rw [if_pos c10] at H
                have c10b0 : (t111 == 2) = true := beq_iff_eq.mpr c10
                have c10b1 : (t111 != 2) = false := bne_eq_false_iff_eq.mpr c10
                clear c10
                replace H := Option.bind_eq_some_iff.mp H
                obtain ⟨t112, A110, H⟩ := H
                replace H : (some t112) = some r := H
                have A11 := Aside0.mk A110
                clear A110
                obtain rfl := Option.some.inj H
                go_enter Try.func21, Try.ntmps21
                go_wp2_with (first | ((with_reducible refine gate_callee (f := 13) rfl ?_); refine goesL_ (some 2) rfl rfl Try.func13 (by kernel_rfl) rfl #[.int .i64 14, .int .i64 4] rfl (by (try simp only [List.map_toArray, List.map_cons, List.map_nil]); first | done | rfl | (simp only [List.length_drop, List.length_take]; rfl)) ?_; (with_reducible refine (span_Pieces.calls k 14 4 t105 _ A1.out).mono ?_); rintro e w12 ⟨v106, rfl, ho0, hb⟩; refine ⟨_, rfl, ?_⟩; have n0_ := Aside0.mk (Kd.R_lower ho0 (below_size (by repeat (first | (with_reducible first | exact HB.out | apply below_alloc | apply pw_below_drewN | apply below_drew1) | exact HB.out)))); have n1_ := Aside0.mk (below_step (by repeat (first | (with_reducible first | exact HB.out | apply below_alloc | apply pw_below_drewN | apply below_drew1) | exact HB.out)) hb); clear HB; have HO107 := n0_; have HB := n1_; clear n0_ n1_; (try clear hb); (try clear hb2); (try clear hk); (try clear hi); (try clear ho0); obtain ⟨Ao13, co13, eo13⟩ := Kd.R_slice HO107.out; subst eo13; have p108 : 0 ≤ (0 : Int) := (by omega); have q108 : 0 < (t105.length : Int) := of_decide_eq_true (by first | (with_reducible assumption) | assumption); obtain ⟨ad108, e108, hx108_0, hx108_1, hx108_2⟩ := at_T25 (Kd.R_reads' HO107.out).2.2 0 p108 q108; cases e108; have qi108 : (0 < t105.length) = True := eq_true (by omega); (try rw [show ((0 : Int)).toNat = 0 from rfl] at hx108_0); (try rw [show 0 * 3 = 0 from rfl] at hx108_0); (try rw [Addr.add_zero'] at hx108_0); (try rw [show ((0 : Int)).toNat = 0 from rfl] at hx108_1); (try rw [show 0 * 3 = 0 from rfl] at hx108_1); (try rw [Addr.add_zero'] at hx108_1); (try rw [show ((0 : Int)).toNat = 0 from rfl] at hx108_2); (try rw [show 0 * 3 = 0 from rfl] at hx108_2); (try rw [Addr.add_zero'] at hx108_2); replace p108 := eq_true p108; replace q108 := eq_true q108; have p109 : 0 ≤ (1 : Int) := (by omega); have q109 : 1 < (t105.length : Int) := of_decide_eq_true (by first | (with_reducible assumption) | assumption); obtain ⟨ad109, e109, hx109_0, hx109_1, hx109_2⟩ := at_T25 (Kd.R_reads' HO107.out).2.2 1 p109 q109; obtain rfl : ad108 = ad109 := (by injection e109); (try simp only [show (1 : Int).toNat = 1 from rfl, Nat.reduceMul, Nat.reduceEqDiff, Go.Addr.add, ↓reduceIte] at hx109_0); (try simp only [show (1 : Int).toNat = 1 from rfl, Nat.reduceMul, Nat.reduceEqDiff, Go.Addr.add, ↓reduceIte] at hx109_1); (try simp only [show (1 : Int).toNat = 1 from rfl, Nat.reduceMul, Nat.reduceEqDiff, Go.Addr.add, ↓reduceIte] at hx109_2); have qi109 : (1 < t105.length) = True := eq_true (by omega); (try rw [show ((1 : Int)).toNat = 1 from rfl] at hx109_0); (try rw [show 1 * 3 = 3 from rfl] at hx109_0); (try rw [show ((1 : Int)).toNat = 1 from rfl] at hx109_1); (try rw [show 1 * 3 = 3 from rfl] at hx109_1); (try rw [show ((1 : Int)).toNat = 1 from rfl] at hx109_2); (try rw [show 1 * 3 = 3 from rfl] at hx109_2); replace p109 := eq_true p109; replace q109 := eq_true q109) | (go_at_call 15; (with_reducible refine (span_Pages.calls 17 t110 _ A7.out).mono ?_); rintro e w14 ⟨rfl, hb⟩; have n0_ := Aside0.mk (Kd.R_below (by (with_reducible repeat (first | apply Kd.R_alloc | apply Kd.R_drewN | apply Kd.R_drew)); exact HO107.out) hb); have n1_ := Aside0.mk (below_step (by repeat (first | (with_reducible first | exact HB.out | apply below_alloc | apply pw_below_drewN | apply below_drew1) | exact HB.out)) hb); clear HO107; clear HB; have HO107 := n0_; have HB := n1_; clear n0_ n1_; (try clear hb); (try clear hb2); (try clear hk); (try clear hi)) | (go_at_call 19; (with_reducible refine (span_Cut.calls 5 3 9 t111 _ A9.out).mono ?_); rintro e w15 ⟨rfl, hb⟩; have n0_ := Aside0.mk (Kd.R_below (by (with_reducible repeat (first | apply Kd.R_alloc | apply Kd.R_drewN | apply Kd.R_drew)); exact HO107.out) hb); have n1_ := Aside0.mk (below_step (by repeat (first | (with_reducible first | exact HB.out | apply below_alloc | apply pw_below_drewN | apply below_drew1) | exact HB.out)) hb); clear HO107; clear HB; have HO107 := n0_; have HB := n1_; clear n0_ n1_; (try clear hb); (try clear hb2); (try clear hk); (try clear hi)) | (go_at_call 17; (with_reducible refine (span_Fits.calls 80 0 t112 _ A11.out).mono ?_); rintro e w' ⟨rfl, ⟨nd, rfl⟩⟩))
                go_ret
                exact ⟨by first | rfl | (simp [errW_none, errW_some] <;> rfl) | (simp [*, errW_none, errW_some] <;> rfl), by repeat (first | (with_reducible first | exact HB.out | apply below_alloc | apply pw_below_drewN | apply below_drew1) | exact HB.out)⟩
              · rw [if_neg c10] at H
                have c10b0 : (t111 == 2) = false := beq_eq_false_iff_ne.mpr c10
                have c10b1 : (t111 != 2) = true := bne_iff_ne.mpr c10
                obtain rfl := Option.some.inj H
                go_enter Try.func21, Try.ntmps21
                go_wp2_with (first | ((with_reducible refine gate_callee (f := 13) rfl ?_); refine goesL_ (some 2) rfl rfl Try.func13 (by kernel_rfl) rfl #[.int .i64 14, .int .i64 4] rfl (by (try simp only [List.map_toArray, List.map_cons, List.map_nil]); first | done | rfl | (simp only [List.length_drop, List.length_take]; rfl)) ?_; (with_reducible refine (span_Pieces.calls k 14 4 t105 _ A1.out).mono ?_); rintro e w16 ⟨v106, rfl, ho0, hb⟩; refine ⟨_, rfl, ?_⟩; have n0_ := Aside0.mk (Kd.R_lower ho0 (below_size (by repeat (first | (with_reducible first | exact HB.out | apply below_alloc | apply pw_below_drewN | apply below_drew1) | exact HB.out)))); have n1_ := Aside0.mk (below_step (by repeat (first | (with_reducible first | exact HB.out | apply below_alloc | apply pw_below_drewN | apply below_drew1) | exact HB.out)) hb); clear HB; have HO107 := n0_; have HB := n1_; clear n0_ n1_; (try clear hb); (try clear hb2); (try clear hk); (try clear hi); (try clear ho0); obtain ⟨Ao17, co17, eo17⟩ := Kd.R_slice HO107.out; subst eo17; have p108 : 0 ≤ (0 : Int) := (by omega); have q108 : 0 < (t105.length : Int) := of_decide_eq_true (by first | (with_reducible assumption) | assumption); obtain ⟨ad108, e108, hx108_0, hx108_1, hx108_2⟩ := at_T25 (Kd.R_reads' HO107.out).2.2 0 p108 q108; cases e108; have qi108 : (0 < t105.length) = True := eq_true (by omega); (try rw [show ((0 : Int)).toNat = 0 from rfl] at hx108_0); (try rw [show 0 * 3 = 0 from rfl] at hx108_0); (try rw [Addr.add_zero'] at hx108_0); (try rw [show ((0 : Int)).toNat = 0 from rfl] at hx108_1); (try rw [show 0 * 3 = 0 from rfl] at hx108_1); (try rw [Addr.add_zero'] at hx108_1); (try rw [show ((0 : Int)).toNat = 0 from rfl] at hx108_2); (try rw [show 0 * 3 = 0 from rfl] at hx108_2); (try rw [Addr.add_zero'] at hx108_2); replace p108 := eq_true p108; replace q108 := eq_true q108; have p109 : 0 ≤ (1 : Int) := (by omega); have q109 : 1 < (t105.length : Int) := of_decide_eq_true (by first | (with_reducible assumption) | assumption); obtain ⟨ad109, e109, hx109_0, hx109_1, hx109_2⟩ := at_T25 (Kd.R_reads' HO107.out).2.2 1 p109 q109; obtain rfl : ad108 = ad109 := (by injection e109); (try simp only [show (1 : Int).toNat = 1 from rfl, Nat.reduceMul, Nat.reduceEqDiff, Go.Addr.add, ↓reduceIte] at hx109_0); (try simp only [show (1 : Int).toNat = 1 from rfl, Nat.reduceMul, Nat.reduceEqDiff, Go.Addr.add, ↓reduceIte] at hx109_1); (try simp only [show (1 : Int).toNat = 1 from rfl, Nat.reduceMul, Nat.reduceEqDiff, Go.Addr.add, ↓reduceIte] at hx109_2); have qi109 : (1 < t105.length) = True := eq_true (by omega); (try rw [show ((1 : Int)).toNat = 1 from rfl] at hx109_0); (try rw [show 1 * 3 = 3 from rfl] at hx109_0); (try rw [show ((1 : Int)).toNat = 1 from rfl] at hx109_1); (try rw [show 1 * 3 = 3 from rfl] at hx109_1); (try rw [show ((1 : Int)).toNat = 1 from rfl] at hx109_2); (try rw [show 1 * 3 = 3 from rfl] at hx109_2); replace p109 := eq_true p109; replace q109 := eq_true q109) | (go_at_call 15; (with_reducible refine (span_Pages.calls 17 t110 _ A7.out).mono ?_); rintro e w18 ⟨rfl, hb⟩; have n0_ := Aside0.mk (Kd.R_below (by (with_reducible repeat (first | apply Kd.R_alloc | apply Kd.R_drewN | apply Kd.R_drew)); exact HO107.out) hb); have n1_ := Aside0.mk (below_step (by repeat (first | (with_reducible first | exact HB.out | apply below_alloc | apply pw_below_drewN | apply below_drew1) | exact HB.out)) hb); clear HO107; clear HB; have HO107 := n0_; have HB := n1_; clear n0_ n1_; (try clear hb); (try clear hb2); (try clear hk); (try clear hi)) | (go_at_call 19; (with_reducible refine (span_Cut.calls 5 3 9 t111 _ A9.out).mono ?_); rintro e w19 ⟨rfl, hb⟩; have n0_ := Aside0.mk (Kd.R_below (by (with_reducible repeat (first | apply Kd.R_alloc | apply Kd.R_drewN | apply Kd.R_drew)); exact HO107.out) hb); have n1_ := Aside0.mk (below_step (by repeat (first | (with_reducible first | exact HB.out | apply below_alloc | apply pw_below_drewN | apply below_drew1) | exact HB.out)) hb); clear HO107; clear HB; have HO107 := n0_; have HB := n1_; clear n0_ n1_; (try clear hb); (try clear hb2); (try clear hk); (try clear hi)))
                go_ret
                exact ⟨by first | rfl | (simp [errW_none, errW_some] <;> rfl) | (simp [*, errW_none, errW_some] <;> rfl), by repeat (first | (with_reducible first | exact HB.out | apply below_alloc | apply pw_below_drewN | apply below_drew1) | exact HB.out)⟩
            · rw [if_neg c8] at H
              have c8b0 : (t110 == 2) = false := beq_eq_false_iff_ne.mpr c8
              have c8b1 : (t110 != 2) = true := bne_iff_ne.mpr c8
              obtain rfl := Option.some.inj H
              go_enter Try.func21, Try.ntmps21
              go_wp2_with (first | ((with_reducible refine gate_callee (f := 13) rfl ?_); refine goesL_ (some 2) rfl rfl Try.func13 (by kernel_rfl) rfl #[.int .i64 14, .int .i64 4] rfl (by (try simp only [List.map_toArray, List.map_cons, List.map_nil]); first | done | rfl | (simp only [List.length_drop, List.length_take]; rfl)) ?_; (with_reducible refine (span_Pieces.calls k 14 4 t105 _ A1.out).mono ?_); rintro e w20 ⟨v106, rfl, ho0, hb⟩; refine ⟨_, rfl, ?_⟩; have n0_ := Aside0.mk (Kd.R_lower ho0 (below_size (by repeat (first | (with_reducible first | exact HB.out | apply below_alloc | apply pw_below_drewN | apply below_drew1) | exact HB.out)))); have n1_ := Aside0.mk (below_step (by repeat (first | (with_reducible first | exact HB.out | apply below_alloc | apply pw_below_drewN | apply below_drew1) | exact HB.out)) hb); clear HB; have HO107 := n0_; have HB := n1_; clear n0_ n1_; (try clear hb); (try clear hb2); (try clear hk); (try clear hi); (try clear ho0); obtain ⟨Ao21, co21, eo21⟩ := Kd.R_slice HO107.out; subst eo21; have p108 : 0 ≤ (0 : Int) := (by omega); have q108 : 0 < (t105.length : Int) := of_decide_eq_true (by first | (with_reducible assumption) | assumption); obtain ⟨ad108, e108, hx108_0, hx108_1, hx108_2⟩ := at_T25 (Kd.R_reads' HO107.out).2.2 0 p108 q108; cases e108; have qi108 : (0 < t105.length) = True := eq_true (by omega); (try rw [show ((0 : Int)).toNat = 0 from rfl] at hx108_0); (try rw [show 0 * 3 = 0 from rfl] at hx108_0); (try rw [Addr.add_zero'] at hx108_0); (try rw [show ((0 : Int)).toNat = 0 from rfl] at hx108_1); (try rw [show 0 * 3 = 0 from rfl] at hx108_1); (try rw [Addr.add_zero'] at hx108_1); (try rw [show ((0 : Int)).toNat = 0 from rfl] at hx108_2); (try rw [show 0 * 3 = 0 from rfl] at hx108_2); (try rw [Addr.add_zero'] at hx108_2); replace p108 := eq_true p108; replace q108 := eq_true q108; have p109 : 0 ≤ (1 : Int) := (by omega); have q109 : 1 < (t105.length : Int) := of_decide_eq_true (by first | (with_reducible assumption) | assumption); obtain ⟨ad109, e109, hx109_0, hx109_1, hx109_2⟩ := at_T25 (Kd.R_reads' HO107.out).2.2 1 p109 q109; obtain rfl : ad108 = ad109 := (by injection e109); (try simp only [show (1 : Int).toNat = 1 from rfl, Nat.reduceMul, Nat.reduceEqDiff, Go.Addr.add, ↓reduceIte] at hx109_0); (try simp only [show (1 : Int).toNat = 1 from rfl, Nat.reduceMul, Nat.reduceEqDiff, Go.Addr.add, ↓reduceIte] at hx109_1); (try simp only [show (1 : Int).toNat = 1 from rfl, Nat.reduceMul, Nat.reduceEqDiff, Go.Addr.add, ↓reduceIte] at hx109_2); have qi109 : (1 < t105.length) = True := eq_true (by omega); (try rw [show ((1 : Int)).toNat = 1 from rfl] at hx109_0); (try rw [show 1 * 3 = 3 from rfl] at hx109_0); (try rw [show ((1 : Int)).toNat = 1 from rfl] at hx109_1); (try rw [show 1 * 3 = 3 from rfl] at hx109_1); (try rw [show ((1 : Int)).toNat = 1 from rfl] at hx109_2); (try rw [show 1 * 3 = 3 from rfl] at hx109_2); replace p109 := eq_true p109; replace q109 := eq_true q109) | (go_at_call 15; (with_reducible refine (span_Pages.calls 17 t110 _ A7.out).mono ?_); rintro e w22 ⟨rfl, hb⟩; have n0_ := Aside0.mk (Kd.R_below (by (with_reducible repeat (first | apply Kd.R_alloc | apply Kd.R_drewN | apply Kd.R_drew)); exact HO107.out) hb); have n1_ := Aside0.mk (below_step (by repeat (first | (with_reducible first | exact HB.out | apply below_alloc | apply pw_below_drewN | apply below_drew1) | exact HB.out)) hb); clear HO107; clear HB; have HO107 := n0_; have HB := n1_; clear n0_ n1_; (try clear hb); (try clear hb2); (try clear hk); (try clear hi)))
              go_ret
              exact ⟨by first | rfl | (simp [errW_none, errW_some] <;> rfl) | (simp [*, errW_none, errW_some] <;> rfl), by repeat (first | (with_reducible first | exact HB.out | apply below_alloc | apply pw_below_drewN | apply below_drew1) | exact HB.out)⟩
          · rw [if_neg c6] at H
            have c6b0 : (((rd_T25 t105 1).f0) == 1 && (((rd_T25 t105 1).f1) == 0 && (((rd_T25 t105 1).f2) == 2))) = false := by simpa using c6
            (try (have c6b1 : decide (((rd_T25 t105 1).f0) = 1 && (((rd_T25 t105 1).f1) == 0 && (((rd_T25 t105 1).f2) == 2))) = false := by simpa using c6))
            (try (have c6b2 : (((rd_T25 t105 1).f0) == 1 && (((rd_T25 t105 1).f1) == 0 && (((rd_T25 t105 1).f2) == 2))) = false := by simpa using c6))
            (try (have c6b3 : ¬ (((rd_T25 t105 1).f0) = 1 && (((rd_T25 t105 1).f1) == 0 && (((rd_T25 t105 1).f2) == 2))) := by simpa using c6))
            clear c6
            obtain rfl := Option.some.inj H
            go_enter Try.func21, Try.ntmps21
            go_wp2_with (first | ((with_reducible refine gate_callee (f := 13) rfl ?_); refine goesL_ (some 2) rfl rfl Try.func13 (by kernel_rfl) rfl #[.int .i64 14, .int .i64 4] rfl (by (try simp only [List.map_toArray, List.map_cons, List.map_nil]); first | done | rfl | (simp only [List.length_drop, List.length_take]; rfl)) ?_; (with_reducible refine (span_Pieces.calls k 14 4 t105 _ A1.out).mono ?_); rintro e w23 ⟨v106, rfl, ho0, hb⟩; refine ⟨_, rfl, ?_⟩; have n0_ := Aside0.mk (Kd.R_lower ho0 (below_size (by repeat (first | (with_reducible first | exact HB.out | apply below_alloc | apply pw_below_drewN | apply below_drew1) | exact HB.out)))); have n1_ := Aside0.mk (below_step (by repeat (first | (with_reducible first | exact HB.out | apply below_alloc | apply pw_below_drewN | apply below_drew1) | exact HB.out)) hb); clear HB; have HO107 := n0_; have HB := n1_; clear n0_ n1_; (try clear hb); (try clear hb2); (try clear hk); (try clear hi); (try clear ho0); obtain ⟨Ao24, co24, eo24⟩ := Kd.R_slice HO107.out; subst eo24; have p108 : 0 ≤ (0 : Int) := (by omega); have q108 : 0 < (t105.length : Int) := of_decide_eq_true (by first | (with_reducible assumption) | assumption); obtain ⟨ad108, e108, hx108_0, hx108_1, hx108_2⟩ := at_T25 (Kd.R_reads' HO107.out).2.2 0 p108 q108; cases e108; have qi108 : (0 < t105.length) = True := eq_true (by omega); (try rw [show ((0 : Int)).toNat = 0 from rfl] at hx108_0); (try rw [show 0 * 3 = 0 from rfl] at hx108_0); (try rw [Addr.add_zero'] at hx108_0); (try rw [show ((0 : Int)).toNat = 0 from rfl] at hx108_1); (try rw [show 0 * 3 = 0 from rfl] at hx108_1); (try rw [Addr.add_zero'] at hx108_1); (try rw [show ((0 : Int)).toNat = 0 from rfl] at hx108_2); (try rw [show 0 * 3 = 0 from rfl] at hx108_2); (try rw [Addr.add_zero'] at hx108_2); replace p108 := eq_true p108; replace q108 := eq_true q108; have p109 : 0 ≤ (1 : Int) := (by omega); have q109 : 1 < (t105.length : Int) := of_decide_eq_true (by first | (with_reducible assumption) | assumption); obtain ⟨ad109, e109, hx109_0, hx109_1, hx109_2⟩ := at_T25 (Kd.R_reads' HO107.out).2.2 1 p109 q109; obtain rfl : ad108 = ad109 := (by injection e109); (try simp only [show (1 : Int).toNat = 1 from rfl, Nat.reduceMul, Nat.reduceEqDiff, Go.Addr.add, ↓reduceIte] at hx109_0); (try simp only [show (1 : Int).toNat = 1 from rfl, Nat.reduceMul, Nat.reduceEqDiff, Go.Addr.add, ↓reduceIte] at hx109_1); (try simp only [show (1 : Int).toNat = 1 from rfl, Nat.reduceMul, Nat.reduceEqDiff, Go.Addr.add, ↓reduceIte] at hx109_2); have qi109 : (1 < t105.length) = True := eq_true (by omega); (try rw [show ((1 : Int)).toNat = 1 from rfl] at hx109_0); (try rw [show 1 * 3 = 3 from rfl] at hx109_0); (try rw [show ((1 : Int)).toNat = 1 from rfl] at hx109_1); (try rw [show 1 * 3 = 3 from rfl] at hx109_1); (try rw [show ((1 : Int)).toNat = 1 from rfl] at hx109_2); (try rw [show 1 * 3 = 3 from rfl] at hx109_2); replace p109 := eq_true p109; replace q109 := eq_true q109))
            go_ret
            exact ⟨by first | rfl | (simp [errW_none, errW_some] <;> rfl) | (simp [*, errW_none, errW_some] <;> rfl), by repeat (first | (with_reducible first | exact HB.out | apply below_alloc | apply pw_below_drewN | apply below_drew1) | exact HB.out)⟩
        · rw [if_neg c5] at H
          exact absurd H (by simp)
      · rw [if_neg c4] at H
        have c4b0 : (((rd_T25 t105 0).f0) == 0 && (((rd_T25 t105 0).f1) == 14 && (((rd_T25 t105 0).f2) == 2))) = false := by simpa using c4
        (try (have c4b1 : decide (((rd_T25 t105 0).f0) = 0 && (((rd_T25 t105 0).f1) == 14 && (((rd_T25 t105 0).f2) == 2))) = false := by simpa using c4))
        (try (have c4b2 : (((rd_T25 t105 0).f0) == 0 && (((rd_T25 t105 0).f1) == 14 && (((rd_T25 t105 0).f2) == 2))) = false := by simpa using c4))
        (try (have c4b3 : ¬ (((rd_T25 t105 0).f0) = 0 && (((rd_T25 t105 0).f1) == 14 && (((rd_T25 t105 0).f2) == 2))) := by simpa using c4))
        clear c4
        obtain rfl := Option.some.inj H
        go_enter Try.func21, Try.ntmps21
        go_wp2_with (first | ((with_reducible refine gate_callee (f := 13) rfl ?_); refine goesL_ (some 2) rfl rfl Try.func13 (by kernel_rfl) rfl #[.int .i64 14, .int .i64 4] rfl (by (try simp only [List.map_toArray, List.map_cons, List.map_nil]); first | done | rfl | (simp only [List.length_drop, List.length_take]; rfl)) ?_; (with_reducible refine (span_Pieces.calls k 14 4 t105 _ A1.out).mono ?_); rintro e w25 ⟨v106, rfl, ho0, hb⟩; refine ⟨_, rfl, ?_⟩; have n0_ := Aside0.mk (Kd.R_lower ho0 (below_size (by repeat (first | (with_reducible first | exact HB.out | apply below_alloc | apply pw_below_drewN | apply below_drew1) | exact HB.out)))); have n1_ := Aside0.mk (below_step (by repeat (first | (with_reducible first | exact HB.out | apply below_alloc | apply pw_below_drewN | apply below_drew1) | exact HB.out)) hb); clear HB; have HO107 := n0_; have HB := n1_; clear n0_ n1_; (try clear hb); (try clear hb2); (try clear hk); (try clear hi); (try clear ho0); obtain ⟨Ao26, co26, eo26⟩ := Kd.R_slice HO107.out; subst eo26; have p108 : 0 ≤ (0 : Int) := (by omega); have q108 : 0 < (t105.length : Int) := of_decide_eq_true (by first | (with_reducible assumption) | assumption); obtain ⟨ad108, e108, hx108_0, hx108_1, hx108_2⟩ := at_T25 (Kd.R_reads' HO107.out).2.2 0 p108 q108; cases e108; have qi108 : (0 < t105.length) = True := eq_true (by omega); (try rw [show ((0 : Int)).toNat = 0 from rfl] at hx108_0); (try rw [show 0 * 3 = 0 from rfl] at hx108_0); (try rw [Addr.add_zero'] at hx108_0); (try rw [show ((0 : Int)).toNat = 0 from rfl] at hx108_1); (try rw [show 0 * 3 = 0 from rfl] at hx108_1); (try rw [Addr.add_zero'] at hx108_1); (try rw [show ((0 : Int)).toNat = 0 from rfl] at hx108_2); (try rw [show 0 * 3 = 0 from rfl] at hx108_2); (try rw [Addr.add_zero'] at hx108_2); replace p108 := eq_true p108; replace q108 := eq_true q108))
        go_ret
        exact ⟨by first | rfl | (simp [errW_none, errW_some] <;> rfl) | (simp [*, errW_none, errW_some] <;> rfl), by repeat (first | (with_reducible first | exact HB.out | apply below_alloc | apply pw_below_drewN | apply below_drew1) | exact HB.out)⟩
    · rw [if_neg c3] at H
      exact absurd H (by simp)
  · rw [if_neg c2] at H
    have c2b0 : ((t105.length : Int) == 2) = false := beq_eq_false_iff_ne.mpr c2
    have c2b1 : ((t105.length : Int) != 2) = true := bne_iff_ne.mpr c2
    obtain rfl := Option.some.inj H
    go_enter Try.func21, Try.ntmps21
    go_wp2_with (first | ((with_reducible refine gate_callee (f := 13) rfl ?_); refine goesL_ (some 2) rfl rfl Try.func13 (by kernel_rfl) rfl #[.int .i64 14, .int .i64 4] rfl (by (try simp only [List.map_toArray, List.map_cons, List.map_nil]); first | done | rfl | (simp only [List.length_drop, List.length_take]; rfl)) ?_; (with_reducible refine (span_Pieces.calls k 14 4 t105 _ A1.out).mono ?_); rintro e w27 ⟨v106, rfl, ho0, hb⟩; refine ⟨_, rfl, ?_⟩; have n0_ := Aside0.mk (Kd.R_lower ho0 (below_size (by repeat (first | (with_reducible first | exact HB.out | apply below_alloc | apply pw_below_drewN | apply below_drew1) | exact HB.out)))); have n1_ := Aside0.mk (below_step (by repeat (first | (with_reducible first | exact HB.out | apply below_alloc | apply pw_below_drewN | apply below_drew1) | exact HB.out)) hb); clear HB; have HO107 := n0_; have HB := n1_; clear n0_ n1_; (try clear hb); (try clear hb2); (try clear hk); (try clear hi); (try clear ho0); obtain ⟨Ao28, co28, eo28⟩ := Kd.R_slice HO107.out; subst eo28))
    go_ret
    exact ⟨by first | rfl | (simp [errW_none, errW_some] <;> rfl) | (simp [*, errW_none, errW_some] <;> rfl), by repeat (first | (with_reducible first | exact HB.out | apply below_alloc | apply pw_below_drewN | apply below_drew1) | exact HB.out)⟩

/-! ### potsherdlaw16_SpanAll: function 6 -/
mutual
def potsherdlaw16_SpanAll.j0 : Nat → Int → List (S25) → Bool → Option (Bool)
  | 0, _, _, _ => none
  | k + 1, x1, x5, x25 => if x25 = true then (some false) else (potsherdlaw16_SpanAll.l0 k x1 x5 (x5.length : Int) 0)
def potsherdlaw16_SpanAll.l0 : Nat → Int → List (S25) → Int → Int → Option (Bool)
  | 0, _, _, _, _ => none
  | k + 1, x1, x26, x27, x28 => if x28 < x27 then (if 0 ≤ x28 then (if x28 < (x26.length : Int) then (if (!(((rd_T25 x26 x28).f0) == x28) || (!(((rd_T25 x26 x28).f1) == 0) || (!(((rd_T25 x26 x28).f2) == 16)))) = true then (some false) else (potsherdlaw16_SpanAll.l0 k x1 x26 x27 (wrap64 (x28 + 1)))) else (none)) else (none)) else ((span_Fits.f (wrap64 (Int.tmod (IntKind.u64.wrap (x1)) 81)) (wrap64 (80 - (wrap64 (Int.tmod (IntKind.u64.wrap (x1)) 81))))).bind fun t119 => (if t119 = true then ((span_Fits.f (wrap64 (Int.tmod (IntKind.u64.wrap (x1)) 81)) (wrap64 ((wrap64 (80 - (wrap64 (Int.tmod (IntKind.u64.wrap (x1)) 81)))) + 1))).bind fun t120 => (if t120 = true then (some false) else ((span_Pieces.f k (wrap64 (Int.tmod (IntKind.u64.wrap (x1)) 81)) 0).bind fun t121 => (if (t121.length : Int) = 0 then ((potsherdlaw16_awake.f k).bind fun t124 => (some t124)) else (some false))))) else (some false)))
end
def potsherdlaw16_SpanAll.f (k : Nat) (a0 : Int) (a1 : Int) : Option (Bool) := (span_Pieces.f k 0 (wrap64 ((wrap64 (Int.tmod (IntKind.u64.wrap (a0)) 6)) * 16))).bind fun t113 => (if (t113.length : Int) = (wrap64 (Int.tmod (IntKind.u64.wrap (a0)) 6)) then ((span_Pages.f (wrap64 ((wrap64 (Int.tmod (IntKind.u64.wrap (a0)) 6)) * 16))).bind fun t116 => (potsherdlaw16_SpanAll.j0 k a1 t113 (t116 != (wrap64 (Int.tmod (IntKind.u64.wrap (a0)) 6))))) else (potsherdlaw16_SpanAll.j0 k a1 t113 true))
theorem potsherdlaw16_SpanAll.mono_l : ∀ k, (∀ y0 y1 y2, LeO (potsherdlaw16_SpanAll.j0 k y0 y1 y2) (potsherdlaw16_SpanAll.j0 (k + 1) y0 y1 y2)) ∧ (∀ y0 y1 y2 y3, LeO (potsherdlaw16_SpanAll.l0 k y0 y1 y2 y3) (potsherdlaw16_SpanAll.l0 (k + 1) y0 y1 y2 y3))
  | 0 => ⟨fun _ _ _ r h => by simp [potsherdlaw16_SpanAll.j0] at h, fun _ _ _ _ r h => by simp [potsherdlaw16_SpanAll.l0] at h⟩
  | k + 1 => by
    obtain ⟨ih0, ih1⟩ := potsherdlaw16_SpanAll.mono_l k
    refine ⟨?_, ?_⟩
    · intro y0 y1 y2
      unfold potsherdlaw16_SpanAll.j0
      repeat' first
      | (with_reducible exact ih0 _ _ _)
      | (with_reducible exact ih1 _ _ _ _)
      | (with_reducible exact potsherdlaw16_awake.mono _)
      | (with_reducible exact span_Pieces.mono _ _ _)
      | (with_reducible exact LeO.refl _)
      | (with_reducible exact LeO.none _)
      | (with_reducible refine LeO.ite ?_ ?_)
      | (with_reducible refine LeO.bind ?_ (fun _ => ?_))
      | exact ih0 _ _ _
      | exact ih1 _ _ _ _
      | exact potsherdlaw16_awake.mono _
      | exact span_Pieces.mono _ _ _
      | exact LeO.none _
      | refine LeO.ite ?_ ?_
      | refine LeO.bind ?_ (fun _ => ?_)
    · intro y0 y1 y2 y3
      unfold potsherdlaw16_SpanAll.l0
      repeat' first
      | (with_reducible exact ih0 _ _ _)
      | (with_reducible exact ih1 _ _ _ _)
      | (with_reducible exact potsherdlaw16_awake.mono _)
      | (with_reducible exact span_Pieces.mono _ _ _)
      | (with_reducible exact LeO.refl _)
      | (with_reducible exact LeO.none _)
      | (with_reducible refine LeO.ite ?_ ?_)
      | (with_reducible refine LeO.bind ?_ (fun _ => ?_))
      | exact ih0 _ _ _
      | exact ih1 _ _ _ _
      | exact potsherdlaw16_awake.mono _
      | exact span_Pieces.mono _ _ _
      | exact LeO.none _
      | refine LeO.ite ?_ ?_
      | refine LeO.bind ?_ (fun _ => ?_)
theorem potsherdlaw16_SpanAll.mono : ∀ a0 a1 k, LeO (potsherdlaw16_SpanAll.f k a0 a1) (potsherdlaw16_SpanAll.f (k + 1) a0 a1) := by
  intro a0 a1 k
  obtain ⟨ih0, ih1⟩ := potsherdlaw16_SpanAll.mono_l k
  unfold potsherdlaw16_SpanAll.f
  repeat' first
      | (with_reducible exact ih0 _ _ _)
      | (with_reducible exact ih1 _ _ _ _)
      | (with_reducible exact potsherdlaw16_awake.mono _)
      | (with_reducible exact span_Pieces.mono _ _ _)
      | (with_reducible exact LeO.refl _)
      | (with_reducible exact LeO.none _)
      | (with_reducible refine LeO.ite ?_ ?_)
      | (with_reducible refine LeO.bind ?_ (fun _ => ?_))
      | exact ih0 _ _ _
      | exact ih1 _ _ _ _
      | exact potsherdlaw16_awake.mono _
      | exact span_Pieces.mono _ _ _
      | exact LeO.none _
      | refine LeO.ite ?_ ?_
      | refine LeO.bind ?_ (fun _ => ?_)
set_option maxHeartbeats 8000000 in
set_option maxRecDepth 100000 in
theorem potsherdlaw16_SpanAll.calls (k : Nat) (a0 : Int) (a1 : Int) (r : Bool) (w : World) (h : potsherdlaw16_SpanAll.f k a0 a1 = some r) :
    Calls Try.prog 6 #[.int .i64 a0, .int .i64 a1] w fun e w' => e = .returned (.bool r) ∧ Below w.heap.size w w' := by
  have hu25 := Try.underlying25
  have HB := Aside0.mk (Below.refl w.heap.size w)
  have H : ((span_Pieces.f k 0 (wrap64 ((wrap64 (Int.tmod (IntKind.u64.wrap (a0)) 6)) * 16))).bind fun t113 => (if (t113.length : Int) = (wrap64 (Int.tmod (IntKind.u64.wrap (a0)) 6)) then ((span_Pages.f (wrap64 ((wrap64 (Int.tmod (IntKind.u64.wrap (a0)) 6)) * 16))).bind fun t116 => (potsherdlaw16_SpanAll.j0 k a1 t113 (t116 != (wrap64 (Int.tmod (IntKind.u64.wrap (a0)) 6))))) else (potsherdlaw16_SpanAll.j0 k a1 t113 true))) = some r := h
  clear h
  replace H := Option.bind_eq_some_iff.mp H
  obtain ⟨t113, A30, H⟩ := H
  replace H : (if (t113.length : Int) = (wrap64 (Int.tmod (IntKind.u64.wrap (a0)) 6)) then ((span_Pages.f (wrap64 ((wrap64 (Int.tmod (IntKind.u64.wrap (a0)) 6)) * 16))).bind fun t116 => (potsherdlaw16_SpanAll.j0 k a1 t113 (t116 != (wrap64 (Int.tmod (IntKind.u64.wrap (a0)) 6))))) else (potsherdlaw16_SpanAll.j0 k a1 t113 true)) = some r := H
  have A3 := Aside0.mk A30
  clear A30
  have HC4 := Aside0.mk H
  clear H
  go_enter Try.func6, Try.ntmps6
  go_upto_region 3 with (first | ((with_reducible refine gate_callee (f := 13) rfl ?_); refine goesL_ (some 14) rfl rfl Try.func13 (by kernel_rfl) rfl #[.int .i64 0, .int .i64 (wrap64 ((wrap64 (Int.tmod (IntKind.u64.wrap (a0)) 6)) * 16))] rfl (by (try simp only [List.map_toArray, List.map_cons, List.map_nil]); first | done | rfl | (simp only [List.length_drop, List.length_take]; rfl)) ?_; (with_reducible refine (span_Pieces.calls k 0 (wrap64 ((wrap64 (Int.tmod (IntKind.u64.wrap (a0)) 6)) * 16)) t113 _ A3.out).mono ?_); rintro e w5 ⟨v114, rfl, ho0, hb⟩; refine ⟨_, rfl, ?_⟩; have n0_ := Aside0.mk (Kd.R_lower ho0 (below_size (by repeat (first | (with_reducible first | exact HB.out | apply below_alloc | apply pw_below_drewN | apply below_drew1) | exact HB.out)))); have n1_ := Aside0.mk (below_step (by repeat (first | (with_reducible first | exact HB.out | apply below_alloc | apply pw_below_drewN | apply below_drew1) | exact HB.out)) hb); clear HB; have HO115 := n0_; have HB := n1_; clear n0_ n1_; (try clear hb); (try clear hb2); (try clear hk); (try clear hi); (try clear ho0)))
  (try simp only [Act.put, List.setIfInBounds_toArray, List.set_cons_zero, List.set_cons_succ])
  go_cut [25] (fun v25 wc => ∃ (kq : Nat) (x25_3 : Bool), v25 = .bool x25_3 ∧ Aside0 (potsherdlaw16_SpanAll.j0 kq a1 t113 x25_3 = some r) ∧ Aside0 (kq ≤ k) ∧ Aside0 (Kd.R k25 25 wc w.heap.size (fun _ => True) v114 t113) ∧ Aside0 (Below w.heap.size w wc))
  case first =>
    have H := HC4.out
    clear HC4
    by_cases c6 : (t113.length : Int) = (wrap64 (Int.tmod (IntKind.u64.wrap (a0)) 6))
    · rw [if_pos c6] at H
      have c6b0 : ((t113.length : Int) == (wrap64 (Int.tmod (IntKind.u64.wrap (a0)) 6))) = true := beq_iff_eq.mpr c6
      have c6b1 : ((t113.length : Int) != (wrap64 (Int.tmod (IntKind.u64.wrap (a0)) 6))) = false := bne_eq_false_iff_eq.mpr c6
      clear c6
      (first | rw [c6b0] | (simp only [i64_w, i32_w]; rw [c6b0]) | skip)
      replace H := Option.bind_eq_some_iff.mp H
      obtain ⟨t116, A70, H⟩ := H
      replace H : (potsherdlaw16_SpanAll.j0 k a1 t113 (t116 != (wrap64 (Int.tmod (IntKind.u64.wrap (a0)) 6)))) = some r := H
      have A7 := Aside0.mk A70
      clear A70
      have H' := Aside0.mk H
      clear H
      obtain ⟨Ao8, co8, eo8⟩ := Kd.R_slice HO115.out
      subst eo8
      go_wp2_with (first | (go_at_call 15; (with_reducible refine (span_Pages.calls (wrap64 ((wrap64 (Int.tmod (IntKind.u64.wrap (a0)) 6)) * 16)) t116 _ A7.out).mono ?_); rintro e w9 ⟨rfl, hb⟩; have n0_ := Aside0.mk (Kd.R_below (by (with_reducible repeat (first | apply Kd.R_alloc | apply Kd.R_drewN | apply Kd.R_drew)); exact HO115.out) hb); have n1_ := Aside0.mk (below_step (by repeat (first | (with_reducible first | exact HB.out | apply below_alloc | apply pw_below_drewN | apply below_drew1) | exact HB.out)) hb); clear HO115; clear HB; have HO115 := n0_; have HB := n1_; clear n0_ n1_; (try clear hb); (try clear hb2); (try clear hk); (try clear hi)))
      go_meet
      case rel => exact ⟨_, ((t116 != (wrap64 (Int.tmod (IntKind.u64.wrap (a0)) 6)))), (by first | rfl | (simp; done) | (simp [*]; done)), H', ⟨by first | omega | exact Nat.le_refl _⟩, ⟨by (with_reducible repeat (first | apply Kd.R_alloc | apply Kd.R_drewN | apply Kd.R_drew)); exact HO115.out⟩, ⟨by repeat (first | (with_reducible first | exact HB.out | apply below_alloc | apply pw_below_drewN | apply below_drew1) | exact HB.out)⟩⟩
    · rw [if_neg c6] at H
      have c6b0 : ((t113.length : Int) == (wrap64 (Int.tmod (IntKind.u64.wrap (a0)) 6))) = false := beq_eq_false_iff_ne.mpr c6
      have c6b1 : ((t113.length : Int) != (wrap64 (Int.tmod (IntKind.u64.wrap (a0)) 6))) = true := bne_iff_ne.mpr c6
      (first | rw [c6b0] | (simp only [i64_w, i32_w]; rw [c6b0]) | skip)
      have H' := Aside0.mk H
      clear H
      obtain ⟨Ao10, co10, eo10⟩ := Kd.R_slice HO115.out
      subst eo10
      go_wp2
      go_meet
      case rel => exact ⟨_, (true), (by first | rfl | (simp; done) | (simp [*]; done)), H', ⟨by first | omega | exact Nat.le_refl _⟩, ⟨by (with_reducible repeat (first | apply Kd.R_alloc | apply Kd.R_drewN | apply Kd.R_drew)); exact HO115.out⟩, ⟨by repeat (first | (with_reducible first | exact HB.out | apply below_alloc | apply pw_below_drewN | apply below_drew1) | exact HB.out)⟩⟩
  case rest =>
    clear HC4
    try clear c1
    try clear p2
    try clear c6
    try clear c6b0
    try clear c6b1
    try clear p6
    obtain ⟨kq, x25_3, rfl, HA, HJ3, HO_5, HB⟩ := hcut
    cases kq with
    | zero => exact absurd HA.out (by simp [potsherdlaw16_SpanAll.j0])
    | succ kj3 =>
      have H := HA.out
      clear HA
      simp only [potsherdlaw16_SpanAll.j0] at H
      by_cases c11 : x25_3 = true
      · subst c11
        have H1 : (some false) = some r := by rw [if_pos rfl] at H; exact H
        clear H
        have H := H1
        clear H1
        obtain rfl := Option.some.inj H
        go_wp2
        go_ret
        exact ⟨by first | rfl | (simp [errW_none, errW_some] <;> rfl) | (simp [*, errW_none, errW_some] <;> rfl), by repeat (first | (with_reducible first | exact HB.out | apply below_alloc | apply pw_below_drewN | apply below_drew1) | exact HB.out)⟩
      · replace c11 := Bool.eq_false_iff.mpr c11
        subst c11
        have H1 : (potsherdlaw16_SpanAll.l0 kj3 a1 t113 (t113.length : Int) 0) = some r := by rw [if_neg (show ¬ (false = true) by decide)] at H; exact H
        clear H
        have H := H1
        clear H1
        have H' := Aside0.mk H
        clear H
        obtain ⟨Ao12, co12, eo12⟩ := Kd.R_slice HO_5.out
        subst eo12
        go_wp2
        go_loopg [28] kj3 (fun kq v28 w' => ∃ (x28_2 : Int), v28 = .int .i64 x28_2 ∧ Aside0 (potsherdlaw16_SpanAll.l0 kq a1 t113 (t113.length : Int) x28_2 = some r) ∧ Aside0 (kq ≤ kj3) ∧ Aside0 (Kd.R k25 25 w' w.heap.size (fun _ => True) (.slice Ao12 t113.length co12) t113) ∧ Aside0 (Below w.heap.size w w'))
        case atStart => exact ⟨(0), (by first | rfl | (simp; done) | (simp [*]; done)), H', ⟨Nat.le_refl _⟩, ⟨by (with_reducible repeat (first | apply Kd.R_alloc | apply Kd.R_drewN | apply Kd.R_drew)); exact HO_5.out⟩, ⟨by repeat (first | (with_reducible first | exact HB.out | apply below_alloc | apply pw_below_drewN | apply below_drew1) | exact HB.out)⟩⟩
        case round =>
          clear H'
          try clear c1
          try clear p2
          try clear c6
          try clear c6b0
          try clear c6b1
          try clear p6
          try clear c11
          try clear p2
          try clear p6
          obtain ⟨x28_2, rfl, HA, HK2, HO_26, HB⟩ := hrel
          cases gk with
          | zero => exact absurd HA.out (by simp [potsherdlaw16_SpanAll.l0])
          | succ k2 =>
            have H := HA.out
            clear HA
            simp only [potsherdlaw16_SpanAll.l0] at H
            by_cases c13 : x28_2 < (t113.length : Int)
            · rw [if_pos c13] at H
              have c13b0 : decide (x28_2 < (t113.length : Int)) = true := decide_eq_true c13
              clear c13
              by_cases c14 : 0 ≤ x28_2
              · rw [if_pos c14] at H
                have c14b0 : decide (0 ≤ x28_2) = true := decide_eq_true c14
                clear c14
                by_cases c15 : x28_2 < (t113.length : Int)
                · rw [if_pos c15] at H
                  have c15b0 : decide (x28_2 < (t113.length : Int)) = true := decide_eq_true c15
                  clear c15
                  by_cases c16 : (!(((rd_T25 t113 x28_2).f0) == x28_2) || (!(((rd_T25 t113 x28_2).f1) == 0) || (!(((rd_T25 t113 x28_2).f2) == 16)))) = true
                  · rw [if_pos c16] at H
                    have c16b0 : (!(((rd_T25 t113 x28_2).f0) == x28_2) || (!(((rd_T25 t113 x28_2).f1) == 0) || (!(((rd_T25 t113 x28_2).f2) == 16)))) = true := c16
                    clear c16
                    obtain rfl := Option.some.inj H
                    have p117 : 0 ≤ (x28_2 : Int) := of_decide_eq_true (by first | (with_reducible assumption) | assumption)
                    have q117 : x28_2 < (t113.length : Int) := of_decide_eq_true (by first | (with_reducible assumption) | assumption)
                    obtain ⟨ad117, e117, hx117_0, hx117_1, hx117_2⟩ := at_T25 (Kd.R_reads' HO_26.out).2.2 x28_2 p117 q117
                    cases e117
                    replace p117 := eq_true p117
                    replace q117 := eq_true q117
                    go_wp2_with (first | ((with_reducible refine gate_dst (N := 7) rfl ?_); (try (refine gate_guard (by rfl) ?_; dsimp only)); refine box_event ?hg (N := 7) ?hd (cs := #[.int .i64 0, .int .i64 0, .int .i64 0]) (t := 25) ?hr ?_; (case hd => rfl); (case hg => rfl); (case hr => first | (go_simp; done) | (go_simp; rfl)); intro gb118 hg w17 hbox hb; have n0_ := Aside0.mk (Kd.R_below (Kd.R_elderB (by (with_reducible repeat (first | apply Kd.R_alloc | apply Kd.R_drewN | apply Kd.R_drew)); exact HO_26.out) gb118 (Nat.le_of_eq hg.symm)) hb); have n1_ := Aside0.mk (below_step (by repeat (first | (with_reducible first | exact HB.out | apply below_alloc | apply pw_below_drewN | apply below_drew1) | exact HB.out)) hb); have n2_ := Aside0.mk (hbox); have n3_ := Aside0.mk ((by rw [hg]; exact (below_size (by repeat (first | (with_reducible first | exact HB.out | apply below_alloc | apply pw_below_drewN | apply below_drew1) | exact HB.out))) : w.heap.size ≤ gb118)); have n4_ := Aside0.mk ((by rw [hg]; exact (below_size (by repeat (first | (with_reducible first | exact HB.out | apply below_alloc | apply pw_below_drewN | apply below_drew1) | exact HB.out))) : w.heap.size ≤ gb118)); clear HO_26; clear HB; have HO_26 := n0_; have HB := n1_; have BK118 := n2_; have GW118 := n3_; have GE118 := n4_; clear n0_ n1_ n2_ n3_ n4_; clear hb hbox hg; have hcz18_0 : w17.cell? ⟨gb118, 0, none⟩ = some (.int .i64 0) := (blk_cell BK118.out 0).trans rfl; have hcz18_1 : w17.cell? ⟨gb118, 1, none⟩ = some (.int .i64 0) := (blk_cell BK118.out 1).trans rfl; have hcz18_2 : w17.cell? ⟨gb118, 2, none⟩ = some (.int .i64 0) := (blk_cell BK118.out 2).trans rfl; have hfz18_0 := blk_frozen BK118.out 0; have hfz18_1 := blk_frozen BK118.out 1; have hfz18_2 := blk_frozen BK118.out 2))
                    go_ret
                    exact ⟨by first | rfl | (simp [errW_none, errW_some] <;> rfl) | (simp [*, errW_none, errW_some] <;> rfl), by repeat (first | (with_reducible first | exact HB.out | apply below_alloc | apply pw_below_drewN | apply below_drew1 | refine below_set ?_ GE118.out) | exact HB.out)⟩
                  · rw [if_neg c16] at H
                    have c16b0 : (!(((rd_T25 t113 x28_2).f0) == x28_2) || (!(((rd_T25 t113 x28_2).f1) == 0) || (!(((rd_T25 t113 x28_2).f2) == 16)))) = false := by simpa using c16
                    clear c16
                    have H' := Aside0.mk H
                    clear H
                    have p117 : 0 ≤ (x28_2 : Int) := of_decide_eq_true (by first | (with_reducible assumption) | assumption)
                    have q117 : x28_2 < (t113.length : Int) := of_decide_eq_true (by first | (with_reducible assumption) | assumption)
                    obtain ⟨ad117, e117, hx117_0, hx117_1, hx117_2⟩ := at_T25 (Kd.R_reads' HO_26.out).2.2 x28_2 p117 q117
                    cases e117
                    replace p117 := eq_true p117
                    replace q117 := eq_true q117
                    go_wp2_with (first | ((with_reducible refine gate_dst (N := 7) rfl ?_); (try (refine gate_guard (by rfl) ?_; dsimp only)); refine box_event ?hg (N := 7) ?hd (cs := #[.int .i64 0, .int .i64 0, .int .i64 0]) (t := 25) ?hr ?_; (case hd => rfl); (case hg => rfl); (case hr => first | (go_simp; done) | (go_simp; rfl)); intro gb118 hg w19 hbox hb; have n0_ := Aside0.mk (Kd.R_below (Kd.R_elderB (by (with_reducible repeat (first | apply Kd.R_alloc | apply Kd.R_drewN | apply Kd.R_drew)); exact HO_26.out) gb118 (Nat.le_of_eq hg.symm)) hb); have n1_ := Aside0.mk (below_step (by repeat (first | (with_reducible first | exact HB.out | apply below_alloc | apply pw_below_drewN | apply below_drew1) | exact HB.out)) hb); have n2_ := Aside0.mk (hbox); have n3_ := Aside0.mk ((by rw [hg]; exact (below_size (by repeat (first | (with_reducible first | exact HB.out | apply below_alloc | apply pw_below_drewN | apply below_drew1) | exact HB.out))) : w.heap.size ≤ gb118)); have n4_ := Aside0.mk ((by rw [hg]; exact (below_size (by repeat (first | (with_reducible first | exact HB.out | apply below_alloc | apply pw_below_drewN | apply below_drew1) | exact HB.out))) : w.heap.size ≤ gb118)); clear HO_26; clear HB; have HO_26 := n0_; have HB := n1_; have BK118 := n2_; have GW118 := n3_; have GE118 := n4_; clear n0_ n1_ n2_ n3_ n4_; clear hb hbox hg; have hcz20_0 : w19.cell? ⟨gb118, 0, none⟩ = some (.int .i64 0) := (blk_cell BK118.out 0).trans rfl; have hcz20_1 : w19.cell? ⟨gb118, 1, none⟩ = some (.int .i64 0) := (blk_cell BK118.out 1).trans rfl; have hcz20_2 : w19.cell? ⟨gb118, 2, none⟩ = some (.int .i64 0) := (blk_cell BK118.out 2).trans rfl; have hfz20_0 := blk_frozen BK118.out 0; have hfz20_1 := blk_frozen BK118.out 1; have hfz20_2 := blk_frozen BK118.out 2))
                    go_roundg k2
                    case measure => have := HJ3.out; have := HK2.out; omega
                    case rel => exact ⟨(wrap64 (x28_2 + 1)), (by first | rfl | (simp; done) | (simp [*]; done)), H', ⟨by have := HJ3.out; have := HK2.out; omega⟩, ⟨by (with_reducible repeat (first | apply Kd.R_alloc | apply Kd.R_drewN | apply Kd.R_drew)); exact Kd.R_mono (Kd.R_far (p := ⟨gb118, 2, none⟩) (Kd.R_far (p := ⟨gb118, 1, none⟩) (Kd.R_far (p := ⟨gb118, 0, none⟩) (Kd.R_mono HO_26.out (fun k_ hk => (⟨hk, hk.2⟩ : _ ∧ k_ ≠ gb118))) (fun _ hk => hk.2) (.int .i64 ((rd_T25 t113 x28_2).f0))) (fun _ hk => hk.2) (.int .i64 ((rd_T25 t113 x28_2).f1))) (fun _ hk => hk.2) (.int .i64 ((rd_T25 t113 x28_2).f2))) (fun _ hk => trivial)⟩, ⟨by repeat (first | (with_reducible first | exact HB.out | apply below_alloc | apply pw_below_drewN | apply below_drew1 | refine below_set ?_ GE118.out) | exact HB.out)⟩⟩
                · rw [if_neg c15] at H
                  exact absurd H (by simp)
              · rw [if_neg c14] at H
                exact absurd H (by simp)
            · rw [if_neg c13] at H
              have c13b0 : decide (x28_2 < (t113.length : Int)) = false := decide_eq_false c13
              clear c13
              replace H := Option.bind_eq_some_iff.mp H
              obtain ⟨t119, A210, H⟩ := H
              replace H : (if t119 = true then ((span_Fits.f (wrap64 (Int.tmod (IntKind.u64.wrap (a1)) 81)) (wrap64 ((wrap64 (80 - (wrap64 (Int.tmod (IntKind.u64.wrap (a1)) 81)))) + 1))).bind fun t120 => (if t120 = true then (some false) else ((span_Pieces.f k2 (wrap64 (Int.tmod (IntKind.u64.wrap (a1)) 81)) 0).bind fun t121 => (if (t121.length : Int) = 0 then ((potsherdlaw16_awake.f k2).bind fun t124 => (some t124)) else (some false))))) else (some false)) = some r := H
              have A21 := Aside0.mk A210
              clear A210
              by_cases c22 : t119 = true
              · subst c22
                have H1 : ((span_Fits.f (wrap64 (Int.tmod (IntKind.u64.wrap (a1)) 81)) (wrap64 ((wrap64 (80 - (wrap64 (Int.tmod (IntKind.u64.wrap (a1)) 81)))) + 1))).bind fun t120 => (if t120 = true then (some false) else ((span_Pieces.f k2 (wrap64 (Int.tmod (IntKind.u64.wrap (a1)) 81)) 0).bind fun t121 => (if (t121.length : Int) = 0 then ((potsherdlaw16_awake.f k2).bind fun t124 => (some t124)) else (some false))))) = some r := by rw [if_pos rfl] at H; exact H
                clear H
                have H := H1
                clear H1
                replace H := Option.bind_eq_some_iff.mp H
                obtain ⟨t120, A230, H⟩ := H
                replace H : (if t120 = true then (some false) else ((span_Pieces.f k2 (wrap64 (Int.tmod (IntKind.u64.wrap (a1)) 81)) 0).bind fun t121 => (if (t121.length : Int) = 0 then ((potsherdlaw16_awake.f k2).bind fun t124 => (some t124)) else (some false)))) = some r := H
                have A23 := Aside0.mk A230
                clear A230
                by_cases c24 : t120 = true
                · subst c24
                  have H1 : (some false) = some r := by rw [if_pos rfl] at H; exact H
                  clear H
                  have H := H1
                  clear H1
                  obtain rfl := Option.some.inj H
                  go_wp2_with (first | ((with_reducible refine gate_callee (f := 17) rfl ?_); refine goesL_ (some 45) rfl rfl Try.func17 (by kernel_rfl) rfl #[.int .i64 (wrap64 (Int.tmod (IntKind.u64.wrap (a1)) 81)), .int .i64 (wrap64 (80 - (wrap64 (Int.tmod (IntKind.u64.wrap (a1)) 81))))] rfl (by (try simp only [List.map_toArray, List.map_cons, List.map_nil]); first | done | rfl | (simp only [List.length_drop, List.length_take]; rfl)) ?_; (with_reducible refine (span_Fits.calls (wrap64 (Int.tmod (IntKind.u64.wrap (a1)) 81)) (wrap64 (80 - (wrap64 (Int.tmod (IntKind.u64.wrap (a1)) 81)))) true _ A21.out).mono ?_); rintro e w' ⟨rfl, ⟨nd, rfl⟩⟩; refine ⟨_, rfl, ?_⟩) | (go_at_call 17; (with_reducible refine (span_Fits.calls (wrap64 (Int.tmod (IntKind.u64.wrap (a1)) 81)) (wrap64 ((wrap64 (80 - (wrap64 (Int.tmod (IntKind.u64.wrap (a1)) 81)))) + 1)) true _ A23.out).mono ?_); rintro e w' ⟨rfl, ⟨nd, rfl⟩⟩))
                  go_ret
                  exact ⟨by first | rfl | (simp [errW_none, errW_some] <;> rfl) | (simp [*, errW_none, errW_some] <;> rfl), by repeat (first | (with_reducible first | exact HB.out | apply below_alloc | apply pw_below_drewN | apply below_drew1) | exact HB.out)⟩
                · replace c24 := Bool.eq_false_iff.mpr c24
                  subst c24
                  have H1 : ((span_Pieces.f k2 (wrap64 (Int.tmod (IntKind.u64.wrap (a1)) 81)) 0).bind fun t121 => (if (t121.length : Int) = 0 then ((potsherdlaw16_awake.f k2).bind fun t124 => (some t124)) else (some false))) = some r := by rw [if_neg (show ¬ (false = true) by decide)] at H; exact H
                  clear H
                  have H := H1
                  clear H1
                  replace H := Option.bind_eq_some_iff.mp H
                  obtain ⟨t121, A250, H⟩ := H
                  replace H : (if (t121.length : Int) = 0 then ((potsherdlaw16_awake.f k2).bind fun t124 => (some t124)) else (some false)) = some r := H
                  have A25 := Aside0.mk A250
                  clear A250
                  by_cases c26 : (t121.length : Int) = 0
                  · rw [if_pos c26] at H
                    have c26b0 : ((t121.length : Int) == 0) = true := beq_iff_eq.mpr c26
                    have c26b1 : ((t121.length : Int) != 0) = false := bne_eq_false_iff_eq.mpr c26
                    clear c26
                    replace H := Option.bind_eq_some_iff.mp H
                    obtain ⟨t124, A270, H⟩ := H
                    replace H : (some t124) = some r := H
                    have A27 := Aside0.mk A270
                    clear A270
                    obtain rfl := Option.some.inj H
                    go_wp2_with (first | ((with_reducible refine gate_callee (f := 17) rfl ?_); refine goesL_ (some 45) rfl rfl Try.func17 (by kernel_rfl) rfl #[.int .i64 (wrap64 (Int.tmod (IntKind.u64.wrap (a1)) 81)), .int .i64 (wrap64 (80 - (wrap64 (Int.tmod (IntKind.u64.wrap (a1)) 81))))] rfl (by (try simp only [List.map_toArray, List.map_cons, List.map_nil]); first | done | rfl | (simp only [List.length_drop, List.length_take]; rfl)) ?_; (with_reducible refine (span_Fits.calls (wrap64 (Int.tmod (IntKind.u64.wrap (a1)) 81)) (wrap64 (80 - (wrap64 (Int.tmod (IntKind.u64.wrap (a1)) 81)))) true _ A21.out).mono ?_); rintro e w' ⟨rfl, ⟨nd, rfl⟩⟩; refine ⟨_, rfl, ?_⟩) | (go_at_call 17; (with_reducible refine (span_Fits.calls (wrap64 (Int.tmod (IntKind.u64.wrap (a1)) 81)) (wrap64 ((wrap64 (80 - (wrap64 (Int.tmod (IntKind.u64.wrap (a1)) 81)))) + 1)) false _ A23.out).mono ?_); rintro e w' ⟨rfl, ⟨nd, rfl⟩⟩) | (go_at_call 13; (with_reducible refine (span_Pieces.calls k2 (wrap64 (Int.tmod (IntKind.u64.wrap (a1)) 81)) 0 t121 _ A25.out).mono ?_); rintro e w28 ⟨v122, rfl, ho0, hb⟩; have n0_ := Aside0.mk (Kd.R_elder' (by (with_reducible repeat (first | apply Kd.R_alloc | apply Kd.R_drewN | apply Kd.R_drew)); exact HO_26.out) (Kd.R_base ho0) hb); have n1_ := Aside0.mk (Kd.R_lower (Kd.R_new' ho0 (Kd.R_lt (by (with_reducible repeat (first | apply Kd.R_alloc | apply Kd.R_drewN | apply Kd.R_drew)); exact HO_26.out))) (below_size (by repeat (first | (with_reducible first | exact HB.out | apply below_alloc | apply pw_below_drewN | apply below_drew1) | exact HB.out)))); have n2_ := Aside0.mk (below_step (by repeat (first | (with_reducible first | exact HB.out | apply below_alloc | apply pw_below_drewN | apply below_drew1) | exact HB.out)) hb); clear HO_26; clear HB; have HO_26 := n0_; have HO123 := n1_; have HB := n2_; clear n0_ n1_ n2_; (try clear hb); (try clear hb2); (try clear hk); (try clear hi); (try clear ho0); obtain ⟨Ao29, co29, eo29⟩ := Kd.R_slice HO123.out; subst eo29) | (go_at_call 21; (with_reducible refine (potsherdlaw16_awake.calls k2  t124 _ A27.out).mono ?_); rintro e w30 ⟨rfl, hb⟩; have n0_ := Aside0.mk (Kd.R_below (by (with_reducible repeat (first | apply Kd.R_alloc | apply Kd.R_drewN | apply Kd.R_drew)); exact HO_26.out) hb); have n1_ := Aside0.mk (Kd.R_below (by (with_reducible repeat (first | apply Kd.R_alloc | apply Kd.R_drewN | apply Kd.R_drew)); exact HO123.out) hb); have n2_ := Aside0.mk (below_step (by repeat (first | (with_reducible first | exact HB.out | apply below_alloc | apply pw_below_drewN | apply below_drew1) | exact HB.out)) hb); clear HO_26; clear HO123; clear HB; have HO_26 := n0_; have HO123 := n1_; have HB := n2_; clear n0_ n1_ n2_; (try clear hb); (try clear hb2); (try clear hk); (try clear hi)))
                    go_ret
                    exact ⟨by first | rfl | (simp [errW_none, errW_some] <;> rfl) | (simp [*, errW_none, errW_some] <;> rfl), by repeat (first | (with_reducible first | exact HB.out | apply below_alloc | apply pw_below_drewN | apply below_drew1) | exact HB.out)⟩
                  · rw [if_neg c26] at H
                    have c26b0 : ((t121.length : Int) == 0) = false := beq_eq_false_iff_ne.mpr c26
                    have c26b1 : ((t121.length : Int) != 0) = true := bne_iff_ne.mpr c26
                    have c26b2 : ¬ (t121 = []) := fun h_ => c26 (by rw [h_]; rfl)
                    obtain rfl := Option.some.inj H
                    go_wp2_with (first | ((with_reducible refine gate_callee (f := 17) rfl ?_); refine goesL_ (some 45) rfl rfl Try.func17 (by kernel_rfl) rfl #[.int .i64 (wrap64 (Int.tmod (IntKind.u64.wrap (a1)) 81)), .int .i64 (wrap64 (80 - (wrap64 (Int.tmod (IntKind.u64.wrap (a1)) 81))))] rfl (by (try simp only [List.map_toArray, List.map_cons, List.map_nil]); first | done | rfl | (simp only [List.length_drop, List.length_take]; rfl)) ?_; (with_reducible refine (span_Fits.calls (wrap64 (Int.tmod (IntKind.u64.wrap (a1)) 81)) (wrap64 (80 - (wrap64 (Int.tmod (IntKind.u64.wrap (a1)) 81)))) true _ A21.out).mono ?_); rintro e w' ⟨rfl, ⟨nd, rfl⟩⟩; refine ⟨_, rfl, ?_⟩) | (go_at_call 17; (with_reducible refine (span_Fits.calls (wrap64 (Int.tmod (IntKind.u64.wrap (a1)) 81)) (wrap64 ((wrap64 (80 - (wrap64 (Int.tmod (IntKind.u64.wrap (a1)) 81)))) + 1)) false _ A23.out).mono ?_); rintro e w' ⟨rfl, ⟨nd, rfl⟩⟩) | (go_at_call 13; (with_reducible refine (span_Pieces.calls k2 (wrap64 (Int.tmod (IntKind.u64.wrap (a1)) 81)) 0 t121 _ A25.out).mono ?_); rintro e w31 ⟨v122, rfl, ho0, hb⟩; have n0_ := Aside0.mk (Kd.R_elder' (by (with_reducible repeat (first | apply Kd.R_alloc | apply Kd.R_drewN | apply Kd.R_drew)); exact HO_26.out) (Kd.R_base ho0) hb); have n1_ := Aside0.mk (Kd.R_lower (Kd.R_new' ho0 (Kd.R_lt (by (with_reducible repeat (first | apply Kd.R_alloc | apply Kd.R_drewN | apply Kd.R_drew)); exact HO_26.out))) (below_size (by repeat (first | (with_reducible first | exact HB.out | apply below_alloc | apply pw_below_drewN | apply below_drew1) | exact HB.out)))); have n2_ := Aside0.mk (below_step (by repeat (first | (with_reducible first | exact HB.out | apply below_alloc | apply pw_below_drewN | apply below_drew1) | exact HB.out)) hb); clear HO_26; clear HB; have HO_26 := n0_; have HO123 := n1_; have HB := n2_; clear n0_ n1_ n2_; (try clear hb); (try clear hb2); (try clear hk); (try clear hi); (try clear ho0); obtain ⟨Ao32, co32, eo32⟩ := Kd.R_slice HO123.out; subst eo32))
                    go_ret
                    exact ⟨by first | rfl | (simp [errW_none, errW_some] <;> rfl) | (simp [*, errW_none, errW_some] <;> rfl), by repeat (first | (with_reducible first | exact HB.out | apply below_alloc | apply pw_below_drewN | apply below_drew1) | exact HB.out)⟩
              · replace c22 := Bool.eq_false_iff.mpr c22
                subst c22
                have H1 : (some false) = some r := by rw [if_neg (show ¬ (false = true) by decide)] at H; exact H
                clear H
                have H := H1
                clear H1
                obtain rfl := Option.some.inj H
                go_wp2_with (first | ((with_reducible refine gate_callee (f := 17) rfl ?_); refine goesL_ (some 45) rfl rfl Try.func17 (by kernel_rfl) rfl #[.int .i64 (wrap64 (Int.tmod (IntKind.u64.wrap (a1)) 81)), .int .i64 (wrap64 (80 - (wrap64 (Int.tmod (IntKind.u64.wrap (a1)) 81))))] rfl (by (try simp only [List.map_toArray, List.map_cons, List.map_nil]); first | done | rfl | (simp only [List.length_drop, List.length_take]; rfl)) ?_; (with_reducible refine (span_Fits.calls (wrap64 (Int.tmod (IntKind.u64.wrap (a1)) 81)) (wrap64 (80 - (wrap64 (Int.tmod (IntKind.u64.wrap (a1)) 81)))) false _ A21.out).mono ?_); rintro e w' ⟨rfl, ⟨nd, rfl⟩⟩; refine ⟨_, rfl, ?_⟩))
                go_ret
                exact ⟨by first | rfl | (simp [errW_none, errW_some] <;> rfl) | (simp [*, errW_none, errW_some] <;> rfl), by repeat (first | (with_reducible first | exact HB.out | apply below_alloc | apply pw_below_drewN | apply below_drew1) | exact HB.out)⟩

/-- THE ONE PURE STATEMENT of potsherdlaw16_SpanAll: yours. -/
def potsherdlaw16_SpanAll.Pure : Prop := ∀ (a0 : Int) (a1 : Int), (Lit.int .i64 a0).wf = true → (Lit.int .i64 a1).wf = true → ∃ k, potsherdlaw16_SpanAll.f k a0 a1 = some true
theorem potsherdlaw16_SpanAll.walk (P : potsherdlaw16_SpanAll.Pure) (a0 : Int) (a1 : Int) (w : World) (w0 : (Lit.int .i64 a0).wf = true) (w1 : (Lit.int .i64 a1).wf = true) :
    Calls Try.prog 6 #[.int .i64 a0, .int .i64 a1] w fun e w' => e = .returned (.bool true) ∧ Below w.heap.size w w' := by
  obtain ⟨k, h⟩ := P a0 a1 w0 w1
  refine (potsherdlaw16_SpanAll.calls k a0 a1 true w h).mono ?_
  rintro e w' ⟨rfl, hd⟩
  exact ⟨rfl, hd⟩

end Go.Proofs.Ytjpecdlagiohfaa.PSpanAll
