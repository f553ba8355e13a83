/- The Go functions that these laws reach, each as a Lean function with the same answers (a law itself where it answers true), and the proof that the code comes to them; conditions: those of each theorem. Laid by a program of this session over the print. -/
import Derived.Test.YtkigiehkckjlhaaZMakesPMakesx0
import Derived.Test.YtkigiehkckjlhaaZMakesPMakesx2
namespace Go.Proofs.Ytkigiehkckjlhaa.PMakes
open Go.RowKit Go.Proofs.YtkigiehkckjlhaaW.PrintWords Go.Proofs.YtkigiehkckjlhaaW.PrintLast Go.Proofs.YtkigiehkckjlhaaW.PrintMore
attribute [local go_sem] max2_int min2_int max_two min_two max_three min_three max_four min_four   -- for this text's walks alone
set_option linter.unusedVariables false
set_option linter.unusedSimpArgs false
open Go.Proofs.YtkigiehkckjlhaaW.PrintWords renaming blk_drewN → bN, blk_drew → bD, blk_alloc → bA, below_set → wS, below_alloc → wA, pw_below_drewN → wN, below_drew1 → wD, blk_below → bB, blk_far → bF, blk_cell → bC, blk_frozen → bZ
open List renaming setIfInBounds_toArray → lT, set_cons_zero → l0_, set_cons_succ → lS
def span_Fits.f (a0 : Int) (a1 : Int) : Option (Bool) := if a0 ≥ 0 then (if a0 ≤ 80 then (if a1 ≥ 0 then (some (decide (a1 ≤ (wrap64 (80 - a0))))) else (none)) else (none)) else (none)
set_option maxHeartbeats 8000000 in
set_option maxRecDepth 100000 in
theorem span_Fits.calls (a0 : Int) (a1 : Int) (r : Bool) (w : World) (h : span_Fits.f a0 a1 = some r) :
 Calls Try.prog 58 #[.int .i64 a0, .int .i64 a1] w fun e w' => e = .returned (.bool r) ∧ Drawn0 w w' := by
 have H : (if a0 ≥ 0 then (if a0 ≤ 80 then (if a1 ≥ 0 then (some (decide (a1 ≤ (wrap64 (80 - a0))))) else (none)) else (none)) else (none)) = some r := h; clear h
 by_cases c3 : a0 ≥ 0
 ·
  rw [if_pos c3] at H; have c3b0 : decide (0 ≤ a0) = true := decide_eq_true c3; clear c3
  by_cases c4 : a0 ≤ 80
  ·
   rw [if_pos c4] at H; have c4b0 : decide (a0 ≤ 80) = true := decide_eq_true c4; clear c4
   by_cases c5 : a1 ≥ 0
   ·
    rw [if_pos c5] at H; have c5b0 : decide (0 ≤ a1) = true := decide_eq_true c5; clear c5; obtain rfl := Option.some.inj H
    go_enter Try.func58, Try.ntmps58
    go_wp2
    go_ret
    exact ⟨by first | rfl | (simp; done) | (simp [*]; done), by repeat (first | exact Drawn0.refl _ | apply Drawn0.step)⟩
   ·
    rw [if_neg c5] at H; exact absurd H (by simp)
  ·
   rw [if_neg c4] at H; exact absurd H (by simp)
 ·
  rw [if_neg c3] at H; exact absurd H (by simp)
def span_Pieces.l0 : Nat → Int → Int → List (S41) → Option ((List (S41)))
 | 0, _, _, _ => none
 | k + 1, x0, x1, x5 => if x1 > 0 then (if x5.length < 5864062014805 then (span_Pieces.l0 k (wrap64 (x0 + (mn x1 (wrap64 (16 - (Int.tmod x0 16)))))) (wrap64 (x1 - (mn x1 (wrap64 (16 - (Int.tmod x0 16)))))) (x5 ++ [(⟨wrap64 (Int.tdiv x0 16), Int.tmod x0 16, mn x1 (wrap64 (16 - (Int.tmod x0 16)))⟩ : S41)])) else (none)) else (some x5)
def span_Pieces.f (k : Nat) (a0 : Int) (a1 : Int) : Option ((List (S41))) := (span_Fits.f a0 a1).bind fun t131 => (if t131 = true then (span_Pieces.l0 k a0 a1 ([] : List (S41))) else (none))
theorem span_Pieces.mono_l : ∀ k, (∀ y0 y1 y2, LeO (span_Pieces.l0 k y0 y1 y2) (span_Pieces.l0 (k + 1) y0 y1 y2))
 | 0 => fun _ _ _ r h => by simp [span_Pieces.l0] at h
 | k + 1 => by
  have ih0 := span_Pieces.mono_l k
  ·
   intro y0 y1 y2
   unfold span_Pieces.l0
   repeat' first
   | (with_reducible exact ih0 _ _ _)
   | (with_reducible exact LeO.refl _)
   | (with_reducible exact LeO.none _)
   | (with_reducible refine LeO.ite ?_ ?_)
   | (with_reducible refine LeO.bind ?_ (fun _ => ?_))
   | exact ih0 _ _ _
   | exact LeO.none _
   | refine LeO.ite ?_ ?_
   | refine LeO.bind ?_ (fun _ => ?_)
theorem span_Pieces.mono : ∀ a0 a1 k, LeO (span_Pieces.f k a0 a1) (span_Pieces.f (k + 1) a0 a1) := by
 intro a0 a1 k; have ih0 := span_Pieces.mono_l k
 unfold span_Pieces.f
 repeat' first
  | (with_reducible exact ih0 _ _ _)
  | (with_reducible exact LeO.refl _)
  | (with_reducible exact LeO.none _)
  | (with_reducible refine LeO.ite ?_ ?_)
  | (with_reducible refine LeO.bind ?_ (fun _ => ?_))
  | exact ih0 _ _ _
  | exact LeO.none _
  | refine LeO.ite ?_ ?_
  | refine LeO.bind ?_ (fun _ => ?_)
set_option maxHeartbeats 8000000 in
set_option maxRecDepth 100000 in
theorem span_Pieces.calls (k : Nat) (a0 : Int) (a1 : Int) (r : List (S41)) (w : World) (h : span_Pieces.f k a0 a1 = some r) :
 Calls Try.prog 49 #[.int .i64 a0, .int .i64 a1] w fun e w' => ∃ v0_ : Value, e = .returned (v0_) ∧ Kd.R k41 41 w' w.heap.size (fun _ => True) v0_ r ∧ Below w.heap.size w w' := by
 have hu41 := Try.underlying41; have HB := Aside0.mk (Below.refl w.heap.size w); have H : ((span_Fits.f a0 a1).bind fun t131 => (if t131 = true then (span_Pieces.l0 k a0 a1 ([] : List (S41))) else (none))) = some r := h; clear h; replace H := Option.bind_eq_some_iff.mp H; obtain ⟨t131, A30, H⟩ := H; replace H : (if t131 = true then (span_Pieces.l0 k a0 a1 ([] : List (S41))) else (none)) = some r := H; have A3 := Aside0.mk A30; clear A30
 by_cases c4 : t131 = true
 ·
  subst c4
  have H1 : (span_Pieces.l0 k a0 a1 ([] : List (S41))) = some r := by rw [if_pos rfl] at H; exact H
  clear H; have H := H1; clear H1; have H' := Aside0.mk H; clear H
  go_enter Try.func49, Try.ntmps49
  go_wp2_with (first | ((with_reducible refine gate_callee (f := 58) rfl ?_); refine goesL_ (some 10) rfl rfl Try.func58 (by kernel_rfl) rfl #[.int .i64 a0, .int .i64 a1] rfl (by (try simp only [List.map_toArray, List.map_cons, List.map_nil]); first | done | rfl | (simp only [List.length_drop, List.length_take]; rfl)) ?_; (with_reducible refine (span_Fits.calls a0 a1 true _ A3.out).mono ?_); rintro e w' ⟨rfl, ⟨nd, rfl⟩⟩; refine ⟨_, rfl, ?_⟩))
  go_loopg [0, 1, 5] k (fun kq v0 v1 v5 w' => ∃ (x0_1 : Int) (x1_1 : Int) (x5_1 : List (S41)), v0 = .int .i64 x0_1 ∧ v1 = .int .i64 x1_1 ∧ Aside0 (span_Pieces.l0 kq x0_1 x1_1 x5_1 = some r) ∧ Aside0 (kq ≤ k) ∧ Aside0 (Kd.R k41 41 w' w.heap.size (fun _ => True) v5 x5_1) ∧ Aside0 (Below w.heap.size w w'))
  case atStart => exact ⟨(a0), (a1), (([] : List (S41))), (by first | rfl | (simp; done) | (simp [*]; done)), (by first | rfl | (simp; done) | (simp [*]; done)), H', ⟨Nat.le_refl _⟩, ⟨by first | exact Kd.R_nil _ _ _ _ _ | exact Kd.N_nil _ _ _ _ _ | exact Kd.V_nil _ _ _ _ _ | exact Kd.Q_nil _ _ _ _ _ | exact Kd.S_nil _ _ _ _ _⟩, ⟨by repeat (first | (with_reducible first | exact HB.out | apply wA | apply wN | apply wD) | exact HB.out)⟩⟩
  case round =>
   clear H'
   try clear p2
   try clear c4
   obtain ⟨x0_1, x1_1, x5_1, rfl, rfl, HA, HK1, HO_5, HB⟩ := hrel
   cases gk with
   | zero => exact absurd HA.out (by simp [span_Pieces.l0])
   | succ k1 =>
    have H := HA.out; clear HA; simp only [span_Pieces.l0] at H
    by_cases c5 : x1_1 > 0
    ·
     rw [if_pos c5] at H; have c5b0 : decide (0 < x1_1) = true := decide_eq_true c5; clear c5; obtain ⟨ji6, hji6⟩ : ∃ j_ : Int, (mn x1_1 (wrap64 (16 - (Int.tmod x0_1 16)))) = j_ := ⟨_, rfl⟩
     replace H : (if x5_1.length < 5864062014805 then (span_Pieces.l0 k1 (wrap64 (x0_1 + (ji6))) (wrap64 (x1_1 - (ji6))) (x5_1 ++ [(⟨wrap64 (Int.tdiv x0_1 16), Int.tmod x0_1 16, ji6⟩ : S41)])) else (none)) = some r := by first | (rw [hji6] at H; exact H) | (simp only [hji6] at H ⊢; exact H)
     have hji6_ : (if (wrap64 (16 - (Int.tmod x0_1 16))) < x1_1 then (wrap64 (16 - (Int.tmod x0_1 16))) else x1_1) = ji6 := hji6
     by_cases c7 : x5_1.length < 5864062014805
     ·
      rw [if_pos c7] at H; have LMc7 := Aside0.mk c7; clear c7; obtain ⟨y132, hy132⟩ : ∃ y_ : List (S41), y_ = (x5_1 ++ [(⟨wrap64 (Int.tdiv x0_1 16), Int.tmod x0_1 16, ji6⟩ : S41)]) := ⟨_, rfl⟩
      replace H : (span_Pieces.l0 k1 (wrap64 (x0_1 + (ji6))) (wrap64 (x1_1 - (ji6))) y132) = some r := by first | (rw [hy132]; with_reducible exact H) | (have H2_ := (Option.bind_some _ _).symm.trans H; rw [hy132]; with_reducible exact H2_) | (have H2_ := (Option.bind_some _ _).symm.trans H; with_reducible exact H2_) | with_reducible exact H | (rw [hy132]; exact H) | exact H
      have Ny132 := Aside0.mk hy132; clear hy132; have H' := Aside0.mk H; clear H
      go_wp2_with (first | ((with_reducible refine gate_builtin (b := .append) (xs := #[.tmp 20, .tmp 26]) rfl ?_); at_builtin; refine Kd.R_append k41 (w0 := w) w.heap.size rfl (.tmp 20) (.tmp 26) 38 41 (.agg #[(.int .i64 0), (.int .i64 0), (.int .i64 0)]) 24 rfl Try.underlying38 info41 rfl (by decide) (by omega) u5 x5_1 (⟨wrap64 (Int.tdiv x0_1 16), Int.tmod x0_1 16, ji6⟩ : S41) [.int .i64 (wrap64 (Int.tdiv x0_1 16)), .int .i64 (Int.tmod x0_1 16), .int .i64 ji6] (fun _ => True) (fun _ => False) rfl rfl ?aP (fun _ hk => hk.elim) ?aF ?aO ?aB ?aS ?aL ?_; (case aP => exact k41_mkM _ _ _ (⟨wrap64 (Int.tdiv x0_1 16), Int.tmod x0_1 16, ji6⟩ : S41)); (case aB => exact (by repeat (first | (with_reducible first | exact HB.out | apply wA | apply wN | apply wD) | exact HB.out))); (case aF => exact (fun _ _ => trivial)); (case aO => exact (by (with_reducible repeat (first | apply Kd.R_alloc | apply Kd.R_drewN | apply Kd.R_drew)); exact HO_5.out)); (case aS => exact (below_size (by repeat (first | (with_reducible first | exact HB.out | apply wA | apply wN | apply wD) | exact HB.out)))); (case aL => have := LMc7.out; omega); intro v133 w8 ho hb hg hat; rw [← Ny132.out] at ho; have n0_ := Aside0.mk (hb); have n1_ := Aside0.mk (ho); clear HB; clear HO_5; have HB := n0_; have HO134 := n1_; clear n0_ n1_; clear ho hb hg hat))
      go_roundg k1
      case measure => have := HK1.out; omega
      case rel => exact ⟨(wrap64 (x0_1 + (ji6))), (wrap64 (x1_1 - (ji6))), (y132), (by first | rfl | (simp; done) | (simp only [← hji6] <;> (first | rfl | simp)) | (simp [*]; done)), (by first | rfl | (simp; done) | (simp only [← hji6] <;> (first | rfl | simp)) | (simp [*]; done)), H', ⟨by have := HK1.out; omega⟩, ⟨by (with_reducible repeat (first | apply Kd.R_alloc | apply Kd.R_drewN | apply Kd.R_drew)); exact HO134.out⟩, ⟨by repeat (first | (with_reducible first | exact HB.out | apply wA | apply wN | apply wD) | exact HB.out)⟩⟩
     ·
      rw [if_neg c7] at H; exact absurd H (by simp)
    ·
     rw [if_neg c5] at H; have c5b0 : decide (0 < x1_1) = false := decide_eq_false c5; clear c5; obtain rfl := Option.some.inj H
     go_wp2
     go_ret
     exact ⟨_, by first | rfl | exact congrArg (fun b_ => Ending.returned (Value.bool b_)) HRET.out | (rw [HRET.out]) | (simp [errW_none, errW_some] <;> rfl) | (simp [*, errW_none, errW_some] <;> rfl), by (with_reducible repeat (first | apply Kd.R_alloc | apply Kd.R_drewN | apply Kd.R_drew)); exact HO_5.out, by repeat (first | (with_reducible first | exact HB.out | apply wA | apply wN | apply wD) | exact HB.out)⟩
 ·
  replace c4 := Bool.eq_false_iff.mpr c4; subst c4
  have H1 : (none) = some r := by rw [if_neg (show ¬ (false = true) by decide)] at H; exact H
  clear H; have H := H1; clear H1; exact absurd H (by simp)
def quota_More.l0 : Nat → Int → List (S41) → Int → Int → Int → Int → Int → List Int → List (S78) → Option (Int)
 | 0, _, _, _, _, _, _, _, _, _ => none
 | k + 1, x7, x20, x21, x22, x136000, x136001, x136002, x136003, x136004 => if x22 < x21 then (if 0 ≤ x22 then (if x22 < (x20.length : Int) then (if 0 ≤ ((rd_T41 x20 x22).f0) then (if ((rd_T41 x20 x22).f0) < (x136003.length : Int) then (if (rd x136003 ((rd_T41 x20 x22).f0)) = 0 then (quota_More.l0 k (wrap64 (x7 + 1)) x20 x21 (wrap64 (x22 + 1)) x136000 x136001 x136002 x136003 x136004) else (none)) else (none)) else (none)) else (none)) else (none)) else (some x7)
def quota_More.f (k : Nat) (a0_0 : Int) (a0_1 : Int) (a0_2 : Int) (l0_3 : List Int) (l0_4 : List (S78)) (a1 : Int) (a2 : Int) : Option (Int) := if a0_0 = 1 then ((node_May.f k a0_0 a0_1 a0_2 l0_3 l0_4).bind fun t136 => (if t136 = true then ((span_Pieces.f k a1 a2).bind fun t137 => (quota_More.l0 k 0 t137 (t137.length : Int) 0 a0_0 a0_1 a0_2 l0_3 l0_4)) else (none))) else (none)
theorem quota_More.mono_l : ∀ k, (∀ y0 y1 y2 y3 y4 y5 y6 y7 y8, LeO (quota_More.l0 k y0 y1 y2 y3 y4 y5 y6 y7 y8) (quota_More.l0 (k + 1) y0 y1 y2 y3 y4 y5 y6 y7 y8))
 | 0 => fun _ _ _ _ _ _ _ _ _ r h => by simp [quota_More.l0] at h
 | k + 1 => by
  have ih0 := quota_More.mono_l k
  ·
   intro y0 y1 y2 y3 y4 y5 y6 y7 y8
   unfold quota_More.l0
   repeat' first
   | (with_reducible exact ih0 _ _ _ _ _ _ _ _ _)
   | (with_reducible exact node_May.mono _ _ _ _ _ _)
   | (with_reducible exact span_Pieces.mono _ _ _)
   | (with_reducible exact LeO.refl _)
   | (with_reducible exact LeO.none _)
   | (with_reducible refine LeO.ite ?_ ?_)
   | (with_reducible refine LeO.bind ?_ (fun _ => ?_))
   | exact ih0 _ _ _ _ _ _ _ _ _
   | exact node_May.mono _ _ _ _ _ _
   | exact span_Pieces.mono _ _ _
   | exact LeO.none _
   | refine LeO.ite ?_ ?_
   | refine LeO.bind ?_ (fun _ => ?_)
theorem quota_More.mono : ∀ a0 a1 a2 a3 a4 a5 a6 k, LeO (quota_More.f k a0 a1 a2 a3 a4 a5 a6) (quota_More.f (k + 1) a0 a1 a2 a3 a4 a5 a6) := by
 intro a0 a1 a2 a3 a4 a5 a6 k; have ih0 := quota_More.mono_l k
 unfold quota_More.f
 repeat' first
  | (with_reducible exact ih0 _ _ _ _ _ _ _ _ _)
  | (with_reducible exact node_May.mono _ _ _ _ _ _)
  | (with_reducible exact span_Pieces.mono _ _ _)
  | (with_reducible exact LeO.refl _)
  | (with_reducible exact LeO.none _)
  | (with_reducible refine LeO.ite ?_ ?_)
  | (with_reducible refine LeO.bind ?_ (fun _ => ?_))
  | exact ih0 _ _ _ _ _ _ _ _ _
  | exact node_May.mono _ _ _ _ _ _
  | exact span_Pieces.mono _ _ _
  | exact LeO.none _
  | refine LeO.ite ?_ ?_
  | refine LeO.bind ?_ (fun _ => ?_)
set_option maxHeartbeats 8000000 in
set_option maxRecDepth 100000 in
theorem quota_More.calls (k : Nat) (a0_0 : Int) (a0_1 : Int) (a0_2 : Int) (A0_3 : Option Addr) (c0_3 : Nat) (l0_3 : List Int) (A0_4 : Option Addr) (c0_4 : Nat) (l0_4 : List (S78)) (a1 : Int) (a2 : Int) (r : Int) (w : World) (hr0_3 : Kd.C (Kd.int .i64) w A0_3 l0_3.length l0_3) (hc0_3 : l0_3.length ≤ c0_3) (hr0_4 : Kd.C k78 w A0_4 l0_4.length l0_4) (hc0_4 : l0_4.length ≤ c0_4) (h : quota_More.f k a0_0 a0_1 a0_2 l0_3 l0_4 a1 a2 = some r) :
 Calls Try.prog 22 #[.agg #[.int .i64 a0_0, .int .i64 a0_1, .int .i64 a0_2, .slice A0_3 l0_3.length c0_3, .slice A0_4 l0_4.length c0_4], .int .i64 a1, .int .i64 a2] w fun e w' => e = .returned (.int .i64 r) ∧ Below w.heap.size w w' := by
 have hu28 := Try.underlying28; have hu41 := Try.underlying41; have HR0_3 := Aside0.mk hr0_3; have HC0_3 := Aside0.mk hc0_3; clear hr0_3 hc0_3; have HR0_4 := Aside0.mk hr0_4; have HC0_4 := Aside0.mk hc0_4; clear hr0_4 hc0_4; have HB := Aside0.mk (Below.refl w.heap.size w); have H : (if a0_0 = 1 then ((node_May.f k a0_0 a0_1 a0_2 l0_3 l0_4).bind fun t136 => (if t136 = true then ((span_Pieces.f k a1 a2).bind fun t137 => (quota_More.l0 k 0 t137 (t137.length : Int) 0 a0_0 a0_1 a0_2 l0_3 l0_4)) else (none))) else (none)) = some r := h; clear h
 by_cases c4 : a0_0 = 1
 ·
  rw [if_pos c4] at H; have c4b0 : (a0_0 == 1) = true := beq_iff_eq.mpr c4; have c4b1 : (a0_0 != 1) = false := bne_eq_false_iff_eq.mpr c4; clear c4; replace H := Option.bind_eq_some_iff.mp H; obtain ⟨t136, A50, H⟩ := H; replace H : (if t136 = true then ((span_Pieces.f k a1 a2).bind fun t137 => (quota_More.l0 k 0 t137 (t137.length : Int) 0 a0_0 a0_1 a0_2 l0_3 l0_4)) else (none)) = some r := H; have A5 := Aside0.mk A50; clear A50
  by_cases c6 : t136 = true
  ·
   subst c6
   have H1 : ((span_Pieces.f k a1 a2).bind fun t137 => (quota_More.l0 k 0 t137 (t137.length : Int) 0 a0_0 a0_1 a0_2 l0_3 l0_4)) = some r := by rw [if_pos rfl] at H; exact H
   clear H; have H := H1; clear H1; replace H := Option.bind_eq_some_iff.mp H; obtain ⟨t137, A70, H⟩ := H; replace H : (quota_More.l0 k 0 t137 (t137.length : Int) 0 a0_0 a0_1 a0_2 l0_3 l0_4) = some r := H; have A7 := Aside0.mk A70; clear A70; have H' := Aside0.mk H; clear H
   go_enter Try.func22, Try.ntmps22
   go_wp2_with (first | ((with_reducible refine gate_dst (N := 3) rfl ?_); refine box_event ?hg (N := 3) ?hd (cs := #[.int .i64 a0_0, .int .i64 a0_1, .int .i64 a0_2, .slice A0_3 l0_3.length c0_3, .slice A0_4 l0_4.length c0_4]) (t := 28) ?hr ?_; (case hd => rfl); (case hg => rfl); (case hr => first | (go_simp; done) | (go_simp; rfl)); intro gb135 hg w8 hbox hb; have n0_ := Aside0.mk (below_step (by repeat (first | (with_reducible first | exact HB.out | apply wA | apply wN | apply wD) | exact HB.out)) hb); have n1_ := Aside0.mk (hbox); have n2_ := Aside0.mk ((by rw [hg]; exact (below_size (by repeat (first | (with_reducible first | exact HB.out | apply wA | apply wN | apply wD) | exact HB.out))) : w.heap.size ≤ gb135)); have n3_ := Aside0.mk ((by rw [hg]; exact (below_size (by repeat (first | (with_reducible first | exact HB.out | apply wA | apply wN | apply wD) | exact HB.out))) : w.heap.size ≤ gb135)); clear HB; have HB := n0_; have BK135 := n1_; have GW135 := n2_; have GE135 := n3_; clear n0_ n1_ n2_ n3_; clear hb hbox hg; have hcz9_0 : w8.cell? ⟨gb135, 0, none⟩ = some (.int .i64 a0_0) := (bC BK135.out 0).trans rfl; have hcz9_1 : w8.cell? ⟨gb135, 1, none⟩ = some (.int .i64 a0_1) := (bC BK135.out 1).trans rfl; have hcz9_2 : w8.cell? ⟨gb135, 2, none⟩ = some (.int .i64 a0_2) := (bC BK135.out 2).trans rfl; have hcz9_3 : w8.cell? ⟨gb135, 3, none⟩ = some (.slice A0_3 l0_3.length c0_3) := (bC BK135.out 3).trans rfl; have hcz9_4 : w8.cell? ⟨gb135, 4, none⟩ = some (.slice A0_4 l0_4.length c0_4) := (bC BK135.out 4).trans rfl; have hfz9_0 := bZ BK135.out 0; have hfz9_1 := bZ BK135.out 1; have hfz9_2 := bZ BK135.out 2; have hfz9_3 := bZ BK135.out 3; have hfz9_4 := bZ BK135.out 4) | (go_at_call 48; (with_reducible refine (node_May.calls k a0_0 a0_1 a0_2 _ _ l0_3 _ _ l0_4 true _ ?side1 ?side2 ?side3 ?side4 A5.out).mono ?_); (case side1 => repeat (first | exact (Kd.C_below HR0_3.out HB.out) | (with_reducible refine Kd.C_alloc ?_ _) | (with_reducible refine Kd.C_drewN ?_ _) | (with_reducible refine Kd.C_drew ?_))); (case side2 => exact HC0_3.out); (case side3 => repeat (first | exact (Kd.C_below HR0_4.out HB.out) | (with_reducible refine Kd.C_alloc ?_ _) | (with_reducible refine Kd.C_drewN ?_ _) | (with_reducible refine Kd.C_drew ?_))); (case side4 => exact HC0_4.out); rintro e w10 ⟨rfl, hb⟩; have n0_ := Aside0.mk (bB (g := gb135) (o := .cells #[.int .i64 a0_0, .int .i64 a0_1, .int .i64 a0_2, .slice A0_3 l0_3.length c0_3, .slice A0_4 l0_4.length c0_4] 28 (0, 0)) (by (with_reducible repeat (first | refine bN ?_ _ | refine bD ?_ | refine bA ?_ _)); exact BK135.out) hb); have n1_ := Aside0.mk (below_step (by repeat (first | (with_reducible first | exact HB.out | apply wA | apply wN | apply wD | refine wS ?_ GE135.out) | exact HB.out)) hb); clear BK135; clear HB; have BK135 := n0_; have HB := n1_; clear n0_ n1_; (try clear hb); (try clear hb2); (try clear hk); (try clear hi)) | ((with_reducible refine gate_callee (f := 49) rfl ?_); refine goesL_ (some 20) rfl rfl Try.func49 (by kernel_rfl) rfl #[.int .i64 a1, .int .i64 a2] rfl (by (try simp only [List.map_toArray, List.map_cons, List.map_nil]); first | done | rfl | (simp only [List.length_drop, List.length_take]; rfl)) ?_; (with_reducible refine (span_Pieces.calls k a1 a2 t137 _ A7.out).mono ?_); rintro e w11 ⟨v138, rfl, ho0, hb⟩; refine ⟨_, rfl, ?_⟩; have n0_ := Aside0.mk (Kd.R_lower ho0 (below_size (by repeat (first | (with_reducible first | exact HB.out | apply wA | apply wN | apply wD | refine wS ?_ GE135.out) | exact HB.out)))); have n1_ := Aside0.mk (bB (g := gb135) (o := .cells #[.int .i64 a0_0, .int .i64 a0_1, .int .i64 a0_2, .slice A0_3 l0_3.length c0_3, .slice A0_4 l0_4.length c0_4] 28 (0, 0)) (by (with_reducible repeat (first | refine bN ?_ _ | refine bD ?_ | refine bA ?_ _)); exact BK135.out) hb); have n2_ := Aside0.mk (below_step (by repeat (first | (with_reducible first | exact HB.out | apply wA | apply wN | apply wD | refine wS ?_ GE135.out) | exact HB.out)) hb); clear BK135; clear HB; have HO139 := n0_; have BK135 := n1_; have HB := n2_; clear n0_ n1_ n2_; (try clear hb); (try clear hb2); (try clear hk); (try clear hi); (try clear ho0); obtain ⟨Ao12, co12, eo12⟩ := Kd.R_slice HO139.out; subst eo12))
   go_loopg [7, 22] k (fun kq v7 v22 w' => ∃ (x7_1 : Int) (x22_1 : Int), v7 = .int .i64 x7_1 ∧ v22 = .int .i64 x22_1 ∧ Aside0 (quota_More.l0 kq x7_1 t137 (t137.length : Int) x22_1 a0_0 a0_1 a0_2 l0_3 l0_4 = some r) ∧ Aside0 (kq ≤ k) ∧ Aside0 (Kd.R k41 41 w' w.heap.size (fun _ => True) (.slice Ao12 t137.length co12) t137) ∧ Aside0 (w'.heap[gb135]? = some (.cells #[.int .i64 a0_0, .int .i64 a0_1, .int .i64 a0_2, (.slice A0_3 l0_3.length c0_3), (.slice A0_4 l0_4.length c0_4)] 28 (0, 0))) ∧ Aside0 (Below w.heap.size w w'))
   case atStart => exact ⟨(0), (0), (by first | rfl | (simp; done) | (simp [*]; done)), (by first | rfl | (simp; done) | (simp [*]; done)), H', ⟨Nat.le_refl _⟩, ⟨by (with_reducible repeat (first | apply Kd.R_alloc | apply Kd.R_drewN | apply Kd.R_drew)); exact HO139.out⟩, ⟨by (with_reducible repeat (first | refine bN ?_ _ | refine bD ?_ | refine bA ?_ _)); exact BK135.out⟩, ⟨by repeat (first | (with_reducible first | exact HB.out | apply wA | apply wN | apply wD | refine wS ?_ GE135.out) | exact HB.out)⟩⟩
   case round =>
    clear H'
    try clear c2
    try clear p2
    try clear c4
    try clear c4b0
    try clear c4b1
    try clear c6
    try clear hcz9_0
    try clear hcz9_1
    try clear hcz9_2
    try clear hcz9_3
    try clear hcz9_4
    try clear hfz9_0
    try clear hfz9_1
    try clear hfz9_2
    try clear hfz9_3
    try clear hfz9_4
    obtain ⟨x7_1, x22_1, rfl, rfl, HA, HK1, HO_20, BK135, HB⟩ := hrel
    cases gk with
    | zero => exact absurd HA.out (by simp [quota_More.l0])
    | succ k1 =>
     have H := HA.out; clear HA; simp only [quota_More.l0] at H
     by_cases c13 : x22_1 < (t137.length : Int)
     ·
      rw [if_pos c13] at H; have c13b0 : decide (x22_1 < (t137.length : Int)) = true := decide_eq_true c13; clear c13
      by_cases c14 : 0 ≤ x22_1
      ·
       rw [if_pos c14] at H; have c14b0 : decide (0 ≤ x22_1) = true := decide_eq_true c14; clear c14
       by_cases c15 : x22_1 < (t137.length : Int)
       ·
        rw [if_pos c15] at H; have c15b0 : decide (x22_1 < (t137.length : Int)) = true := decide_eq_true c15; clear c15
        by_cases c16 : 0 ≤ ((rd_T41 t137 x22_1).f0)
        ·
         rw [if_pos c16] at H; have c16b0 : decide (0 ≤ ((rd_T41 t137 x22_1).f0)) = true := decide_eq_true c16; clear c16
         by_cases c17 : ((rd_T41 t137 x22_1).f0) < (l0_3.length : Int)
         ·
          rw [if_pos c17] at H; have c17b0 : decide (((rd_T41 t137 x22_1).f0) < (l0_3.length : Int)) = true := decide_eq_true c17; clear c17
          by_cases c18 : (rd l0_3 ((rd_T41 t137 x22_1).f0)) = 0
          ·
           rw [if_pos c18] at H; have c18b0 : ((rd l0_3 ((rd_T41 t137 x22_1).f0)) == 0) = true := beq_iff_eq.mpr c18; have c18b1 : ((rd l0_3 ((rd_T41 t137 x22_1).f0)) != 0) = false := bne_eq_false_iff_eq.mpr c18; clear c18; have H' := Aside0.mk H; clear H; have p140 : 0 ≤ (x22_1 : Int) := of_decide_eq_true (by first | (with_reducible assumption) | assumption); have q140 : x22_1 < (t137.length : Int) := of_decide_eq_true (by first | (with_reducible assumption) | assumption); obtain ⟨ad140, e140, hx140_0, hx140_1, hx140_2⟩ := at_T41 (Kd.R_reads' HO_20.out).2.2 x22_1 p140 q140
           cases e140
           replace p140 := eq_true p140; replace q140 := eq_true q140
           go_wp2_with (first | ((with_reducible refine gate_dst (N := 9) rfl ?_); refine box_event ?hg (N := 9) ?hd (cs := #[.int .i64 0, .int .i64 0, .int .i64 0]) (t := 41) ?hr ?_; (case hd => rfl); (case hg => rfl); (case hr => first | (go_simp; done) | (go_simp; rfl)); intro gb141 hg w19 hbox hb; have n0_ := Aside0.mk (Kd.R_below (Kd.R_elderB (by (with_reducible repeat (first | apply Kd.R_alloc | apply Kd.R_drewN | apply Kd.R_drew)); exact HO_20.out) gb141 (Nat.le_of_eq hg.symm)) hb); have n1_ := Aside0.mk (bB (g := gb135) (o := .cells #[.int .i64 a0_0, .int .i64 a0_1, .int .i64 a0_2, .slice A0_3 l0_3.length c0_3, .slice A0_4 l0_4.length c0_4] 28 (0, 0)) (by (with_reducible repeat (first | refine bN ?_ _ | refine bD ?_ | refine bA ?_ _)); exact BK135.out) hb); have n2_ := Aside0.mk (below_step (by repeat (first | (with_reducible first | exact HB.out | apply wA | apply wN | apply wD | refine wS ?_ GE135.out) | exact HB.out)) hb); have n3_ := Aside0.mk (hbox); have n4_ := Aside0.mk ((by rw [hg]; exact (below_size (by repeat (first | (with_reducible first | exact HB.out | apply wA | apply wN | apply wD | refine wS ?_ GE135.out) | exact HB.out))) : w.heap.size ≤ gb141)); have n5_ := Aside0.mk ((by rw [hg]; exact (below_size (by repeat (first | (with_reducible first | exact HB.out | apply wA | apply wN | apply wD | refine wS ?_ GE135.out) | exact HB.out))) : w.heap.size ≤ gb141)); have n6_ := Aside0.mk ((by rw [hg]; exact Nat.ne_of_lt (blk_lt (g := gb135) (o := .cells #[.int .i64 a0_0, .int .i64 a0_1, .int .i64 a0_2, .slice A0_3 l0_3.length c0_3, .slice A0_4 l0_4.length c0_4] 28 (0, 0)) (by (with_reducible repeat (first | refine bN ?_ _ | refine bD ?_ | refine bA ?_ _)); exact BK135.out)) : gb135 ≠ gb141)); have n7_ := Aside0.mk ((by rw [hg]; exact Nat.ne_of_gt (blk_lt (g := gb135) (o := .cells #[.int .i64 a0_0, .int .i64 a0_1, .int .i64 a0_2, .slice A0_3 l0_3.length c0_3, .slice A0_4 l0_4.length c0_4] 28 (0, 0)) (by (with_reducible repeat (first | refine bN ?_ _ | refine bD ?_ | refine bA ?_ _)); exact BK135.out)) : gb141 ≠ gb135)); clear HO_20; clear BK135; clear HB; have HO_20 := n0_; have BK135 := n1_; have HB := n2_; have BK141 := n3_; have GW141 := n4_; have GE141 := n5_; have NB135_141 := n6_; have NB141_135 := n7_; clear n0_ n1_ n2_ n3_ n4_ n5_ n6_ n7_; clear hb hbox hg; have hnb20 := NB141_135.out; have hnc20 := NB135_141.out; have hcz21_0 : w19.cell? ⟨gb141, 0, none⟩ = some (.int .i64 0) := (bC BK141.out 0).trans rfl; have hcz21_1 : w19.cell? ⟨gb141, 1, none⟩ = some (.int .i64 0) := (bC BK141.out 1).trans rfl; have hcz21_2 : w19.cell? ⟨gb141, 2, none⟩ = some (.int .i64 0) := (bC BK141.out 2).trans rfl; have hfz21_0 := bZ BK141.out 0; have hfz21_1 := bZ BK141.out 1; have hfz21_2 := bZ BK141.out 2; have hcz22_0 : w19.cell? ⟨gb135, 0, none⟩ = some (.int .i64 a0_0) := (bC BK135.out 0).trans rfl; have hcz22_1 : w19.cell? ⟨gb135, 1, none⟩ = some (.int .i64 a0_1) := (bC BK135.out 1).trans rfl; have hcz22_2 : w19.cell? ⟨gb135, 2, none⟩ = some (.int .i64 a0_2) := (bC BK135.out 2).trans rfl; have hcz22_3 : w19.cell? ⟨gb135, 3, none⟩ = some (.slice A0_3 l0_3.length c0_3) := (bC BK135.out 3).trans rfl; have hcz22_4 : w19.cell? ⟨gb135, 4, none⟩ = some (.slice A0_4 l0_4.length c0_4) := (bC BK135.out 4).trans rfl; have hfz22_0 := bZ BK135.out 0; have hfz22_1 := bZ BK135.out 1; have hfz22_2 := bZ BK135.out 2; have hfz22_3 := bZ BK135.out 3; have hfz22_4 := bZ BK135.out 4; have p142 : 0 ≤ (((rd_T41 t137 x22_1).f0) : Int) := of_decide_eq_true (by first | (with_reducible assumption) | assumption); have q142 : ((rd_T41 t137 x22_1).f0) < (l0_3.length : Int) := of_decide_eq_true (by first | (with_reducible assumption) | assumption); obtain ⟨ad142, e142, hx142_0⟩ := Kd.at_int HR0_3.out ((rd_T41 t137 x22_1).f0) p142 q142; cases e142; have hn142_0 : ad142.block ≠ gb141 := Nat.ne_of_lt (Nat.lt_of_lt_of_le (by have := World.block_lt_of_cell? _ _ hx142_0; first | rwa [add_block] at this | exact this) GW141.out); have hn142_1 : ad142.block ≠ gb141 := Nat.ne_of_lt (Nat.lt_of_lt_of_le (by have := World.block_lt_of_cell? _ _ hx142_0; first | rwa [add_block] at this | exact this) GW141.out); have hn142_2 : ad142.block ≠ gb141 := Nat.ne_of_lt (Nat.lt_of_lt_of_le (by have := World.block_lt_of_cell? _ _ hx142_0; first | rwa [add_block] at this | exact this) GW141.out); replace hx142_0 := (HB.out.cell (World.block_lt_of_cell? w _ hx142_0)).trans hx142_0; replace hx142_0 := (cell_far (p := ⟨gb141, 0, none⟩) (by first | (rw [add_block]; exact hn142_0) | (show (Addr.add _ _).block ≠ _; rw [add_block]; exact hn142_0) | exact hn142_0) (.int .i64 ((rd_T41 t137 x22_1).f0))).trans hx142_0; replace hx142_0 := (cell_far (p := ⟨gb141, 1, none⟩) (by first | (rw [add_block]; exact hn142_1) | (show (Addr.add _ _).block ≠ _; rw [add_block]; exact hn142_1) | exact hn142_1) (.int .i64 ((rd_T41 t137 x22_1).f1))).trans hx142_0; replace hx142_0 := (cell_far (p := ⟨gb141, 2, none⟩) (by first | (rw [add_block]; exact hn142_2) | (show (Addr.add _ _).block ≠ _; rw [add_block]; exact hn142_2) | exact hn142_2) (.int .i64 ((rd_T41 t137 x22_1).f2))).trans hx142_0; clear hn142_0; clear hn142_1; clear hn142_2; replace p142 := eq_true p142; replace q142 := eq_true q142))
           go_roundg k1
           case measure => have := HK1.out; omega
           case rel => exact ⟨(wrap64 (x7_1 + 1)), (wrap64 (x22_1 + 1)), (by first | rfl | (simp; done) | (simp [*]; done)), (by first | rfl | (simp; done) | (simp [*]; done)), H', ⟨by have := HK1.out; omega⟩, ⟨by (with_reducible repeat (first | apply Kd.R_alloc | apply Kd.R_drewN | apply Kd.R_drew)); exact Kd.R_mono (Kd.R_far (p := ⟨gb141, 2, none⟩) (Kd.R_far (p := ⟨gb141, 1, none⟩) (Kd.R_far (p := ⟨gb141, 0, none⟩) (Kd.R_mono HO_20.out (fun k_ hk => (⟨hk, hk.2⟩ : _ ∧ k_ ≠ gb141))) (fun _ hk => hk.2) (.int .i64 ((rd_T41 t137 x22_1).f0))) (fun _ hk => hk.2) (.int .i64 ((rd_T41 t137 x22_1).f1))) (fun _ hk => hk.2) (.int .i64 ((rd_T41 t137 x22_1).f2))) (fun _ hk => trivial)⟩, ⟨by (with_reducible repeat (first | refine bN ?_ _ | refine bD ?_ | refine bA ?_ _)); refine bF ?_ NB135_141.out _; (with_reducible repeat (first | refine bN ?_ _ | refine bD ?_ | refine bA ?_ _)); refine bF ?_ NB135_141.out _; (with_reducible repeat (first | refine bN ?_ _ | refine bD ?_ | refine bA ?_ _)); refine bF ?_ NB135_141.out _; (with_reducible repeat (first | refine bN ?_ _ | refine bD ?_ | refine bA ?_ _)); exact BK135.out⟩, ⟨by repeat (first | (with_reducible first | exact HB.out | apply wA | apply wN | apply wD | refine wS ?_ GE135.out | refine wS ?_ GE141.out) | exact HB.out)⟩⟩
          ·
           rw [if_neg c18] at H; exact absurd H (by simp)
         ·
          rw [if_neg c17] at H; exact absurd H (by simp)
        ·
         rw [if_neg c16] at H; exact absurd H (by simp)
       ·
        rw [if_neg c15] at H; exact absurd H (by simp)
      ·
       rw [if_neg c14] at H; exact absurd H (by simp)
     ·
      rw [if_neg c13] at H; have c13b0 : decide (x22_1 < (t137.length : Int)) = false := decide_eq_false c13; clear c13; obtain rfl := Option.some.inj H
      go_wp2
      go_ret
      exact ⟨by first | rfl | exact congrArg (fun b_ => Ending.returned (Value.bool b_)) HRET.out | (rw [HRET.out]) | (simp [errW_none, errW_some] <;> rfl) | (simp [*, errW_none, errW_some] <;> rfl), by repeat (first | (with_reducible first | exact HB.out | apply wA | apply wN | apply wD | refine wS ?_ GE135.out) | exact HB.out)⟩
  ·
   replace c6 := Bool.eq_false_iff.mpr c6; subst c6
   have H1 : (none) = some r := by rw [if_neg (show ¬ (false = true) by decide)] at H; exact H
   clear H; have H := H1; clear H1; exact absurd H (by simp)
 ·
  rw [if_neg c4] at H; exact absurd H (by simp)
end Go.Proofs.Ytkigiehkckjlhaa.PMakes
