/- The Go functions that these laws reach, each as a Lean function with the same answers (a law itself where it answers true), and the proof that the code comes to them; conditions: those of each theorem. Laid by a program of this session over the print. -/
import Derived.Test.YtkigiehkckjlhaaZSumsPSumsx0
import Derived.Test.YtkigiehkckjlhaaZSumsPSumsx6
import Derived.Test.YtkigiehkckjlhaaZSumsPSumsx8
namespace Go.Proofs.Ytkigiehkckjlhaa.PSums
open Go.RowKit Go.Proofs.YtkigiehkckjlhaaW.PrintWords Go.Proofs.YtkigiehkckjlhaaW.PrintLast Go.Proofs.YtkigiehkckjlhaaW.PrintMore
attribute [local go_sem] max2_int min2_int max_two min_two max_three min_three max_four min_four   -- for this text's walks alone
set_option linter.unusedVariables false
set_option linter.unusedSimpArgs false
open Go.Proofs.YtkigiehkckjlhaaW.PrintWords renaming blk_drewN → bN, blk_drew → bD, blk_alloc → bA, below_set → wS, below_alloc → wA, pw_below_drewN → wN, below_drew1 → wD, blk_below → bB, blk_far → bF, blk_cell → bC, blk_frozen → bZ
open List renaming setIfInBounds_toArray → lT, set_cons_zero → l0_, set_cons_succ → lS
def span_Pieces.l0 : Nat → Int → Int → List (S41) → Option ((List (S41)))
 | 0, _, _, _ => none
 | k + 1, x0, x1, x5 => if x1 > 0 then (if x5.length < 5864062014805 then (span_Pieces.l0 k (wrap64 (x0 + (mn x1 (wrap64 (16 - (Int.tmod x0 16)))))) (wrap64 (x1 - (mn x1 (wrap64 (16 - (Int.tmod x0 16)))))) (x5 ++ [(⟨wrap64 (Int.tdiv x0 16), Int.tmod x0 16, mn x1 (wrap64 (16 - (Int.tmod x0 16)))⟩ : S41)])) else (none)) else (some x5)
def span_Pieces.f (k : Nat) (a0 : Int) (a1 : Int) : Option ((List (S41))) := (span_Fits.f a0 a1).bind fun t146 => (if t146 = true then (span_Pieces.l0 k a0 a1 ([] : List (S41))) else (some ([] : List (S41))))
theorem span_Pieces.mono_l : ∀ k, (∀ y0 y1 y2, LeO (span_Pieces.l0 k y0 y1 y2) (span_Pieces.l0 (k + 1) y0 y1 y2))
 | 0 => fun _ _ _ r h => by simp [span_Pieces.l0] at h
 | k + 1 => by
  have ih0 := span_Pieces.mono_l k
  ·
   intro y0 y1 y2
   unfold span_Pieces.l0
   repeat' first
   | (with_reducible exact ih0 _ _ _)
   | (with_reducible exact LeO.refl _)
   | (with_reducible exact LeO.none _)
   | (with_reducible refine LeO.ite ?_ ?_)
   | (with_reducible refine LeO.bind ?_ (fun _ => ?_))
   | exact ih0 _ _ _
   | exact LeO.none _
   | refine LeO.ite ?_ ?_
   | refine LeO.bind ?_ (fun _ => ?_)
theorem span_Pieces.mono : ∀ a0 a1 k, LeO (span_Pieces.f k a0 a1) (span_Pieces.f (k + 1) a0 a1) := by
 intro a0 a1 k; have ih0 := span_Pieces.mono_l k
 unfold span_Pieces.f
 repeat' first
  | (with_reducible exact ih0 _ _ _)
  | (with_reducible exact LeO.refl _)
  | (with_reducible exact LeO.none _)
  | (with_reducible refine LeO.ite ?_ ?_)
  | (with_reducible refine LeO.bind ?_ (fun _ => ?_))
  | exact ih0 _ _ _
  | exact LeO.none _
  | refine LeO.ite ?_ ?_
  | refine LeO.bind ?_ (fun _ => ?_)
set_option maxHeartbeats 8000000 in
set_option maxRecDepth 100000 in
theorem span_Pieces.calls (k : Nat) (a0 : Int) (a1 : Int) (r : List (S41)) (w : World) (h : span_Pieces.f k a0 a1 = some r) :
 Calls Try.prog 49 #[.int .i64 a0, .int .i64 a1] w fun e w' => ∃ v0_ : Value, e = .returned (v0_) ∧ Kd.R k41 41 w' w.heap.size (fun _ => True) v0_ r ∧ Below w.heap.size w w' := by
 have hu41 := Try.underlying41; have HB := Aside0.mk (Below.refl w.heap.size w); have H : ((span_Fits.f a0 a1).bind fun t146 => (if t146 = true then (span_Pieces.l0 k a0 a1 ([] : List (S41))) else (some ([] : List (S41))))) = some r := h; clear h; replace H := Option.bind_eq_some_iff.mp H; obtain ⟨t146, A30, H⟩ := H; replace H : (if t146 = true then (span_Pieces.l0 k a0 a1 ([] : List (S41))) else (some ([] : List (S41)))) = some r := H; have A3 := Aside0.mk A30; clear A30
 by_cases c4 : t146 = true
 ·
  subst c4
  have H1 : (span_Pieces.l0 k a0 a1 ([] : List (S41))) = some r := by rw [if_pos rfl] at H; exact H
  clear H; have H := H1; clear H1; have H' := Aside0.mk H; clear H
  go_enter Try.func49, Try.ntmps49
  go_wp2_with (first | ((with_reducible refine gate_callee (f := 58) rfl ?_); refine goesL_ (some 10) rfl rfl Try.func58 (by kernel_rfl) rfl #[.int .i64 a0, .int .i64 a1] rfl (by (try simp only [List.map_toArray, List.map_cons, List.map_nil]); first | done | rfl | (simp only [List.length_drop, List.length_take]; rfl)) ?_; (with_reducible refine (span_Fits.calls a0 a1 true _ A3.out).mono ?_); rintro e w' ⟨rfl, ⟨nd, rfl⟩⟩; refine ⟨_, rfl, ?_⟩))
  go_loopg [0, 1, 5] k (fun kq v0 v1 v5 w' => ∃ (x0_1 : Int) (x1_1 : Int) (x5_1 : List (S41)), v0 = .int .i64 x0_1 ∧ v1 = .int .i64 x1_1 ∧ Aside0 (span_Pieces.l0 kq x0_1 x1_1 x5_1 = some r) ∧ Aside0 (kq ≤ k) ∧ Aside0 (Kd.R k41 41 w' w.heap.size (fun _ => True) v5 x5_1) ∧ Aside0 (Below w.heap.size w w'))
  case atStart => exact ⟨(a0), (a1), (([] : List (S41))), (by first | rfl | (simp; done) | (simp [*]; done)), (by first | rfl | (simp; done) | (simp [*]; done)), H', ⟨Nat.le_refl _⟩, ⟨by first | exact Kd.R_nil _ _ _ _ _ | exact Kd.N_nil _ _ _ _ _ | exact Kd.V_nil _ _ _ _ _ | exact Kd.Q_nil _ _ _ _ _ | exact Kd.S_nil _ _ _ _ _⟩, ⟨by repeat (first | (with_reducible first | exact HB.out | apply wA | apply wN | apply wD) | exact HB.out)⟩⟩
  case round =>
   clear H'
   try clear p2
   try clear c4
   obtain ⟨x0_1, x1_1, x5_1, rfl, rfl, HA, HK1, HO_5, HB⟩ := hrel
   cases gk with
   | zero => exact absurd HA.out (by simp [span_Pieces.l0])
   | succ k1 =>
    have H := HA.out; clear HA; simp only [span_Pieces.l0] at H
    by_cases c5 : x1_1 > 0
    ·
     rw [if_pos c5] at H; have c5b0 : decide (0 < x1_1) = true := decide_eq_true c5; clear c5; obtain ⟨ji6, hji6⟩ : ∃ j_ : Int, (mn x1_1 (wrap64 (16 - (Int.tmod x0_1 16)))) = j_ := ⟨_, rfl⟩
     replace H : (if x5_1.length < 5864062014805 then (span_Pieces.l0 k1 (wrap64 (x0_1 + (ji6))) (wrap64 (x1_1 - (ji6))) (x5_1 ++ [(⟨wrap64 (Int.tdiv x0_1 16), Int.tmod x0_1 16, ji6⟩ : S41)])) else (none)) = some r := by first | (rw [hji6] at H; exact H) | (simp only [hji6] at H ⊢; exact H)
     have hji6_ : (if (wrap64 (16 - (Int.tmod x0_1 16))) < x1_1 then (wrap64 (16 - (Int.tmod x0_1 16))) else x1_1) = ji6 := hji6
     by_cases c7 : x5_1.length < 5864062014805
     ·
      rw [if_pos c7] at H; have LMc7 := Aside0.mk c7; clear c7; obtain ⟨y147, hy147⟩ : ∃ y_ : List (S41), y_ = (x5_1 ++ [(⟨wrap64 (Int.tdiv x0_1 16), Int.tmod x0_1 16, ji6⟩ : S41)]) := ⟨_, rfl⟩
      replace H : (span_Pieces.l0 k1 (wrap64 (x0_1 + (ji6))) (wrap64 (x1_1 - (ji6))) y147) = some r := by first | (rw [hy147]; with_reducible exact H) | (have H2_ := (Option.bind_some _ _).symm.trans H; rw [hy147]; with_reducible exact H2_) | (have H2_ := (Option.bind_some _ _).symm.trans H; with_reducible exact H2_) | with_reducible exact H | (rw [hy147]; exact H) | exact H
      have Ny147 := Aside0.mk hy147; clear hy147; have H' := Aside0.mk H; clear H
      go_wp2_with (first | ((with_reducible refine gate_builtin (b := .append) (xs := #[.tmp 20, .tmp 26]) rfl ?_); at_builtin; refine Kd.R_append k41 (w0 := w) w.heap.size rfl (.tmp 20) (.tmp 26) 38 41 (.agg #[(.int .i64 0), (.int .i64 0), (.int .i64 0)]) 24 rfl Try.underlying38 info41 rfl (by decide) (by omega) u5 x5_1 (⟨wrap64 (Int.tdiv x0_1 16), Int.tmod x0_1 16, ji6⟩ : S41) [.int .i64 (wrap64 (Int.tdiv x0_1 16)), .int .i64 (Int.tmod x0_1 16), .int .i64 ji6] (fun _ => True) (fun _ => False) rfl rfl ?aP (fun _ hk => hk.elim) ?aF ?aO ?aB ?aS ?aL ?_; (case aP => exact k41_mkM _ _ _ (⟨wrap64 (Int.tdiv x0_1 16), Int.tmod x0_1 16, ji6⟩ : S41)); (case aB => exact (by repeat (first | (with_reducible first | exact HB.out | apply wA | apply wN | apply wD) | exact HB.out))); (case aF => exact (fun _ _ => trivial)); (case aO => exact (by (with_reducible repeat (first | apply Kd.R_alloc | apply Kd.R_drewN | apply Kd.R_drew)); exact HO_5.out)); (case aS => exact (below_size (by repeat (first | (with_reducible first | exact HB.out | apply wA | apply wN | apply wD) | exact HB.out)))); (case aL => have := LMc7.out; omega); intro v148 w8 ho hb hg hat; rw [← Ny147.out] at ho; have n0_ := Aside0.mk (hb); have n1_ := Aside0.mk (ho); clear HB; clear HO_5; have HB := n0_; have HO149 := n1_; clear n0_ n1_; clear ho hb hg hat))
      go_roundg k1
      case measure => have := HK1.out; omega
      case rel => exact ⟨(wrap64 (x0_1 + (ji6))), (wrap64 (x1_1 - (ji6))), (y147), (by first | rfl | (simp; done) | (simp only [← hji6] <;> (first | rfl | simp)) | (simp [*]; done)), (by first | rfl | (simp; done) | (simp only [← hji6] <;> (first | rfl | simp)) | (simp [*]; done)), H', ⟨by have := HK1.out; omega⟩, ⟨by (with_reducible repeat (first | apply Kd.R_alloc | apply Kd.R_drewN | apply Kd.R_drew)); exact HO149.out⟩, ⟨by repeat (first | (with_reducible first | exact HB.out | apply wA | apply wN | apply wD) | exact HB.out)⟩⟩
     ·
      rw [if_neg c7] at H; exact absurd H (by simp)
    ·
     rw [if_neg c5] at H; have c5b0 : decide (0 < x1_1) = false := decide_eq_false c5; clear c5; obtain rfl := Option.some.inj H
     go_wp2
     go_ret
     exact ⟨_, by first | rfl | exact congrArg (fun b_ => Ending.returned (Value.bool b_)) HRET.out | (rw [HRET.out]) | (simp [errW_none, errW_some] <;> rfl) | (simp [*, errW_none, errW_some] <;> rfl), by (with_reducible repeat (first | apply Kd.R_alloc | apply Kd.R_drewN | apply Kd.R_drew)); exact HO_5.out, by repeat (first | (with_reducible first | exact HB.out | apply wA | apply wN | apply wD) | exact HB.out)⟩
 ·
  replace c4 := Bool.eq_false_iff.mpr c4; subst c4
  have H1 : (some ([] : List (S41))) = some r := by rw [if_neg (show ¬ (false = true) by decide)] at H; exact H
  clear H; have H := H1; clear H1; obtain rfl := Option.some.inj H
  go_enter Try.func49, Try.ntmps49
  go_wp2_with (first | ((with_reducible refine gate_callee (f := 58) rfl ?_); refine goesL_ (some 10) rfl rfl Try.func58 (by kernel_rfl) rfl #[.int .i64 a0, .int .i64 a1] rfl (by (try simp only [List.map_toArray, List.map_cons, List.map_nil]); first | done | rfl | (simp only [List.length_drop, List.length_take]; rfl)) ?_; (with_reducible refine (span_Fits.calls a0 a1 false _ A3.out).mono ?_); rintro e w' ⟨rfl, ⟨nd, rfl⟩⟩; refine ⟨_, rfl, ?_⟩))
  go_ret
  exact ⟨_, by first | rfl | exact congrArg (fun b_ => Ending.returned (Value.bool b_)) HRET.out | (rw [HRET.out]) | (simp [errW_none, errW_some] <;> rfl) | (simp [*, errW_none, errW_some] <;> rfl), by first | exact Kd.R_nil _ _ _ _ _ | exact Kd.N_nil _ _ _ _ _ | exact Kd.V_nil _ _ _ _ _ | exact Kd.Q_nil _ _ _ _ _ | exact Kd.S_nil _ _ _ _ _, by repeat (first | (with_reducible first | exact HB.out | apply wA | apply wN | apply wD) | exact HB.out)⟩
mutual
def quota_More.j0 : Nat → Int → Int → Bool → Int → Int → Int → List Int → List (S78) → Option (Int)
 | 0, _, _, _, _, _, _, _, _ => none
 | k + 1, x1, x2, x17, x151000, x151001, x151002, x151003, x151004 => if x17 = true then (some 0) else ((span_Pieces.f k x1 x2).bind fun t152 => (quota_More.l0 k 0 t152 (t152.length : Int) 0 x151000 x151001 x151002 x151003 x151004))
def quota_More.l0 : Nat → Int → List (S41) → Int → Int → Int → Int → Int → List Int → List (S78) → Option (Int)
 | 0, _, _, _, _, _, _, _, _, _ => none
 | k + 1, x7, x20, x21, x22, x151000, x151001, x151002, x151003, x151004 => if x22 < x21 then (if 0 ≤ x22 then (if x22 < (x20.length : Int) then (if 0 ≤ ((rd_T41 x20 x22).f0) then (if ((rd_T41 x20 x22).f0) < (x151003.length : Int) then (if (rd x151003 ((rd_T41 x20 x22).f0)) = 0 then (quota_More.l0 k (wrap64 (x7 + 1)) x20 x21 (wrap64 (x22 + 1)) x151000 x151001 x151002 x151003 x151004) else (quota_More.l0 k x7 x20 x21 (wrap64 (x22 + 1)) x151000 x151001 x151002 x151003 x151004)) else (none)) else (none)) else (none)) else (none)) else (some x7)
end
def quota_More.f (k : Nat) (a0_0 : Int) (a0_1 : Int) (a0_2 : Int) (l0_3 : List Int) (l0_4 : List (S78)) (a1 : Int) (a2 : Int) : Option (Int) := if a0_0 = 1 then ((node_May.f k a0_0 a0_1 a0_2 l0_3 l0_4).bind fun t151 => (quota_More.j0 k a1 a2 (!t151) a0_0 a0_1 a0_2 l0_3 l0_4)) else (quota_More.j0 k a1 a2 true a0_0 a0_1 a0_2 l0_3 l0_4)
theorem quota_More.mono_l : ∀ k, (∀ y0 y1 y2 y3 y4 y5 y6 y7, LeO (quota_More.j0 k y0 y1 y2 y3 y4 y5 y6 y7) (quota_More.j0 (k + 1) y0 y1 y2 y3 y4 y5 y6 y7)) ∧ (∀ y0 y1 y2 y3 y4 y5 y6 y7 y8, LeO (quota_More.l0 k y0 y1 y2 y3 y4 y5 y6 y7 y8) (quota_More.l0 (k + 1) y0 y1 y2 y3 y4 y5 y6 y7 y8))
 | 0 => ⟨fun _ _ _ _ _ _ _ _ r h => by simp [quota_More.j0] at h, fun _ _ _ _ _ _ _ _ _ r h => by simp [quota_More.l0] at h⟩
 | k + 1 => by
  obtain ⟨ih0, ih1⟩ := quota_More.mono_l k; refine ⟨?_, ?_⟩
  ·
   intro y0 y1 y2 y3 y4 y5 y6 y7
   unfold quota_More.j0
   repeat' first
   | (with_reducible exact ih0 _ _ _ _ _ _ _ _)
   | (with_reducible exact ih1 _ _ _ _ _ _ _ _ _)
   | (with_reducible exact node_May.mono _ _ _ _ _ _)
   | (with_reducible exact span_Pieces.mono _ _ _)
   | (with_reducible exact LeO.refl _)
   | (with_reducible exact LeO.none _)
   | (with_reducible refine LeO.ite ?_ ?_)
   | (with_reducible refine LeO.bind ?_ (fun _ => ?_))
   | exact ih0 _ _ _ _ _ _ _ _
   | exact ih1 _ _ _ _ _ _ _ _ _
   | exact node_May.mono _ _ _ _ _ _
   | exact span_Pieces.mono _ _ _
   | exact LeO.none _
   | refine LeO.ite ?_ ?_
   | refine LeO.bind ?_ (fun _ => ?_)
  ·
   intro y0 y1 y2 y3 y4 y5 y6 y7 y8
   unfold quota_More.l0
   repeat' first
   | (with_reducible exact ih0 _ _ _ _ _ _ _ _)
   | (with_reducible exact ih1 _ _ _ _ _ _ _ _ _)
   | (with_reducible exact node_May.mono _ _ _ _ _ _)
   | (with_reducible exact span_Pieces.mono _ _ _)
   | (with_reducible exact LeO.refl _)
   | (with_reducible exact LeO.none _)
   | (with_reducible refine LeO.ite ?_ ?_)
   | (with_reducible refine LeO.bind ?_ (fun _ => ?_))
   | exact ih0 _ _ _ _ _ _ _ _
   | exact ih1 _ _ _ _ _ _ _ _ _
   | exact node_May.mono _ _ _ _ _ _
   | exact span_Pieces.mono _ _ _
   | exact LeO.none _
   | refine LeO.ite ?_ ?_
   | refine LeO.bind ?_ (fun _ => ?_)
theorem quota_More.mono : ∀ a0 a1 a2 a3 a4 a5 a6 k, LeO (quota_More.f k a0 a1 a2 a3 a4 a5 a6) (quota_More.f (k + 1) a0 a1 a2 a3 a4 a5 a6) := by
 intro a0 a1 a2 a3 a4 a5 a6 k; obtain ⟨ih0, ih1⟩ := quota_More.mono_l k
 unfold quota_More.f
 repeat' first
  | (with_reducible exact ih0 _ _ _ _ _ _ _ _)
  | (with_reducible exact ih1 _ _ _ _ _ _ _ _ _)
  | (with_reducible exact node_May.mono _ _ _ _ _ _)
  | (with_reducible exact span_Pieces.mono _ _ _)
  | (with_reducible exact LeO.refl _)
  | (with_reducible exact LeO.none _)
  | (with_reducible refine LeO.ite ?_ ?_)
  | (with_reducible refine LeO.bind ?_ (fun _ => ?_))
  | exact ih0 _ _ _ _ _ _ _ _
  | exact ih1 _ _ _ _ _ _ _ _ _
  | exact node_May.mono _ _ _ _ _ _
  | exact span_Pieces.mono _ _ _
  | exact LeO.none _
  | refine LeO.ite ?_ ?_
  | refine LeO.bind ?_ (fun _ => ?_)
set_option maxHeartbeats 8000000 in
set_option maxRecDepth 100000 in
theorem quota_More.calls (k : Nat) (a0_0 : Int) (a0_1 : Int) (a0_2 : Int) (A0_3 : Option Addr) (c0_3 : Nat) (l0_3 : List Int) (A0_4 : Option Addr) (c0_4 : Nat) (l0_4 : List (S78)) (a1 : Int) (a2 : Int) (r : Int) (w : World) (hr0_3 : Kd.C (Kd.int .i64) w A0_3 l0_3.length l0_3) (hc0_3 : l0_3.length ≤ c0_3) (hr0_4 : Kd.C k78 w A0_4 l0_4.length l0_4) (hc0_4 : l0_4.length ≤ c0_4) (h : quota_More.f k a0_0 a0_1 a0_2 l0_3 l0_4 a1 a2 = some r) :
 Calls Try.prog 22 #[.agg #[.int .i64 a0_0, .int .i64 a0_1, .int .i64 a0_2, .slice A0_3 l0_3.length c0_3, .slice A0_4 l0_4.length c0_4], .int .i64 a1, .int .i64 a2] w fun e w' => e = .returned (.int .i64 r) ∧ Below w.heap.size w w' := by
 have hu28 := Try.underlying28; have hu41 := Try.underlying41; have HR0_3 := Aside0.mk hr0_3; have HC0_3 := Aside0.mk hc0_3; clear hr0_3 hc0_3; have HR0_4 := Aside0.mk hr0_4; have HC0_4 := Aside0.mk hc0_4; clear hr0_4 hc0_4; have HB := Aside0.mk (Below.refl w.heap.size w); have H : (if a0_0 = 1 then ((node_May.f k a0_0 a0_1 a0_2 l0_3 l0_4).bind fun t151 => (quota_More.j0 k a1 a2 (!t151) a0_0 a0_1 a0_2 l0_3 l0_4)) else (quota_More.j0 k a1 a2 true a0_0 a0_1 a0_2 l0_3 l0_4)) = some r := h; clear h; have HC4 := Aside0.mk H; clear H
 go_enter Try.func22, Try.ntmps22
 go_upto_region 1 with (first | ((with_reducible refine gate_dst (N := 3) rfl ?_); refine box_event ?hg (N := 3) ?hd (cs := #[.int .i64 a0_0, .int .i64 a0_1, .int .i64 a0_2, .slice A0_3 l0_3.length c0_3, .slice A0_4 l0_4.length c0_4]) (t := 28) ?hr ?_; (case hd => rfl); (case hg => rfl); (case hr => first | (go_simp; done) | (go_simp; rfl)); intro gb150 hg w5 hbox hb; have n0_ := Aside0.mk (below_step (by repeat (first | (with_reducible first | exact HB.out | apply wA | apply wN | apply wD) | exact HB.out)) hb); have n1_ := Aside0.mk (hbox); have n2_ := Aside0.mk ((by rw [hg]; exact (below_size (by repeat (first | (with_reducible first | exact HB.out | apply wA | apply wN | apply wD) | exact HB.out))) : w.heap.size ≤ gb150)); have n3_ := Aside0.mk ((by rw [hg]; exact (below_size (by repeat (first | (with_reducible first | exact HB.out | apply wA | apply wN | apply wD) | exact HB.out))) : w.heap.size ≤ gb150)); clear HB; have HB := n0_; have BK150 := n1_; have GW150 := n2_; have GE150 := n3_; clear n0_ n1_ n2_ n3_; clear hb hbox hg))
 (try simp only [Act.put, lT, l0_, lS])
 go_cut [17] (fun v17 wc => ∃ (kq : Nat) (x17_3 : Bool), v17 = .bool x17_3 ∧ Aside0 (quota_More.j0 kq a1 a2 x17_3 a0_0 a0_1 a0_2 l0_3 l0_4 = some r) ∧ Aside0 (kq ≤ k) ∧ Aside0 (wc.heap[gb150]? = some (.cells #[.int .i64 a0_0, .int .i64 a0_1, .int .i64 a0_2, (.slice A0_3 l0_3.length c0_3), (.slice A0_4 l0_4.length c0_4)] 28 (0, 0))) ∧ Aside0 (Below w.heap.size w wc))
 case first =>
  have H := HC4.out; clear HC4
  by_cases c6 : a0_0 = 1
  ·
   rw [if_pos c6] at H; have c6b0 : (a0_0 == 1) = true := beq_iff_eq.mpr c6; have c6b1 : (a0_0 != 1) = false := bne_eq_false_iff_eq.mpr c6; clear c6
   (first | rw [c6b0] | (simp only [i64_w, i32_w]; rw [c6b0]) | skip)
   replace H := Option.bind_eq_some_iff.mp H; obtain ⟨t151, A70, H⟩ := H; replace H : (quota_More.j0 k a1 a2 (!t151) a0_0 a0_1 a0_2 l0_3 l0_4) = some r := H; have A7 := Aside0.mk A70; clear A70; have H' := Aside0.mk H; clear H; have hcz8_0 : w5.cell? ⟨gb150, 0, none⟩ = some (.int .i64 a0_0) := (bC BK150.out 0).trans rfl; have hcz8_1 : w5.cell? ⟨gb150, 1, none⟩ = some (.int .i64 a0_1) := (bC BK150.out 1).trans rfl; have hcz8_2 : w5.cell? ⟨gb150, 2, none⟩ = some (.int .i64 a0_2) := (bC BK150.out 2).trans rfl; have hcz8_3 : w5.cell? ⟨gb150, 3, none⟩ = some (.slice A0_3 l0_3.length c0_3) := (bC BK150.out 3).trans rfl; have hcz8_4 : w5.cell? ⟨gb150, 4, none⟩ = some (.slice A0_4 l0_4.length c0_4) := (bC BK150.out 4).trans rfl; have hfz8_0 := bZ BK150.out 0; have hfz8_1 := bZ BK150.out 1; have hfz8_2 := bZ BK150.out 2; have hfz8_3 := bZ BK150.out 3; have hfz8_4 := bZ BK150.out 4
   go_wp2_with (first | (go_at_call 48; (with_reducible refine (node_May.calls k a0_0 a0_1 a0_2 _ _ l0_3 _ _ l0_4 t151 _ ?side1 ?side2 ?side3 ?side4 A7.out).mono ?_); (case side1 => repeat (first | exact (Kd.C_below HR0_3.out HB.out) | (with_reducible refine Kd.C_alloc ?_ _) | (with_reducible refine Kd.C_drewN ?_ _) | (with_reducible refine Kd.C_drew ?_))); (case side2 => exact HC0_3.out); (case side3 => repeat (first | exact (Kd.C_below HR0_4.out HB.out) | (with_reducible refine Kd.C_alloc ?_ _) | (with_reducible refine Kd.C_drewN ?_ _) | (with_reducible refine Kd.C_drew ?_))); (case side4 => exact HC0_4.out); rintro e w9 ⟨rfl, hb⟩; have n0_ := Aside0.mk (bB (g := gb150) (o := .cells #[.int .i64 a0_0, .int .i64 a0_1, .int .i64 a0_2, .slice A0_3 l0_3.length c0_3, .slice A0_4 l0_4.length c0_4] 28 (0, 0)) (by (with_reducible repeat (first | refine bN ?_ _ | refine bD ?_ | refine bA ?_ _)); exact BK150.out) hb); have n1_ := Aside0.mk (below_step (by repeat (first | (with_reducible first | exact HB.out | apply wA | apply wN | apply wD | refine wS ?_ GE150.out) | exact HB.out)) hb); clear BK150; clear HB; have BK150 := n0_; have HB := n1_; clear n0_ n1_; (try clear hb); (try clear hb2); (try clear hk); (try clear hi)))
   go_meet
   case rel => exact ⟨_, (!t151), (by first | rfl | (simp; done) | (simp [*]; done)), H', ⟨by first | omega | exact Nat.le_refl _⟩, ⟨by (with_reducible repeat (first | refine bN ?_ _ | refine bD ?_ | refine bA ?_ _)); exact BK150.out⟩, ⟨by repeat (first | (with_reducible first | exact HB.out | apply wA | apply wN | apply wD | refine wS ?_ GE150.out) | exact HB.out)⟩⟩
  ·
   rw [if_neg c6] at H; have c6b0 : (a0_0 == 1) = false := beq_eq_false_iff_ne.mpr c6; have c6b1 : (a0_0 != 1) = true := bne_iff_ne.mpr c6
   (first | rw [c6b0] | (simp only [i64_w, i32_w]; rw [c6b0]) | skip)
   have H' := Aside0.mk H; clear H; have hcz10_0 : w5.cell? ⟨gb150, 0, none⟩ = some (.int .i64 a0_0) := (bC BK150.out 0).trans rfl; have hcz10_1 : w5.cell? ⟨gb150, 1, none⟩ = some (.int .i64 a0_1) := (bC BK150.out 1).trans rfl; have hcz10_2 : w5.cell? ⟨gb150, 2, none⟩ = some (.int .i64 a0_2) := (bC BK150.out 2).trans rfl; have hcz10_3 : w5.cell? ⟨gb150, 3, none⟩ = some (.slice A0_3 l0_3.length c0_3) := (bC BK150.out 3).trans rfl; have hcz10_4 : w5.cell? ⟨gb150, 4, none⟩ = some (.slice A0_4 l0_4.length c0_4) := (bC BK150.out 4).trans rfl; have hfz10_0 := bZ BK150.out 0; have hfz10_1 := bZ BK150.out 1; have hfz10_2 := bZ BK150.out 2; have hfz10_3 := bZ BK150.out 3; have hfz10_4 := bZ BK150.out 4
   go_wp2
   go_meet
   case rel => exact ⟨_, (true), (by first | rfl | (simp; done) | (simp [*]; done)), H', ⟨by first | omega | exact Nat.le_refl _⟩, ⟨by (with_reducible repeat (first | refine bN ?_ _ | refine bD ?_ | refine bA ?_ _)); exact BK150.out⟩, ⟨by repeat (first | (with_reducible first | exact HB.out | apply wA | apply wN | apply wD | refine wS ?_ GE150.out) | exact HB.out)⟩⟩
 case rest =>
  clear HC4
  try clear c2
  try clear p2
  try clear c6
  try clear c6b0
  try clear c6b1
  try clear hcz10_0
  try clear hcz10_1
  try clear hcz10_2
  try clear hcz10_3
  try clear hcz10_4
  try clear hcz8_0
  try clear hcz8_1
  try clear hcz8_2
  try clear hcz8_3
  try clear hcz8_4
  try clear hfz10_0
  try clear hfz10_1
  try clear hfz10_2
  try clear hfz10_3
  try clear hfz10_4
  try clear hfz8_0
  try clear hfz8_1
  try clear hfz8_2
  try clear hfz8_3
  try clear hfz8_4
  obtain ⟨kq, x17_3, rfl, HA, HJ3, BK150, HB⟩ := hcut
  cases kq with
  | zero => exact absurd HA.out (by simp [quota_More.j0])
  | succ kj3 =>
   have H := HA.out; clear HA; simp only [quota_More.j0] at H
   by_cases c11 : x17_3 = true
   ·
    subst c11
    have H1 : (some 0) = some r := by rw [if_pos rfl] at H; exact H
    clear H; have H := H1; clear H1; obtain rfl := Option.some.inj H
    go_wp2
    go_ret
    exact ⟨by first | rfl | exact congrArg (fun b_ => Ending.returned (Value.bool b_)) HRET.out | (rw [HRET.out]) | (simp [errW_none, errW_some] <;> rfl) | (simp [*, errW_none, errW_some] <;> rfl), by repeat (first | (with_reducible first | exact HB.out | apply wA | apply wN | apply wD | refine wS ?_ GE150.out) | exact HB.out)⟩
   ·
    replace c11 := Bool.eq_false_iff.mpr c11; subst c11
    have H1 : ((span_Pieces.f kj3 a1 a2).bind fun t152 => (quota_More.l0 kj3 0 t152 (t152.length : Int) 0 a0_0 a0_1 a0_2 l0_3 l0_4)) = some r := by rw [if_neg (show ¬ (false = true) by decide)] at H; exact H
    clear H; have H := H1; clear H1; replace H := Option.bind_eq_some_iff.mp H; obtain ⟨t152, A120, H⟩ := H; replace H : (quota_More.l0 kj3 0 t152 (t152.length : Int) 0 a0_0 a0_1 a0_2 l0_3 l0_4) = some r := H; have A12 := Aside0.mk A120; clear A120; have H' := Aside0.mk H; clear H
    go_wp2_with (first | ((with_reducible refine gate_callee (f := 49) rfl ?_); refine goesL_ (some 20) rfl rfl Try.func49 (by kernel_rfl) rfl #[.int .i64 a1, .int .i64 a2] rfl (by (try simp only [List.map_toArray, List.map_cons, List.map_nil]); first | done | rfl | (simp only [List.length_drop, List.length_take]; rfl)) ?_; (with_reducible refine (span_Pieces.calls kj3 a1 a2 t152 _ A12.out).mono ?_); rintro e w13 ⟨v153, rfl, ho0, hb⟩; refine ⟨_, rfl, ?_⟩; have n0_ := Aside0.mk (Kd.R_lower ho0 (below_size (by repeat (first | (with_reducible first | exact HB.out | apply wA | apply wN | apply wD | refine wS ?_ GE150.out) | exact HB.out)))); have n1_ := Aside0.mk (bB (g := gb150) (o := .cells #[.int .i64 a0_0, .int .i64 a0_1, .int .i64 a0_2, .slice A0_3 l0_3.length c0_3, .slice A0_4 l0_4.length c0_4] 28 (0, 0)) (by (with_reducible repeat (first | refine bN ?_ _ | refine bD ?_ | refine bA ?_ _)); exact BK150.out) hb); have n2_ := Aside0.mk (below_step (by repeat (first | (with_reducible first | exact HB.out | apply wA | apply wN | apply wD | refine wS ?_ GE150.out) | exact HB.out)) hb); clear BK150; clear HB; have HO154 := n0_; have BK150 := n1_; have HB := n2_; clear n0_ n1_ n2_; (try clear hb); (try clear hb2); (try clear hk); (try clear hi); (try clear ho0); obtain ⟨Ao14, co14, eo14⟩ := Kd.R_slice HO154.out; subst eo14))
    go_loopg [7, 22] kj3 (fun kq v7 v22 w' => ∃ (x7_2 : Int) (x22_2 : Int), v7 = .int .i64 x7_2 ∧ v22 = .int .i64 x22_2 ∧ Aside0 (quota_More.l0 kq x7_2 t152 (t152.length : Int) x22_2 a0_0 a0_1 a0_2 l0_3 l0_4 = some r) ∧ Aside0 (kq ≤ kj3) ∧ Aside0 (Kd.R k41 41 w' w.heap.size (fun _ => True) (.slice Ao14 t152.length co14) t152) ∧ Aside0 (w'.heap[gb150]? = some (.cells #[.int .i64 a0_0, .int .i64 a0_1, .int .i64 a0_2, (.slice A0_3 l0_3.length c0_3), (.slice A0_4 l0_4.length c0_4)] 28 (0, 0))) ∧ Aside0 (Below w.heap.size w w'))
    case atStart => exact ⟨(0), (0), (by first | rfl | (simp; done) | (simp [*]; done)), (by first | rfl | (simp; done) | (simp [*]; done)), H', ⟨Nat.le_refl _⟩, ⟨by (with_reducible repeat (first | apply Kd.R_alloc | apply Kd.R_drewN | apply Kd.R_drew)); exact HO154.out⟩, ⟨by (with_reducible repeat (first | refine bN ?_ _ | refine bD ?_ | refine bA ?_ _)); exact BK150.out⟩, ⟨by repeat (first | (with_reducible first | exact HB.out | apply wA | apply wN | apply wD | refine wS ?_ GE150.out) | exact HB.out)⟩⟩
    case round =>
     clear H'
     try clear c1
     try clear c2
     try clear p2
     try clear c4
     try clear c6
     try clear c6b0
     try clear c6b1
     try clear c11
     try clear hcz10_0
     try clear hcz10_1
     try clear hcz10_2
     try clear hcz10_3
     try clear hcz10_4
     try clear hcz8_0
     try clear hcz8_1
     try clear hcz8_2
     try clear hcz8_3
     try clear hcz8_4
     try clear hfz10_0
     try clear hfz10_1
     try clear hfz10_2
     try clear hfz10_3
     try clear hfz10_4
     try clear hfz8_0
     try clear hfz8_1
     try clear hfz8_2
     try clear hfz8_3
     try clear hfz8_4
     try clear p2
     obtain ⟨x7_2, x22_2, rfl, rfl, HA, HK2, HO_20, BK150, HB⟩ := hrel
     cases gk with
     | zero => exact absurd HA.out (by simp [quota_More.l0])
     | succ k2 =>
      have H := HA.out; clear HA; simp only [quota_More.l0] at H
      by_cases c15 : x22_2 < (t152.length : Int)
      ·
       rw [if_pos c15] at H; have c15b0 : decide (x22_2 < (t152.length : Int)) = true := decide_eq_true c15; clear c15
       by_cases c16 : 0 ≤ x22_2
       ·
        rw [if_pos c16] at H; have c16b0 : decide (0 ≤ x22_2) = true := decide_eq_true c16; clear c16
        by_cases c17 : x22_2 < (t152.length : Int)
        ·
         rw [if_pos c17] at H; have c17b0 : decide (x22_2 < (t152.length : Int)) = true := decide_eq_true c17; clear c17
         by_cases c18 : 0 ≤ ((rd_T41 t152 x22_2).f0)
         ·
          rw [if_pos c18] at H; have c18b0 : decide (0 ≤ ((rd_T41 t152 x22_2).f0)) = true := decide_eq_true c18; clear c18
          by_cases c19 : ((rd_T41 t152 x22_2).f0) < (l0_3.length : Int)
          ·
           rw [if_pos c19] at H; have c19b0 : decide (((rd_T41 t152 x22_2).f0) < (l0_3.length : Int)) = true := decide_eq_true c19; clear c19
           by_cases c20 : (rd l0_3 ((rd_T41 t152 x22_2).f0)) = 0
           ·
            rw [if_pos c20] at H; have c20b0 : ((rd l0_3 ((rd_T41 t152 x22_2).f0)) == 0) = true := beq_iff_eq.mpr c20; have c20b1 : ((rd l0_3 ((rd_T41 t152 x22_2).f0)) != 0) = false := bne_eq_false_iff_eq.mpr c20; clear c20; have H' := Aside0.mk H; clear H; have p155 : 0 ≤ (x22_2 : Int) := of_decide_eq_true (by first | (with_reducible assumption) | assumption); have q155 : x22_2 < (t152.length : Int) := of_decide_eq_true (by first | (with_reducible assumption) | assumption); obtain ⟨ad155, e155, hx155_0, hx155_1, hx155_2⟩ := at_T41 (Kd.R_reads' HO_20.out).2.2 x22_2 p155 q155
            cases e155
            replace p155 := eq_true p155; replace q155 := eq_true q155
            go_wp2_with (first | ((with_reducible refine gate_dst (N := 9) rfl ?_); refine box_event ?hg (N := 9) ?hd (cs := #[.int .i64 0, .int .i64 0, .int .i64 0]) (t := 41) ?hr ?_; (case hd => rfl); (case hg => rfl); (case hr => first | (go_simp; done) | (go_simp; rfl)); intro gb156 hg w21 hbox hb; have n0_ := Aside0.mk (Kd.R_below (Kd.R_elderB (by (with_reducible repeat (first | apply Kd.R_alloc | apply Kd.R_drewN | apply Kd.R_drew)); exact HO_20.out) gb156 (Nat.le_of_eq hg.symm)) hb); have n1_ := Aside0.mk (bB (g := gb150) (o := .cells #[.int .i64 a0_0, .int .i64 a0_1, .int .i64 a0_2, .slice A0_3 l0_3.length c0_3, .slice A0_4 l0_4.length c0_4] 28 (0, 0)) (by (with_reducible repeat (first | refine bN ?_ _ | refine bD ?_ | refine bA ?_ _)); exact BK150.out) hb); have n2_ := Aside0.mk (below_step (by repeat (first | (with_reducible first | exact HB.out | apply wA | apply wN | apply wD | refine wS ?_ GE150.out) | exact HB.out)) hb); have n3_ := Aside0.mk (hbox); have n4_ := Aside0.mk ((by rw [hg]; exact (below_size (by repeat (first | (with_reducible first | exact HB.out | apply wA | apply wN | apply wD | refine wS ?_ GE150.out) | exact HB.out))) : w.heap.size ≤ gb156)); have n5_ := Aside0.mk ((by rw [hg]; exact (below_size (by repeat (first | (with_reducible first | exact HB.out | apply wA | apply wN | apply wD | refine wS ?_ GE150.out) | exact HB.out))) : w.heap.size ≤ gb156)); have n6_ := Aside0.mk ((by rw [hg]; exact Nat.ne_of_lt (blk_lt (g := gb150) (o := .cells #[.int .i64 a0_0, .int .i64 a0_1, .int .i64 a0_2, .slice A0_3 l0_3.length c0_3, .slice A0_4 l0_4.length c0_4] 28 (0, 0)) (by (with_reducible repeat (first | refine bN ?_ _ | refine bD ?_ | refine bA ?_ _)); exact BK150.out)) : gb150 ≠ gb156)); have n7_ := Aside0.mk ((by rw [hg]; exact Nat.ne_of_gt (blk_lt (g := gb150) (o := .cells #[.int .i64 a0_0, .int .i64 a0_1, .int .i64 a0_2, .slice A0_3 l0_3.length c0_3, .slice A0_4 l0_4.length c0_4] 28 (0, 0)) (by (with_reducible repeat (first | refine bN ?_ _ | refine bD ?_ | refine bA ?_ _)); exact BK150.out)) : gb156 ≠ gb150)); clear HO_20; clear BK150; clear HB; have HO_20 := n0_; have BK150 := n1_; have HB := n2_; have BK156 := n3_; have GW156 := n4_; have GE156 := n5_; have NB150_156 := n6_; have NB156_150 := n7_; clear n0_ n1_ n2_ n3_ n4_ n5_ n6_ n7_; clear hb hbox hg; have hnb22 := NB156_150.out; have hnc22 := NB150_156.out; have hcz23_0 : w21.cell? ⟨gb156, 0, none⟩ = some (.int .i64 0) := (bC BK156.out 0).trans rfl; have hcz23_1 : w21.cell? ⟨gb156, 1, none⟩ = some (.int .i64 0) := (bC BK156.out 1).trans rfl; have hcz23_2 : w21.cell? ⟨gb156, 2, none⟩ = some (.int .i64 0) := (bC BK156.out 2).trans rfl; have hfz23_0 := bZ BK156.out 0; have hfz23_1 := bZ BK156.out 1; have hfz23_2 := bZ BK156.out 2; have hcz24_0 : w21.cell? ⟨gb150, 0, none⟩ = some (.int .i64 a0_0) := (bC BK150.out 0).trans rfl; have hcz24_1 : w21.cell? ⟨gb150, 1, none⟩ = some (.int .i64 a0_1) := (bC BK150.out 1).trans rfl; have hcz24_2 : w21.cell? ⟨gb150, 2, none⟩ = some (.int .i64 a0_2) := (bC BK150.out 2).trans rfl; have hcz24_3 : w21.cell? ⟨gb150, 3, none⟩ = some (.slice A0_3 l0_3.length c0_3) := (bC BK150.out 3).trans rfl; have hcz24_4 : w21.cell? ⟨gb150, 4, none⟩ = some (.slice A0_4 l0_4.length c0_4) := (bC BK150.out 4).trans rfl; have hfz24_0 := bZ BK150.out 0; have hfz24_1 := bZ BK150.out 1; have hfz24_2 := bZ BK150.out 2; have hfz24_3 := bZ BK150.out 3; have hfz24_4 := bZ BK150.out 4; have p157 : 0 ≤ (((rd_T41 t152 x22_2).f0) : Int) := of_decide_eq_true (by first | (with_reducible assumption) | assumption); have q157 : ((rd_T41 t152 x22_2).f0) < (l0_3.length : Int) := of_decide_eq_true (by first | (with_reducible assumption) | assumption); obtain ⟨ad157, e157, hx157_0⟩ := Kd.at_int HR0_3.out ((rd_T41 t152 x22_2).f0) p157 q157; cases e157; have hn157_0 : ad157.block ≠ gb156 := Nat.ne_of_lt (Nat.lt_of_lt_of_le (by have := World.block_lt_of_cell? _ _ hx157_0; first | rwa [add_block] at this | exact this) GW156.out); have hn157_1 : ad157.block ≠ gb156 := Nat.ne_of_lt (Nat.lt_of_lt_of_le (by have := World.block_lt_of_cell? _ _ hx157_0; first | rwa [add_block] at this | exact this) GW156.out); have hn157_2 : ad157.block ≠ gb156 := Nat.ne_of_lt (Nat.lt_of_lt_of_le (by have := World.block_lt_of_cell? _ _ hx157_0; first | rwa [add_block] at this | exact this) GW156.out); replace hx157_0 := (HB.out.cell (World.block_lt_of_cell? w _ hx157_0)).trans hx157_0; replace hx157_0 := (cell_far (p := ⟨gb156, 0, none⟩) (by first | (rw [add_block]; exact hn157_0) | (show (Addr.add _ _).block ≠ _; rw [add_block]; exact hn157_0) | exact hn157_0) (.int .i64 ((rd_T41 t152 x22_2).f0))).trans hx157_0; replace hx157_0 := (cell_far (p := ⟨gb156, 1, none⟩) (by first | (rw [add_block]; exact hn157_1) | (show (Addr.add _ _).block ≠ _; rw [add_block]; exact hn157_1) | exact hn157_1) (.int .i64 ((rd_T41 t152 x22_2).f1))).trans hx157_0; replace hx157_0 := (cell_far (p := ⟨gb156, 2, none⟩) (by first | (rw [add_block]; exact hn157_2) | (show (Addr.add _ _).block ≠ _; rw [add_block]; exact hn157_2) | exact hn157_2) (.int .i64 ((rd_T41 t152 x22_2).f2))).trans hx157_0; clear hn157_0; clear hn157_1; clear hn157_2; replace p157 := eq_true p157; replace q157 := eq_true q157))
            go_roundg k2
            case measure => have := HJ3.out; have := HK2.out; omega
            case rel => exact ⟨(wrap64 (x7_2 + 1)), (wrap64 (x22_2 + 1)), (by first | rfl | (simp; done) | (simp [*]; done)), (by first | rfl | (simp; done) | (simp [*]; done)), H', ⟨by have := HJ3.out; have := HK2.out; omega⟩, ⟨by (with_reducible repeat (first | apply Kd.R_alloc | apply Kd.R_drewN | apply Kd.R_drew)); exact Kd.R_mono (Kd.R_far (p := ⟨gb156, 2, none⟩) (Kd.R_far (p := ⟨gb156, 1, none⟩) (Kd.R_far (p := ⟨gb156, 0, none⟩) (Kd.R_mono HO_20.out (fun k_ hk => (⟨hk, hk.2⟩ : _ ∧ k_ ≠ gb156))) (fun _ hk => hk.2) (.int .i64 ((rd_T41 t152 x22_2).f0))) (fun _ hk => hk.2) (.int .i64 ((rd_T41 t152 x22_2).f1))) (fun _ hk => hk.2) (.int .i64 ((rd_T41 t152 x22_2).f2))) (fun _ hk => trivial)⟩, ⟨by (with_reducible repeat (first | refine bN ?_ _ | refine bD ?_ | refine bA ?_ _)); refine bF ?_ NB150_156.out _; (with_reducible repeat (first | refine bN ?_ _ | refine bD ?_ | refine bA ?_ _)); refine bF ?_ NB150_156.out _; (with_reducible repeat (first | refine bN ?_ _ | refine bD ?_ | refine bA ?_ _)); refine bF ?_ NB150_156.out _; (with_reducible repeat (first | refine bN ?_ _ | refine bD ?_ | refine bA ?_ _)); exact BK150.out⟩, ⟨by repeat (first | (with_reducible first | exact HB.out | apply wA | apply wN | apply wD | refine wS ?_ GE150.out | refine wS ?_ GE156.out) | exact HB.out)⟩⟩
           ·
            rw [if_neg c20] at H; have c20b0 : ((rd l0_3 ((rd_T41 t152 x22_2).f0)) == 0) = false := beq_eq_false_iff_ne.mpr c20; have c20b1 : ((rd l0_3 ((rd_T41 t152 x22_2).f0)) != 0) = true := bne_iff_ne.mpr c20; have H' := Aside0.mk H; clear H; have p155 : 0 ≤ (x22_2 : Int) := of_decide_eq_true (by first | (with_reducible assumption) | assumption); have q155 : x22_2 < (t152.length : Int) := of_decide_eq_true (by first | (with_reducible assumption) | assumption); obtain ⟨ad155, e155, hx155_0, hx155_1, hx155_2⟩ := at_T41 (Kd.R_reads' HO_20.out).2.2 x22_2 p155 q155
            cases e155
            replace p155 := eq_true p155; replace q155 := eq_true q155
            go_wp2_with (first | ((with_reducible refine gate_dst (N := 9) rfl ?_); refine box_event ?hg (N := 9) ?hd (cs := #[.int .i64 0, .int .i64 0, .int .i64 0]) (t := 41) ?hr ?_; (case hd => rfl); (case hg => rfl); (case hr => first | (go_simp; done) | (go_simp; rfl)); intro gb156 hg w25 hbox hb; have n0_ := Aside0.mk (Kd.R_below (Kd.R_elderB (by (with_reducible repeat (first | apply Kd.R_alloc | apply Kd.R_drewN | apply Kd.R_drew)); exact HO_20.out) gb156 (Nat.le_of_eq hg.symm)) hb); have n1_ := Aside0.mk (bB (g := gb150) (o := .cells #[.int .i64 a0_0, .int .i64 a0_1, .int .i64 a0_2, .slice A0_3 l0_3.length c0_3, .slice A0_4 l0_4.length c0_4] 28 (0, 0)) (by (with_reducible repeat (first | refine bN ?_ _ | refine bD ?_ | refine bA ?_ _)); exact BK150.out) hb); have n2_ := Aside0.mk (below_step (by repeat (first | (with_reducible first | exact HB.out | apply wA | apply wN | apply wD | refine wS ?_ GE150.out) | exact HB.out)) hb); have n3_ := Aside0.mk (hbox); have n4_ := Aside0.mk ((by rw [hg]; exact (below_size (by repeat (first | (with_reducible first | exact HB.out | apply wA | apply wN | apply wD | refine wS ?_ GE150.out) | exact HB.out))) : w.heap.size ≤ gb156)); have n5_ := Aside0.mk ((by rw [hg]; exact (below_size (by repeat (first | (with_reducible first | exact HB.out | apply wA | apply wN | apply wD | refine wS ?_ GE150.out) | exact HB.out))) : w.heap.size ≤ gb156)); have n6_ := Aside0.mk ((by rw [hg]; exact Nat.ne_of_lt (blk_lt (g := gb150) (o := .cells #[.int .i64 a0_0, .int .i64 a0_1, .int .i64 a0_2, .slice A0_3 l0_3.length c0_3, .slice A0_4 l0_4.length c0_4] 28 (0, 0)) (by (with_reducible repeat (first | refine bN ?_ _ | refine bD ?_ | refine bA ?_ _)); exact BK150.out)) : gb150 ≠ gb156)); have n7_ := Aside0.mk ((by rw [hg]; exact Nat.ne_of_gt (blk_lt (g := gb150) (o := .cells #[.int .i64 a0_0, .int .i64 a0_1, .int .i64 a0_2, .slice A0_3 l0_3.length c0_3, .slice A0_4 l0_4.length c0_4] 28 (0, 0)) (by (with_reducible repeat (first | refine bN ?_ _ | refine bD ?_ | refine bA ?_ _)); exact BK150.out)) : gb156 ≠ gb150)); clear HO_20; clear BK150; clear HB; have HO_20 := n0_; have BK150 := n1_; have HB := n2_; have BK156 := n3_; have GW156 := n4_; have GE156 := n5_; have NB150_156 := n6_; have NB156_150 := n7_; clear n0_ n1_ n2_ n3_ n4_ n5_ n6_ n7_; clear hb hbox hg; have hnb26 := NB156_150.out; have hnc26 := NB150_156.out; have hcz27_0 : w25.cell? ⟨gb156, 0, none⟩ = some (.int .i64 0) := (bC BK156.out 0).trans rfl; have hcz27_1 : w25.cell? ⟨gb156, 1, none⟩ = some (.int .i64 0) := (bC BK156.out 1).trans rfl; have hcz27_2 : w25.cell? ⟨gb156, 2, none⟩ = some (.int .i64 0) := (bC BK156.out 2).trans rfl; have hfz27_0 := bZ BK156.out 0; have hfz27_1 := bZ BK156.out 1; have hfz27_2 := bZ BK156.out 2; have hcz28_0 : w25.cell? ⟨gb150, 0, none⟩ = some (.int .i64 a0_0) := (bC BK150.out 0).trans rfl; have hcz28_1 : w25.cell? ⟨gb150, 1, none⟩ = some (.int .i64 a0_1) := (bC BK150.out 1).trans rfl; have hcz28_2 : w25.cell? ⟨gb150, 2, none⟩ = some (.int .i64 a0_2) := (bC BK150.out 2).trans rfl; have hcz28_3 : w25.cell? ⟨gb150, 3, none⟩ = some (.slice A0_3 l0_3.length c0_3) := (bC BK150.out 3).trans rfl; have hcz28_4 : w25.cell? ⟨gb150, 4, none⟩ = some (.slice A0_4 l0_4.length c0_4) := (bC BK150.out 4).trans rfl; have hfz28_0 := bZ BK150.out 0; have hfz28_1 := bZ BK150.out 1; have hfz28_2 := bZ BK150.out 2; have hfz28_3 := bZ BK150.out 3; have hfz28_4 := bZ BK150.out 4; have p157 : 0 ≤ (((rd_T41 t152 x22_2).f0) : Int) := of_decide_eq_true (by first | (with_reducible assumption) | assumption); have q157 : ((rd_T41 t152 x22_2).f0) < (l0_3.length : Int) := of_decide_eq_true (by first | (with_reducible assumption) | assumption); obtain ⟨ad157, e157, hx157_0⟩ := Kd.at_int HR0_3.out ((rd_T41 t152 x22_2).f0) p157 q157; cases e157; have hn157_0 : ad157.block ≠ gb156 := Nat.ne_of_lt (Nat.lt_of_lt_of_le (by have := World.block_lt_of_cell? _ _ hx157_0; first | rwa [add_block] at this | exact this) GW156.out); have hn157_1 : ad157.block ≠ gb156 := Nat.ne_of_lt (Nat.lt_of_lt_of_le (by have := World.block_lt_of_cell? _ _ hx157_0; first | rwa [add_block] at this | exact this) GW156.out); have hn157_2 : ad157.block ≠ gb156 := Nat.ne_of_lt (Nat.lt_of_lt_of_le (by have := World.block_lt_of_cell? _ _ hx157_0; first | rwa [add_block] at this | exact this) GW156.out); replace hx157_0 := (HB.out.cell (World.block_lt_of_cell? w _ hx157_0)).trans hx157_0; replace hx157_0 := (cell_far (p := ⟨gb156, 0, none⟩) (by first | (rw [add_block]; exact hn157_0) | (show (Addr.add _ _).block ≠ _; rw [add_block]; exact hn157_0) | exact hn157_0) (.int .i64 ((rd_T41 t152 x22_2).f0))).trans hx157_0; replace hx157_0 := (cell_far (p := ⟨gb156, 1, none⟩) (by first | (rw [add_block]; exact hn157_1) | (show (Addr.add _ _).block ≠ _; rw [add_block]; exact hn157_1) | exact hn157_1) (.int .i64 ((rd_T41 t152 x22_2).f1))).trans hx157_0; replace hx157_0 := (cell_far (p := ⟨gb156, 2, none⟩) (by first | (rw [add_block]; exact hn157_2) | (show (Addr.add _ _).block ≠ _; rw [add_block]; exact hn157_2) | exact hn157_2) (.int .i64 ((rd_T41 t152 x22_2).f2))).trans hx157_0; clear hn157_0; clear hn157_1; clear hn157_2; replace p157 := eq_true p157; replace q157 := eq_true q157))
            go_roundg k2
            case measure => have := HJ3.out; have := HK2.out; omega
            case rel => exact ⟨(x7_2), (wrap64 (x22_2 + 1)), (by first | rfl | (simp; done) | (simp [*]; done)), (by first | rfl | (simp; done) | (simp [*]; done)), H', ⟨by have := HJ3.out; have := HK2.out; omega⟩, ⟨by (with_reducible repeat (first | apply Kd.R_alloc | apply Kd.R_drewN | apply Kd.R_drew)); exact Kd.R_mono (Kd.R_far (p := ⟨gb156, 2, none⟩) (Kd.R_far (p := ⟨gb156, 1, none⟩) (Kd.R_far (p := ⟨gb156, 0, none⟩) (Kd.R_mono HO_20.out (fun k_ hk => (⟨hk, hk.2⟩ : _ ∧ k_ ≠ gb156))) (fun _ hk => hk.2) (.int .i64 ((rd_T41 t152 x22_2).f0))) (fun _ hk => hk.2) (.int .i64 ((rd_T41 t152 x22_2).f1))) (fun _ hk => hk.2) (.int .i64 ((rd_T41 t152 x22_2).f2))) (fun _ hk => trivial)⟩, ⟨by (with_reducible repeat (first | refine bN ?_ _ | refine bD ?_ | refine bA ?_ _)); refine bF ?_ NB150_156.out _; (with_reducible repeat (first | refine bN ?_ _ | refine bD ?_ | refine bA ?_ _)); refine bF ?_ NB150_156.out _; (with_reducible repeat (first | refine bN ?_ _ | refine bD ?_ | refine bA ?_ _)); refine bF ?_ NB150_156.out _; (with_reducible repeat (first | refine bN ?_ _ | refine bD ?_ | refine bA ?_ _)); exact BK150.out⟩, ⟨by repeat (first | (with_reducible first | exact HB.out | apply wA | apply wN | apply wD | refine wS ?_ GE150.out | refine wS ?_ GE156.out) | exact HB.out)⟩⟩
          ·
           rw [if_neg c19] at H; exact absurd H (by simp)
         ·
          rw [if_neg c18] at H; exact absurd H (by simp)
        ·
         rw [if_neg c17] at H; exact absurd H (by simp)
       ·
        rw [if_neg c16] at H; exact absurd H (by simp)
      ·
       rw [if_neg c15] at H; have c15b0 : decide (x22_2 < (t152.length : Int)) = false := decide_eq_false c15; clear c15; obtain rfl := Option.some.inj H
       go_wp2
       go_ret
       exact ⟨by first | rfl | exact congrArg (fun b_ => Ending.returned (Value.bool b_)) HRET.out | (rw [HRET.out]) | (simp [errW_none, errW_some] <;> rfl) | (simp [*, errW_none, errW_some] <;> rfl), by repeat (first | (with_reducible first | exact HB.out | apply wA | apply wN | apply wD | refine wS ?_ GE150.out) | exact HB.out)⟩
def node_Empty.f (a0 : Int) : Option (Int × Int × Int × List Int × (List (S78))) := if a0 = 1 then (if 5 ≤ 35184372088832 then (some (a0, 1, 0, (List.replicate 5 0), ([] : List (S78)))) else (none)) else (if a0 = 2 then (some (a0, 1, 0, ([] : List Int), ([] : List (S78)))) else (some (0, 0, 0, ([] : List Int), ([] : List (S78)))))
set_option maxHeartbeats 8000000 in
set_option maxRecDepth 100000 in
theorem node_Empty.calls (a0 : Int) (r1 : Int) (r2 : Int) (r3 : Int) (r4 : List Int) (r5 : List (S78)) (w : World) (h : node_Empty.f a0 = some (r1, r2, r3, r4, r5)) :
 Calls Try.prog 63 #[.int .i64 a0] w fun e w' => ∃ v3_ v4_ : Value, e = .returned (.agg #[.int .i64 r1, .int .i64 r2, .int .i64 r3, v3_, v4_]) ∧ Kd.R (Kd.int .i64) 3 w' w.heap.size (fun _ => True) v3_ r4 ∧ Kd.R k78 78 w' w.heap.size (fun _ => True) v4_ r5 ∧ Below w.heap.size w w' := by
 have hu28 := Try.underlying28; have HB := Aside0.mk (Below.refl w.heap.size w); have H : (if a0 = 1 then (if 5 ≤ 35184372088832 then (some (a0, 1, 0, (List.replicate 5 0), ([] : List (S78)))) else (none)) else (if a0 = 2 then (some (a0, 1, 0, ([] : List Int), ([] : List (S78)))) else (some (0, 0, 0, ([] : List Int), ([] : List (S78)))))) = some (r1, r2, r3, r4, r5) := h; clear h
 by_cases c2 : a0 = 1
 ·
  rw [if_pos c2] at H; have c2b0 : (a0 == 1) = true := beq_iff_eq.mpr c2; have c2b1 : (a0 != 1) = false := bne_eq_false_iff_eq.mpr c2; clear c2
  by_cases c3 : 5 ≤ 35184372088832
  ·
   rw [if_pos c3] at H; have c3b0 := eq_true c3; have c3b1 : decide (5 ≤ 35184372088832) = true := decide_eq_true c3; clear c3; obtain ⟨y159, hy159⟩ : ∃ y_ : List Int, y_ = (List.replicate 5 0) := ⟨_, rfl⟩
   replace H : (some (a0, 1, 0, y159, ([] : List (S78)))) = some (r1, r2, r3, r4, r5) := by first | (rw [hy159]; with_reducible exact H) | (have H2_ := (Option.bind_some _ _).symm.trans H; rw [hy159]; with_reducible exact H2_) | (have H2_ := (Option.bind_some _ _).symm.trans H; with_reducible exact H2_) | with_reducible exact H | (rw [hy159]; exact H) | exact H
   have Ny159 := Aside0.mk hy159; clear hy159; simp only [Option.some.injEq, Prod.mk.injEq] at H; obtain ⟨rfl, rfl, rfl, rfl, rfl⟩ := H
   go_enter Try.func63, Try.ntmps63
   go_wp2_with (first | ((with_reducible refine gate_dst (N := 2) rfl ?_); refine box_event ?hg (N := 2) ?hd (cs := #[.int .i64 0, .int .i64 0, .int .i64 0, .slice none 0 0, .slice none 0 0]) (t := 28) ?hr ?_; (case hd => rfl); (case hg => rfl); (case hr => first | (go_simp; done) | (go_simp; rfl)); intro gb158 hg w4 hbox hb; have n0_ := Aside0.mk (below_step (by repeat (first | (with_reducible first | exact HB.out | apply wA | apply wN | apply wD) | exact HB.out)) hb); have n1_ := Aside0.mk (hbox); have n2_ := Aside0.mk ((by rw [hg]; exact (below_size (by repeat (first | (with_reducible first | exact HB.out | apply wA | apply wN | apply wD) | exact HB.out))) : w.heap.size ≤ gb158)); have n3_ := Aside0.mk ((by rw [hg]; exact (below_size (by repeat (first | (with_reducible first | exact HB.out | apply wA | apply wN | apply wD) | exact HB.out))) : w.heap.size ≤ gb158)); clear HB; have HB := n0_; have BK158 := n1_; have GW158 := n2_; have GE158 := n3_; clear n0_ n1_ n2_ n3_; clear hb hbox hg) | ((with_reducible refine gate_dst (N := 7) rfl ?_); refine Kd.R_make (Kd.int .i64) _ 3 rfl (N := 7) rfl 25 _ _ rfl 5 rfl rfl Try.underlying25 (.int .i64 0) 8 info3 rfl (by decide) (by omega) 0 (ok := fun _ => True) (okp := fun _ => True) rfl (fun _ hk => hk) trivial (by omega) (by omega) (Below.refl _ _) (Nat.le_refl _) ?_; intro v160 w5 ho6 hb hg_ hnew_; clear hg_ hnew_; (first | rw [← Ny159.out] at ho6 | (simp only [Int.reduceToNat] at ho6; rw [← Ny159.out] at ho6)); have n0_ := Aside0.mk (Kd.R_lower ho6 (below_size (by repeat (first | (with_reducible first | exact HB.out | apply wA | apply wN | apply wD | refine wS ?_ GE158.out) | exact HB.out)))); have n1_ := Aside0.mk (bB (g := gb158) (o := .cells #[.int .i64 0, .int .i64 0, .int .i64 0, .slice none 0 0, .slice none 0 0] 28 (0, 0)) (by (with_reducible repeat (first | refine bN ?_ _ | refine bD ?_ | refine bA ?_ _)); exact BK158.out) hb); have n2_ := Aside0.mk (below_step (by repeat (first | (with_reducible first | exact HB.out | apply wA | apply wN | apply wD | refine wS ?_ GE158.out) | exact HB.out)) hb); clear BK158; clear HB; have HO161 := n0_; have BK158 := n1_; have HB := n2_; clear n0_ n1_ n2_; clear hb ho6; obtain ⟨Ao7, co7, eo7⟩ := Kd.R_slice HO161.out; subst eo7; have hcz8_0 : w5.cell? ⟨gb158, 0, none⟩ = some (.int .i64 0) := (bC BK158.out 0).trans rfl; have hcz8_1 : w5.cell? ⟨gb158, 1, none⟩ = some (.int .i64 0) := (bC BK158.out 1).trans rfl; have hcz8_2 : w5.cell? ⟨gb158, 2, none⟩ = some (.int .i64 0) := (bC BK158.out 2).trans rfl; have hcz8_3 : w5.cell? ⟨gb158, 3, none⟩ = some (.slice none 0 0) := (bC BK158.out 3).trans rfl; have hcz8_4 : w5.cell? ⟨gb158, 4, none⟩ = some (.slice none 0 0) := (bC BK158.out 4).trans rfl; have hfz8_0 := bZ BK158.out 0; have hfz8_1 := bZ BK158.out 1; have hfz8_2 := bZ BK158.out 2; have hfz8_3 := bZ BK158.out 3; have hfz8_4 := bZ BK158.out 4))
   refine bodyPost_ret (results_cell_row rfl _ _ gb158 28 #[.int .i64 a0, .int .i64 1, .int .i64 0, .slice Ao7 y159.length co7, .slice none 0 0] (0, 0) _ rfl (by (with_reducible repeat (first | refine bN ?_ _ | refine bD ?_ | refine bA ?_ _)); refine blk_put (cs := #[.int .i64 a0, .int .i64 1, .int .i64 0, .slice Ao7 y159.length co7, .slice none 0 0]) ?_ 4 _ rfl; (with_reducible repeat (first | refine bN ?_ _ | refine bD ?_ | refine bA ?_ _)); refine blk_put (cs := #[.int .i64 a0, .int .i64 1, .int .i64 0, .slice none 0 0, .slice none 0 0]) ?_ 3 _ rfl; (with_reducible repeat (first | refine bN ?_ _ | refine bD ?_ | refine bA ?_ _)); refine blk_put (cs := #[.int .i64 a0, .int .i64 1, .int .i64 0, .slice none 0 0, .slice none 0 0]) ?_ 2 _ rfl; (with_reducible repeat (first | refine bN ?_ _ | refine bD ?_ | refine bA ?_ _)); refine blk_put (cs := #[.int .i64 a0, .int .i64 0, .int .i64 0, .slice none 0 0, .slice none 0 0]) ?_ 1 _ rfl; (with_reducible repeat (first | refine bN ?_ _ | refine bD ?_ | refine bA ?_ _)); refine blk_put (cs := #[.int .i64 0, .int .i64 0, .int .i64 0, .slice none 0 0, .slice none 0 0]) ?_ 0 _ rfl; (with_reducible repeat (first | refine bN ?_ _ | refine bD ?_ | refine bA ?_ _)); exact BK158.out) Try.underlying28 rfl (by kernel_rfl)) rfl ?_
   exact ⟨_, _, by first | rfl | exact congrArg (fun b_ => Ending.returned (Value.bool b_)) HRET.out | (rw [HRET.out]) | (simp [errW_none, errW_some] <;> rfl) | (simp [*, errW_none, errW_some] <;> rfl), by (with_reducible repeat (first | apply Kd.R_alloc | apply Kd.R_drewN | apply Kd.R_drew)); exact Kd.R_mono (Kd.R_far (p := ⟨gb158, 4, none⟩) (Kd.R_far (p := ⟨gb158, 3, none⟩) (Kd.R_far (p := ⟨gb158, 2, none⟩) (Kd.R_far (p := ⟨gb158, 1, none⟩) (Kd.R_far (p := ⟨gb158, 0, none⟩) (Kd.R_types HO161.out BK158.out (by decide)) (fun _ hk => hk.2) (.int .i64 a0)) (fun _ hk => hk.2) (.int .i64 1)) (fun _ hk => hk.2) (.int .i64 0)) (fun _ hk => hk.2) (.slice Ao7 y159.length co7)) (fun _ hk => hk.2) (.slice none 0 0)) (fun _ hk => trivial), by first | exact Kd.R_nil _ _ _ _ _ | exact Kd.N_nil _ _ _ _ _ | exact Kd.V_nil _ _ _ _ _ | exact Kd.Q_nil _ _ _ _ _ | exact Kd.S_nil _ _ _ _ _, by repeat (first | (with_reducible first | exact HB.out | apply wA | apply wN | apply wD | refine wS ?_ GE158.out) | exact HB.out)⟩
  ·
   rw [if_neg c3] at H; exact absurd H (by simp)
 ·
  rw [if_neg c2] at H; have c2b0 : (a0 == 1) = false := beq_eq_false_iff_ne.mpr c2; have c2b1 : (a0 != 1) = true := bne_iff_ne.mpr c2
  by_cases c9 : a0 = 2
  ·
   rw [if_pos c9] at H; have c9b0 : (a0 == 2) = true := beq_iff_eq.mpr c9; have c9b1 : (a0 != 2) = false := bne_eq_false_iff_eq.mpr c9; clear c9; simp only [Option.some.injEq, Prod.mk.injEq] at H; obtain ⟨rfl, rfl, rfl, rfl, rfl⟩ := H
   go_enter Try.func63, Try.ntmps63
   go_wp2_with (first | ((with_reducible refine gate_dst (N := 2) rfl ?_); refine box_event ?hg (N := 2) ?hd (cs := #[.int .i64 0, .int .i64 0, .int .i64 0, .slice none 0 0, .slice none 0 0]) (t := 28) ?hr ?_; (case hd => rfl); (case hg => rfl); (case hr => first | (go_simp; done) | (go_simp; rfl)); intro gb158 hg w10 hbox hb; have n0_ := Aside0.mk (below_step (by repeat (first | (with_reducible first | exact HB.out | apply wA | apply wN | apply wD) | exact HB.out)) hb); have n1_ := Aside0.mk (hbox); have n2_ := Aside0.mk ((by rw [hg]; exact (below_size (by repeat (first | (with_reducible first | exact HB.out | apply wA | apply wN | apply wD) | exact HB.out))) : w.heap.size ≤ gb158)); have n3_ := Aside0.mk ((by rw [hg]; exact (below_size (by repeat (first | (with_reducible first | exact HB.out | apply wA | apply wN | apply wD) | exact HB.out))) : w.heap.size ≤ gb158)); clear HB; have HB := n0_; have BK158 := n1_; have GW158 := n2_; have GE158 := n3_; clear n0_ n1_ n2_ n3_; clear hb hbox hg; have hcz11_0 : w10.cell? ⟨gb158, 0, none⟩ = some (.int .i64 0) := (bC BK158.out 0).trans rfl; have hcz11_1 : w10.cell? ⟨gb158, 1, none⟩ = some (.int .i64 0) := (bC BK158.out 1).trans rfl; have hcz11_2 : w10.cell? ⟨gb158, 2, none⟩ = some (.int .i64 0) := (bC BK158.out 2).trans rfl; have hcz11_3 : w10.cell? ⟨gb158, 3, none⟩ = some (.slice none 0 0) := (bC BK158.out 3).trans rfl; have hcz11_4 : w10.cell? ⟨gb158, 4, none⟩ = some (.slice none 0 0) := (bC BK158.out 4).trans rfl; have hfz11_0 := bZ BK158.out 0; have hfz11_1 := bZ BK158.out 1; have hfz11_2 := bZ BK158.out 2; have hfz11_3 := bZ BK158.out 3; have hfz11_4 := bZ BK158.out 4))
   refine bodyPost_ret (results_cell_row rfl _ _ gb158 28 #[.int .i64 a0, .int .i64 1, .int .i64 0, .slice none 0 0, .slice none 0 0] (0, 0) _ rfl (by (with_reducible repeat (first | refine bN ?_ _ | refine bD ?_ | refine bA ?_ _)); refine blk_put (cs := #[.int .i64 a0, .int .i64 1, .int .i64 0, .slice none 0 0, .slice none 0 0]) ?_ 4 _ rfl; (with_reducible repeat (first | refine bN ?_ _ | refine bD ?_ | refine bA ?_ _)); refine blk_put (cs := #[.int .i64 a0, .int .i64 1, .int .i64 0, .slice none 0 0, .slice none 0 0]) ?_ 3 _ rfl; (with_reducible repeat (first | refine bN ?_ _ | refine bD ?_ | refine bA ?_ _)); refine blk_put (cs := #[.int .i64 a0, .int .i64 1, .int .i64 0, .slice none 0 0, .slice none 0 0]) ?_ 2 _ rfl; (with_reducible repeat (first | refine bN ?_ _ | refine bD ?_ | refine bA ?_ _)); refine blk_put (cs := #[.int .i64 a0, .int .i64 0, .int .i64 0, .slice none 0 0, .slice none 0 0]) ?_ 1 _ rfl; (with_reducible repeat (first | refine bN ?_ _ | refine bD ?_ | refine bA ?_ _)); refine blk_put (cs := #[.int .i64 0, .int .i64 0, .int .i64 0, .slice none 0 0, .slice none 0 0]) ?_ 0 _ rfl; (with_reducible repeat (first | refine bN ?_ _ | refine bD ?_ | refine bA ?_ _)); exact BK158.out) Try.underlying28 rfl (by kernel_rfl)) rfl ?_
   exact ⟨_, _, by first | rfl | exact congrArg (fun b_ => Ending.returned (Value.bool b_)) HRET.out | (rw [HRET.out]) | (simp [errW_none, errW_some] <;> rfl) | (simp [*, errW_none, errW_some] <;> rfl), by first | exact Kd.R_nil _ _ _ _ _ | exact Kd.N_nil _ _ _ _ _ | exact Kd.V_nil _ _ _ _ _ | exact Kd.Q_nil _ _ _ _ _ | exact Kd.S_nil _ _ _ _ _, by first | exact Kd.R_nil _ _ _ _ _ | exact Kd.N_nil _ _ _ _ _ | exact Kd.V_nil _ _ _ _ _ | exact Kd.Q_nil _ _ _ _ _ | exact Kd.S_nil _ _ _ _ _, by repeat (first | (with_reducible first | exact HB.out | apply wA | apply wN | apply wD | refine wS ?_ GE158.out) | exact HB.out)⟩
  ·
   rw [if_neg c9] at H; have c9b0 : (a0 == 2) = false := beq_eq_false_iff_ne.mpr c9; have c9b1 : (a0 != 2) = true := bne_iff_ne.mpr c9; simp only [Option.some.injEq, Prod.mk.injEq] at H; obtain ⟨rfl, rfl, rfl, rfl, rfl⟩ := H
   go_enter Try.func63, Try.ntmps63
   go_wp2_with (first | ((with_reducible refine gate_dst (N := 2) rfl ?_); refine box_event ?hg (N := 2) ?hd (cs := #[.int .i64 0, .int .i64 0, .int .i64 0, .slice none 0 0, .slice none 0 0]) (t := 28) ?hr ?_; (case hd => rfl); (case hg => rfl); (case hr => first | (go_simp; done) | (go_simp; rfl)); intro gb158 hg w12 hbox hb; have n0_ := Aside0.mk (below_step (by repeat (first | (with_reducible first | exact HB.out | apply wA | apply wN | apply wD) | exact HB.out)) hb); have n1_ := Aside0.mk (hbox); have n2_ := Aside0.mk ((by rw [hg]; exact (below_size (by repeat (first | (with_reducible first | exact HB.out | apply wA | apply wN | apply wD) | exact HB.out))) : w.heap.size ≤ gb158)); have n3_ := Aside0.mk ((by rw [hg]; exact (below_size (by repeat (first | (with_reducible first | exact HB.out | apply wA | apply wN | apply wD) | exact HB.out))) : w.heap.size ≤ gb158)); clear HB; have HB := n0_; have BK158 := n1_; have GW158 := n2_; have GE158 := n3_; clear n0_ n1_ n2_ n3_; clear hb hbox hg; have hcz13_0 : w12.cell? ⟨gb158, 0, none⟩ = some (.int .i64 0) := (bC BK158.out 0).trans rfl; have hcz13_1 : w12.cell? ⟨gb158, 1, none⟩ = some (.int .i64 0) := (bC BK158.out 1).trans rfl; have hcz13_2 : w12.cell? ⟨gb158, 2, none⟩ = some (.int .i64 0) := (bC BK158.out 2).trans rfl; have hcz13_3 : w12.cell? ⟨gb158, 3, none⟩ = some (.slice none 0 0) := (bC BK158.out 3).trans rfl; have hcz13_4 : w12.cell? ⟨gb158, 4, none⟩ = some (.slice none 0 0) := (bC BK158.out 4).trans rfl; have hfz13_0 := bZ BK158.out 0; have hfz13_1 := bZ BK158.out 1; have hfz13_2 := bZ BK158.out 2; have hfz13_3 := bZ BK158.out 3; have hfz13_4 := bZ BK158.out 4))
   refine bodyPost_ret (results_cell_row rfl _ _ gb158 28 #[.int .i64 0, .int .i64 0, .int .i64 0, .slice none 0 0, .slice none 0 0] (0, 0) _ rfl (by (with_reducible repeat (first | refine bN ?_ _ | refine bD ?_ | refine bA ?_ _)); refine blk_put (cs := #[.int .i64 0, .int .i64 0, .int .i64 0, .slice none 0 0, .slice none 0 0]) ?_ 4 _ rfl; (with_reducible repeat (first | refine bN ?_ _ | refine bD ?_ | refine bA ?_ _)); refine blk_put (cs := #[.int .i64 0, .int .i64 0, .int .i64 0, .slice none 0 0, .slice none 0 0]) ?_ 3 _ rfl; (with_reducible repeat (first | refine bN ?_ _ | refine bD ?_ | refine bA ?_ _)); refine blk_put (cs := #[.int .i64 0, .int .i64 0, .int .i64 0, .slice none 0 0, .slice none 0 0]) ?_ 2 _ rfl; (with_reducible repeat (first | refine bN ?_ _ | refine bD ?_ | refine bA ?_ _)); refine blk_put (cs := #[.int .i64 0, .int .i64 0, .int .i64 0, .slice none 0 0, .slice none 0 0]) ?_ 1 _ rfl; (with_reducible repeat (first | refine bN ?_ _ | refine bD ?_ | refine bA ?_ _)); refine blk_put (cs := #[.int .i64 0, .int .i64 0, .int .i64 0, .slice none 0 0, .slice none 0 0]) ?_ 0 _ rfl; (with_reducible repeat (first | refine bN ?_ _ | refine bD ?_ | refine bA ?_ _)); exact BK158.out) Try.underlying28 rfl (by kernel_rfl)) rfl ?_
   exact ⟨_, _, by first | rfl | exact congrArg (fun b_ => Ending.returned (Value.bool b_)) HRET.out | (rw [HRET.out]) | (simp [errW_none, errW_some] <;> rfl) | (simp [*, errW_none, errW_some] <;> rfl), by first | exact Kd.R_nil _ _ _ _ _ | exact Kd.N_nil _ _ _ _ _ | exact Kd.V_nil _ _ _ _ _ | exact Kd.Q_nil _ _ _ _ _ | exact Kd.S_nil _ _ _ _ _, by first | exact Kd.R_nil _ _ _ _ _ | exact Kd.N_nil _ _ _ _ _ | exact Kd.V_nil _ _ _ _ _ | exact Kd.Q_nil _ _ _ _ _ | exact Kd.S_nil _ _ _ _ _, by repeat (first | (with_reducible first | exact HB.out | apply wA | apply wN | apply wD | refine wS ?_ GE158.out) | exact HB.out)⟩
end Go.Proofs.Ytkigiehkckjlhaa.PSums
