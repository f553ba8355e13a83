/- The Go functions that these laws reach, each as a Lean function with the same answers (a law itself where it answers true), and the proof that the code comes to them; conditions: those of each theorem. Laid by a program of this session over the print. -/
import Derived.Test.YtkigiehkckjlhaaPQuotax0
import Derived.Test.YtkigiehkckjlhaaPQuotax13
import Derived.Test.YtkigiehkckjlhaaPQuotax23
namespace Go.Proofs.Ytkigiehkckjlhaa.PQuota
open Go.RowKit Go.Proofs.YtkigiehkckjlhaaW.PrintWords Go.Proofs.YtkigiehkckjlhaaW.PrintLast Go.Proofs.YtkigiehkckjlhaaW.PrintMore
attribute [local go_sem] max2_int min2_int max_two min_two max_three min_three max_four min_four   -- for this text's walks alone
set_option linter.unusedVariables false
set_option linter.unusedSimpArgs false
open Go.Proofs.YtkigiehkckjlhaaW.PrintWords renaming blk_drewN → bN, blk_drew → bD, blk_alloc → bA, below_set → wS, below_alloc → wA, pw_below_drewN → wN, below_drew1 → wD, blk_below → bB, blk_far → bF, blk_cell → bC, blk_frozen → bZ
open List renaming setIfInBounds_toArray → lT, set_cons_zero → l0_, set_cons_succ → lS

/-! ### potsherdref12_Pieces: function 27 -/
def potsherdref12_Pieces.l0 : Nat → Int → Int → List (S41) → Option ((List (S41)))
 | 0, _, _, _ => none
 | k + 1, x0, x1, x5 => if x1 > 0 then (if x5.length < 5864062014805 then (potsherdref12_Pieces.l0 k (wrap64 (x0 + (mn x1 (wrap64 (16 - (Int.tmod x0 16)))))) (wrap64 (x1 - (mn x1 (wrap64 (16 - (Int.tmod x0 16)))))) (x5 ++ [(⟨wrap64 (Int.tdiv x0 16), Int.tmod x0 16, mn x1 (wrap64 (16 - (Int.tmod x0 16)))⟩ : S41)])) else (none)) else (some x5)
def potsherdref12_Pieces.f (k : Nat) (a0 : Int) (a1 : Int) : Option ((List (S41))) := (potsherdref12_FitsFile.f a0 a1).bind fun t220 => (if t220 = true then (potsherdref12_Pieces.l0 k a0 a1 ([] : List (S41))) else (some ([] : List (S41))))
theorem potsherdref12_Pieces.mono_l : ∀ k, (∀ y0 y1 y2, LeO (potsherdref12_Pieces.l0 k y0 y1 y2) (potsherdref12_Pieces.l0 (k + 1) y0 y1 y2))
 | 0 => fun _ _ _ r h => by simp [potsherdref12_Pieces.l0] at h
 | k + 1 => by
  have ih0 := potsherdref12_Pieces.mono_l k
  ·
   intro y0 y1 y2
   unfold potsherdref12_Pieces.l0
   repeat' first
   | (with_reducible exact ih0 _ _ _)
   | (with_reducible exact LeO.refl _)
   | (with_reducible exact LeO.none _)
   | (with_reducible refine LeO.ite ?_ ?_)
   | (with_reducible refine LeO.bind ?_ (fun _ => ?_))
   | exact ih0 _ _ _
   | exact LeO.none _
   | refine LeO.ite ?_ ?_
   | refine LeO.bind ?_ (fun _ => ?_)
theorem potsherdref12_Pieces.mono : ∀ a0 a1 k, LeO (potsherdref12_Pieces.f k a0 a1) (potsherdref12_Pieces.f (k + 1) a0 a1) := by
 intro a0 a1 k; have ih0 := potsherdref12_Pieces.mono_l k
 unfold potsherdref12_Pieces.f
 repeat' first
  | (with_reducible exact ih0 _ _ _)
  | (with_reducible exact LeO.refl _)
  | (with_reducible exact LeO.none _)
  | (with_reducible refine LeO.ite ?_ ?_)
  | (with_reducible refine LeO.bind ?_ (fun _ => ?_))
  | exact ih0 _ _ _
  | exact LeO.none _
  | refine LeO.ite ?_ ?_
  | refine LeO.bind ?_ (fun _ => ?_)
set_option maxHeartbeats 8000000 in
set_option maxRecDepth 100000 in
theorem potsherdref12_Pieces.calls (k : Nat) (a0 : Int) (a1 : Int) (r : List (S41)) (w : World) (h : potsherdref12_Pieces.f k a0 a1 = some r) :
 Calls Try.prog 27 #[.int .i64 a0, .int .i64 a1] w fun e w' => ∃ v0_ : Value, e = .returned (v0_) ∧ Kd.R k41 41 w' w.heap.size (fun _ => True) v0_ r ∧ Below w.heap.size w w' := by
 have hu41 := Try.underlying41; have HB := Aside0.mk (Below.refl w.heap.size w); have H : ((potsherdref12_FitsFile.f a0 a1).bind fun t220 => (if t220 = true then (potsherdref12_Pieces.l0 k a0 a1 ([] : List (S41))) else (some ([] : List (S41))))) = some r := h; clear h; replace H := Option.bind_eq_some_iff.mp H; obtain ⟨t220, A30, H⟩ := H; replace H : (if t220 = true then (potsherdref12_Pieces.l0 k a0 a1 ([] : List (S41))) else (some ([] : List (S41)))) = some r := H; have A3 := Aside0.mk A30; clear A30
 by_cases c4 : t220 = true
 ·
  subst c4
  have H1 : (potsherdref12_Pieces.l0 k a0 a1 ([] : List (S41))) = some r := by rw [if_pos rfl] at H; exact H
  clear H; have H := H1; clear H1; have H' := Aside0.mk H; clear H
  go_enter Try.func27, Try.ntmps27
  go_wp2_with (first | ((with_reducible refine gate_callee (f := 25) rfl ?_); refine goesL_ (some 10) rfl rfl Try.func25 (by kernel_rfl) rfl #[.int .i64 a0, .int .i64 a1] rfl (by (try simp only [List.map_toArray, List.map_cons, List.map_nil]); first | done | rfl | (simp only [List.length_drop, List.length_take]; rfl)) ?_; (with_reducible refine (potsherdref12_FitsFile.calls a0 a1 true _ A3.out).mono ?_); rintro e w' ⟨rfl, ⟨nd, rfl⟩⟩; refine ⟨_, rfl, ?_⟩))
  go_loopg [0, 1, 5] k (fun kq v0 v1 v5 w' => ∃ (x0_1 : Int) (x1_1 : Int) (x5_1 : List (S41)), v0 = .int .i64 x0_1 ∧ v1 = .int .i64 x1_1 ∧ Aside0 (potsherdref12_Pieces.l0 kq x0_1 x1_1 x5_1 = some r) ∧ Aside0 (kq ≤ k) ∧ Aside0 (Kd.R k41 41 w' w.heap.size (fun _ => True) v5 x5_1) ∧ Aside0 (Below w.heap.size w w'))
  case atStart => exact ⟨(a0), (a1), (([] : List (S41))), (by first | rfl | (simp; done) | (simp [*]; done)), (by first | rfl | (simp; done) | (simp [*]; done)), H', ⟨Nat.le_refl _⟩, ⟨by first | exact Kd.R_nil _ _ _ _ _ | exact Kd.N_nil _ _ _ _ _ | exact Kd.V_nil _ _ _ _ _ | exact Kd.Q_nil _ _ _ _ _ | exact Kd.S_nil _ _ _ _ _⟩, ⟨by repeat (first | (with_reducible first | exact HB.out | apply wA | apply wN | apply wD) | exact HB.out)⟩⟩
  case round =>
   clear H'
   try clear c2
   try clear p2
   try clear c4
   obtain ⟨x0_1, x1_1, x5_1, rfl, rfl, HA, HK1, HO_5, HB⟩ := hrel
   cases gk with
   | zero => exact absurd HA.out (by simp [potsherdref12_Pieces.l0])
   | succ k1 =>
    have H := HA.out; clear HA; simp only [potsherdref12_Pieces.l0] at H
    by_cases c5 : x1_1 > 0
    ·
     rw [if_pos c5] at H; have c5b0 : decide (0 < x1_1) = true := decide_eq_true c5; clear c5; obtain ⟨ji6, hji6⟩ : ∃ j_ : Int, (mn x1_1 (wrap64 (16 - (Int.tmod x0_1 16)))) = j_ := ⟨_, rfl⟩
     replace H : (if x5_1.length < 5864062014805 then (potsherdref12_Pieces.l0 k1 (wrap64 (x0_1 + (ji6))) (wrap64 (x1_1 - (ji6))) (x5_1 ++ [(⟨wrap64 (Int.tdiv x0_1 16), Int.tmod x0_1 16, ji6⟩ : S41)])) else (none)) = some r := by first | (rw [hji6] at H; exact H) | (simp only [hji6] at H ⊢; exact H)
     have hji6_ : (if (wrap64 (16 - (Int.tmod x0_1 16))) < x1_1 then (wrap64 (16 - (Int.tmod x0_1 16))) else x1_1) = ji6 := hji6
     by_cases c7 : x5_1.length < 5864062014805
     ·
      rw [if_pos c7] at H; have LMc7 := Aside0.mk c7; clear c7; obtain ⟨y221, hy221⟩ : ∃ y_ : List (S41), y_ = (x5_1 ++ [(⟨wrap64 (Int.tdiv x0_1 16), Int.tmod x0_1 16, ji6⟩ : S41)]) := ⟨_, rfl⟩
      replace H : (potsherdref12_Pieces.l0 k1 (wrap64 (x0_1 + (ji6))) (wrap64 (x1_1 - (ji6))) y221) = some r := by first | (rw [hy221]; with_reducible exact H) | (have H2_ := (Option.bind_some _ _).symm.trans H; rw [hy221]; with_reducible exact H2_) | (have H2_ := (Option.bind_some _ _).symm.trans H; with_reducible exact H2_) | with_reducible exact H | (rw [hy221]; exact H) | exact H
      have Ny221 := Aside0.mk hy221; clear hy221; have H' := Aside0.mk H; clear H
      go_wp2_with (first | ((with_reducible refine gate_builtin (b := .append) (xs := #[.tmp 20, .tmp 26]) rfl ?_); at_builtin; refine Kd.R_append k41 (w0 := w) w.heap.size rfl (.tmp 20) (.tmp 26) 38 41 (.agg #[(.int .i64 0), (.int .i64 0), (.int .i64 0)]) 24 rfl Try.underlying38 info41 rfl (by decide) (by omega) u5 x5_1 (⟨wrap64 (Int.tdiv x0_1 16), Int.tmod x0_1 16, ji6⟩ : S41) [.int .i64 (wrap64 (Int.tdiv x0_1 16)), .int .i64 (Int.tmod x0_1 16), .int .i64 ji6] (fun _ => True) (fun _ => False) rfl rfl ?aP (fun _ hk => hk.elim) ?aF ?aO ?aB ?aS ?aL ?_; (case aP => exact k41_mkM _ _ _ (⟨wrap64 (Int.tdiv x0_1 16), Int.tmod x0_1 16, ji6⟩ : S41)); (case aB => exact (by repeat (first | (with_reducible first | exact HB.out | apply wA | apply wN | apply wD) | exact HB.out))); (case aF => exact (fun _ _ => trivial)); (case aO => exact (by (with_reducible repeat (first | apply Kd.R_alloc | apply Kd.R_drewN | apply Kd.R_drew)); exact HO_5.out)); (case aS => exact (below_size (by repeat (first | (with_reducible first | exact HB.out | apply wA | apply wN | apply wD) | exact HB.out)))); (case aL => have := LMc7.out; omega); intro v222 w8 ho hb hg hat; rw [← Ny221.out] at ho; have n0_ := Aside0.mk (hb); have n1_ := Aside0.mk (ho); clear HB; clear HO_5; have HB := n0_; have HO223 := n1_; clear n0_ n1_; clear ho hb hg hat))
      go_roundg k1
      case measure => have := HK1.out; omega
      case rel => exact ⟨(wrap64 (x0_1 + (ji6))), (wrap64 (x1_1 - (ji6))), (y221), (by first | rfl | (simp; done) | (simp only [← hji6] <;> (first | rfl | simp)) | (simp [*]; done)), (by first | rfl | (simp; done) | (simp only [← hji6] <;> (first | rfl | simp)) | (simp [*]; done)), H', ⟨by have := HK1.out; omega⟩, ⟨by (with_reducible repeat (first | apply Kd.R_alloc | apply Kd.R_drewN | apply Kd.R_drew)); exact HO223.out⟩, ⟨by repeat (first | (with_reducible first | exact HB.out | apply wA | apply wN | apply wD) | exact HB.out)⟩⟩
     ·
      rw [if_neg c7] at H; exact absurd H (by simp)
    ·
     rw [if_neg c5] at H; have c5b0 : decide (0 < x1_1) = false := decide_eq_false c5; clear c5; obtain rfl := Option.some.inj H
     go_wp2
     go_ret
     exact ⟨_, by first | rfl | exact congrArg (fun b_ => Ending.returned (Value.bool b_)) HRET.out | (rw [HRET.out]) | (simp [errW_none, errW_some] <;> rfl) | (simp [*, errW_none, errW_some] <;> rfl), by (with_reducible repeat (first | apply Kd.R_alloc | apply Kd.R_drewN | apply Kd.R_drew)); exact HO_5.out, by repeat (first | (with_reducible first | exact HB.out | apply wA | apply wN | apply wD) | exact HB.out)⟩
 ·
  replace c4 := Bool.eq_false_iff.mpr c4; subst c4
  have H1 : (some ([] : List (S41))) = some r := by rw [if_neg (show ¬ (false = true) by decide)] at H; exact H
  clear H; have H := H1; clear H1; obtain rfl := Option.some.inj H
  go_enter Try.func27, Try.ntmps27
  go_wp2_with (first | ((with_reducible refine gate_callee (f := 25) rfl ?_); refine goesL_ (some 10) rfl rfl Try.func25 (by kernel_rfl) rfl #[.int .i64 a0, .int .i64 a1] rfl (by (try simp only [List.map_toArray, List.map_cons, List.map_nil]); first | done | rfl | (simp only [List.length_drop, List.length_take]; rfl)) ?_; (with_reducible refine (potsherdref12_FitsFile.calls a0 a1 false _ A3.out).mono ?_); rintro e w' ⟨rfl, ⟨nd, rfl⟩⟩; refine ⟨_, rfl, ?_⟩))
  go_ret
  exact ⟨_, by first | rfl | exact congrArg (fun b_ => Ending.returned (Value.bool b_)) HRET.out | (rw [HRET.out]) | (simp [errW_none, errW_some] <;> rfl) | (simp [*, errW_none, errW_some] <;> rfl), by first | exact Kd.R_nil _ _ _ _ _ | exact Kd.N_nil _ _ _ _ _ | exact Kd.V_nil _ _ _ _ _ | exact Kd.Q_nil _ _ _ _ _ | exact Kd.S_nil _ _ _ _ _, by repeat (first | (with_reducible first | exact HB.out | apply wA | apply wN | apply wD) | exact HB.out)⟩

/-! ### potsherdref12_More: function 23 -/
mutual
def potsherdref12_More.j0 : Nat → Int → Int → Int → Bool → Int → Int → Int → List Int → List (S78) → Option (Int)
 | 0, _, _, _, _, _, _, _, _, _ => none
 | k + 1, x1, x2, x7, x17, x225000, x225001, x225002, x225003, x225004 => if x17 = true then (some 0) else ((potsherdref12_Pieces.f k x1 x2).bind fun t226 => (potsherdref12_More.l0 k x7 t226 (t226.length : Int) 0 x225000 x225001 x225002 x225003 x225004))
def potsherdref12_More.l0 : Nat → Int → List (S41) → Int → Int → Int → Int → Int → List Int → List (S78) → Option (Int)
 | 0, _, _, _, _, _, _, _, _, _ => none
 | k + 1, x7, x20, x21, x22, x225000, x225001, x225002, x225003, x225004 => if x22 < x21 then (if 0 ≤ x22 then (if x22 < (x20.length : Int) then (if 0 ≤ ((rd_T41 x20 x22).f0) then (if ((rd_T41 x20 x22).f0) < (x225003.length : Int) then (if (rd x225003 ((rd_T41 x20 x22).f0)) = 0 then (potsherdref12_More.l0 k (wrap64 (x7 + 1)) x20 x21 (wrap64 (x22 + 1)) x225000 x225001 x225002 x225003 x225004) else (potsherdref12_More.l0 k x7 x20 x21 (wrap64 (x22 + 1)) x225000 x225001 x225002 x225003 x225004)) else (none)) else (none)) else (none)) else (none)) else (some x7)
end
def potsherdref12_More.f (k : Nat) (a0_0 : Int) (a0_1 : Int) (a0_2 : Int) (l0_3 : List Int) (l0_4 : List (S78)) (a1 : Int) (a2 : Int) : Option (Int) := if a0_0 = 1 then ((potsherdref12_MayNode.f k a0_0 a0_1 a0_2 l0_3 l0_4).bind fun t225 => (potsherdref12_More.j0 k a1 a2 0 (!t225) a0_0 a0_1 a0_2 l0_3 l0_4)) else (potsherdref12_More.j0 k a1 a2 0 true a0_0 a0_1 a0_2 l0_3 l0_4)
theorem potsherdref12_More.mono_l : ∀ k, (∀ y0 y1 y2 y3 y4 y5 y6 y7 y8, LeO (potsherdref12_More.j0 k y0 y1 y2 y3 y4 y5 y6 y7 y8) (potsherdref12_More.j0 (k + 1) y0 y1 y2 y3 y4 y5 y6 y7 y8)) ∧ (∀ y0 y1 y2 y3 y4 y5 y6 y7 y8, LeO (potsherdref12_More.l0 k y0 y1 y2 y3 y4 y5 y6 y7 y8) (potsherdref12_More.l0 (k + 1) y0 y1 y2 y3 y4 y5 y6 y7 y8))
 | 0 => ⟨fun _ _ _ _ _ _ _ _ _ r h => by simp [potsherdref12_More.j0] at h, fun _ _ _ _ _ _ _ _ _ r h => by simp [potsherdref12_More.l0] at h⟩
 | k + 1 => by
  obtain ⟨ih0, ih1⟩ := potsherdref12_More.mono_l k; refine ⟨?_, ?_⟩
  ·
   intro y0 y1 y2 y3 y4 y5 y6 y7 y8
   unfold potsherdref12_More.j0
   repeat' first
   | (with_reducible exact ih0 _ _ _ _ _ _ _ _ _)
   | (with_reducible exact ih1 _ _ _ _ _ _ _ _ _)
   | (with_reducible exact potsherdref12_MayNode.mono _ _ _ _ _ _)
   | (with_reducible exact potsherdref12_Pieces.mono _ _ _)
   | (with_reducible exact LeO.refl _)
   | (with_reducible exact LeO.none _)
   | (with_reducible refine LeO.ite ?_ ?_)
   | (with_reducible refine LeO.bind ?_ (fun _ => ?_))
   | exact ih0 _ _ _ _ _ _ _ _ _
   | exact ih1 _ _ _ _ _ _ _ _ _
   | exact potsherdref12_MayNode.mono _ _ _ _ _ _
   | exact potsherdref12_Pieces.mono _ _ _
   | exact LeO.none _
   | refine LeO.ite ?_ ?_
   | refine LeO.bind ?_ (fun _ => ?_)
  ·
   intro y0 y1 y2 y3 y4 y5 y6 y7 y8
   unfold potsherdref12_More.l0
   repeat' first
   | (with_reducible exact ih0 _ _ _ _ _ _ _ _ _)
   | (with_reducible exact ih1 _ _ _ _ _ _ _ _ _)
   | (with_reducible exact potsherdref12_MayNode.mono _ _ _ _ _ _)
   | (with_reducible exact potsherdref12_Pieces.mono _ _ _)
   | (with_reducible exact LeO.refl _)
   | (with_reducible exact LeO.none _)
   | (with_reducible refine LeO.ite ?_ ?_)
   | (with_reducible refine LeO.bind ?_ (fun _ => ?_))
   | exact ih0 _ _ _ _ _ _ _ _ _
   | exact ih1 _ _ _ _ _ _ _ _ _
   | exact potsherdref12_MayNode.mono _ _ _ _ _ _
   | exact potsherdref12_Pieces.mono _ _ _
   | exact LeO.none _
   | refine LeO.ite ?_ ?_
   | refine LeO.bind ?_ (fun _ => ?_)
theorem potsherdref12_More.mono : ∀ a0 a1 a2 a3 a4 a5 a6 k, LeO (potsherdref12_More.f k a0 a1 a2 a3 a4 a5 a6) (potsherdref12_More.f (k + 1) a0 a1 a2 a3 a4 a5 a6) := by
 intro a0 a1 a2 a3 a4 a5 a6 k; obtain ⟨ih0, ih1⟩ := potsherdref12_More.mono_l k
 unfold potsherdref12_More.f
 repeat' first
  | (with_reducible exact ih0 _ _ _ _ _ _ _ _ _)
  | (with_reducible exact ih1 _ _ _ _ _ _ _ _ _)
  | (with_reducible exact potsherdref12_MayNode.mono _ _ _ _ _ _)
  | (with_reducible exact potsherdref12_Pieces.mono _ _ _)
  | (with_reducible exact LeO.refl _)
  | (with_reducible exact LeO.none _)
  | (with_reducible refine LeO.ite ?_ ?_)
  | (with_reducible refine LeO.bind ?_ (fun _ => ?_))
  | exact ih0 _ _ _ _ _ _ _ _ _
  | exact ih1 _ _ _ _ _ _ _ _ _
  | exact potsherdref12_MayNode.mono _ _ _ _ _ _
  | exact potsherdref12_Pieces.mono _ _ _
  | exact LeO.none _
  | refine LeO.ite ?_ ?_
  | refine LeO.bind ?_ (fun _ => ?_)
set_option maxHeartbeats 8000000 in
set_option maxRecDepth 100000 in
theorem potsherdref12_More.calls (k : Nat) (a0_0 : Int) (a0_1 : Int) (a0_2 : Int) (A0_3 : Option Addr) (c0_3 : Nat) (l0_3 : List Int) (A0_4 : Option Addr) (c0_4 : Nat) (l0_4 : List (S78)) (a1 : Int) (a2 : Int) (r : Int) (w : World) (hr0_3 : Kd.C (Kd.int .i64) w A0_3 l0_3.length l0_3) (hc0_3 : l0_3.length ≤ c0_3) (hr0_4 : Kd.C k78 w A0_4 l0_4.length l0_4) (hc0_4 : l0_4.length ≤ c0_4) (h : potsherdref12_More.f k a0_0 a0_1 a0_2 l0_3 l0_4 a1 a2 = some r) :
 Calls Try.prog 23 #[.agg #[.int .i64 a0_0, .int .i64 a0_1, .int .i64 a0_2, .slice A0_3 l0_3.length c0_3, .slice A0_4 l0_4.length c0_4], .int .i64 a1, .int .i64 a2] w fun e w' => e = .returned (.int .i64 r) ∧ Below w.heap.size w w' := by
 have hu28 := Try.underlying28; have hu41 := Try.underlying41; have HR0_3 := Aside0.mk hr0_3; have HC0_3 := Aside0.mk hc0_3; clear hr0_3 hc0_3; have HR0_4 := Aside0.mk hr0_4; have HC0_4 := Aside0.mk hc0_4; clear hr0_4 hc0_4; have HB := Aside0.mk (Below.refl w.heap.size w); have H : (if a0_0 = 1 then ((potsherdref12_MayNode.f k a0_0 a0_1 a0_2 l0_3 l0_4).bind fun t225 => (potsherdref12_More.j0 k a1 a2 0 (!t225) a0_0 a0_1 a0_2 l0_3 l0_4)) else (potsherdref12_More.j0 k a1 a2 0 true a0_0 a0_1 a0_2 l0_3 l0_4)) = some r := h; clear h; have HC4 := Aside0.mk H; clear H
 go_enter Try.func23, Try.ntmps23
 go_upto_region 2 with (first | ((with_reducible refine gate_dst (N := 3) rfl ?_); refine box_event ?hg (N := 3) ?hd (cs := #[.int .i64 a0_0, .int .i64 a0_1, .int .i64 a0_2, .slice A0_3 l0_3.length c0_3, .slice A0_4 l0_4.length c0_4]) (t := 28) ?hr ?_; (case hd => rfl); (case hg => rfl); (case hr => first | (go_simp; done) | (go_simp; rfl)); intro gb224 hg w5 hbox hb; have n0_ := Aside0.mk (below_step (by repeat (first | (with_reducible first | exact HB.out | apply wA | apply wN | apply wD) | exact HB.out)) hb); have n1_ := Aside0.mk (hbox); have n2_ := Aside0.mk ((by rw [hg]; exact (below_size (by repeat (first | (with_reducible first | exact HB.out | apply wA | apply wN | apply wD) | exact HB.out))) : w.heap.size ≤ gb224)); have n3_ := Aside0.mk ((by rw [hg]; exact (below_size (by repeat (first | (with_reducible first | exact HB.out | apply wA | apply wN | apply wD) | exact HB.out))) : w.heap.size ≤ gb224)); clear HB; have HB := n0_; have BK224 := n1_; have GW224 := n2_; have GE224 := n3_; clear n0_ n1_ n2_ n3_; clear hb hbox hg))
 (try simp only [Act.put, lT, l0_, lS])
 go_cut [17] (fun v17 wc => ∃ (kq : Nat) (x17_3 : Bool), v17 = .bool x17_3 ∧ Aside0 (potsherdref12_More.j0 kq a1 a2 0 x17_3 a0_0 a0_1 a0_2 l0_3 l0_4 = some r) ∧ Aside0 (kq ≤ k) ∧ Aside0 (wc.heap[gb224]? = some (.cells #[.int .i64 a0_0, .int .i64 a0_1, .int .i64 a0_2, (.slice A0_3 l0_3.length c0_3), (.slice A0_4 l0_4.length c0_4)] 28 (0, 0))) ∧ Aside0 (Below w.heap.size w wc))
 case first =>
  have H := HC4.out; clear HC4
  by_cases c6 : a0_0 = 1
  ·
   rw [if_pos c6] at H; have c6b0 : (a0_0 == 1) = true := beq_iff_eq.mpr c6; have c6b1 : (a0_0 != 1) = false := bne_eq_false_iff_eq.mpr c6; clear c6
   (first | rw [c6b0] | (simp only [i64_w, i32_w]; rw [c6b0]) | skip)
   replace H := Option.bind_eq_some_iff.mp H; obtain ⟨t225, A70, H⟩ := H; replace H : (potsherdref12_More.j0 k a1 a2 0 (!t225) a0_0 a0_1 a0_2 l0_3 l0_4) = some r := H; have A7 := Aside0.mk A70; clear A70; have H' := Aside0.mk H; clear H; have hcz8_0 : w5.cell? ⟨gb224, 0, none⟩ = some (.int .i64 a0_0) := (bC BK224.out 0).trans rfl; have hcz8_1 : w5.cell? ⟨gb224, 1, none⟩ = some (.int .i64 a0_1) := (bC BK224.out 1).trans rfl; have hcz8_2 : w5.cell? ⟨gb224, 2, none⟩ = some (.int .i64 a0_2) := (bC BK224.out 2).trans rfl; have hcz8_3 : w5.cell? ⟨gb224, 3, none⟩ = some (.slice A0_3 l0_3.length c0_3) := (bC BK224.out 3).trans rfl; have hcz8_4 : w5.cell? ⟨gb224, 4, none⟩ = some (.slice A0_4 l0_4.length c0_4) := (bC BK224.out 4).trans rfl; have hfz8_0 := bZ BK224.out 0; have hfz8_1 := bZ BK224.out 1; have hfz8_2 := bZ BK224.out 2; have hfz8_3 := bZ BK224.out 3; have hfz8_4 := bZ BK224.out 4
   go_wp2_with (first | (go_at_call 24; (with_reducible refine (potsherdref12_MayNode.calls k a0_0 a0_1 a0_2 _ _ l0_3 _ _ l0_4 t225 _ ?side1 ?side2 ?side3 ?side4 A7.out).mono ?_); (case side1 => repeat (first | exact (Kd.C_below HR0_3.out HB.out) | (with_reducible refine Kd.C_alloc ?_ _) | (with_reducible refine Kd.C_drewN ?_ _) | (with_reducible refine Kd.C_drew ?_))); (case side2 => exact HC0_3.out); (case side3 => repeat (first | exact (Kd.C_below HR0_4.out HB.out) | (with_reducible refine Kd.C_alloc ?_ _) | (with_reducible refine Kd.C_drewN ?_ _) | (with_reducible refine Kd.C_drew ?_))); (case side4 => exact HC0_4.out); rintro e w9 ⟨rfl, hb⟩; have n0_ := Aside0.mk (bB (g := gb224) (o := .cells #[.int .i64 a0_0, .int .i64 a0_1, .int .i64 a0_2, .slice A0_3 l0_3.length c0_3, .slice A0_4 l0_4.length c0_4] 28 (0, 0)) (by (with_reducible repeat (first | refine bN ?_ _ | refine bD ?_ | refine bA ?_ _)); exact BK224.out) hb); have n1_ := Aside0.mk (below_step (by repeat (first | (with_reducible first | exact HB.out | apply wA | apply wN | apply wD | refine wS ?_ GE224.out) | exact HB.out)) hb); clear BK224; clear HB; have BK224 := n0_; have HB := n1_; clear n0_ n1_; (try clear hb); (try clear hb2); (try clear hk); (try clear hi)))
   go_meet
   case rel => exact ⟨_, (!t225), (by first | rfl | (simp; done) | (simp [*]; done)), H', ⟨by first | omega | exact Nat.le_refl _⟩, ⟨by (with_reducible repeat (first | refine bN ?_ _ | refine bD ?_ | refine bA ?_ _)); exact BK224.out⟩, ⟨by repeat (first | (with_reducible first | exact HB.out | apply wA | apply wN | apply wD | refine wS ?_ GE224.out) | exact HB.out)⟩⟩
  ·
   rw [if_neg c6] at H; have c6b0 : (a0_0 == 1) = false := beq_eq_false_iff_ne.mpr c6; have c6b1 : (a0_0 != 1) = true := bne_iff_ne.mpr c6
   (first | rw [c6b0] | (simp only [i64_w, i32_w]; rw [c6b0]) | skip)
   have H' := Aside0.mk H; clear H; have hcz10_0 : w5.cell? ⟨gb224, 0, none⟩ = some (.int .i64 a0_0) := (bC BK224.out 0).trans rfl; have hcz10_1 : w5.cell? ⟨gb224, 1, none⟩ = some (.int .i64 a0_1) := (bC BK224.out 1).trans rfl; have hcz10_2 : w5.cell? ⟨gb224, 2, none⟩ = some (.int .i64 a0_2) := (bC BK224.out 2).trans rfl; have hcz10_3 : w5.cell? ⟨gb224, 3, none⟩ = some (.slice A0_3 l0_3.length c0_3) := (bC BK224.out 3).trans rfl; have hcz10_4 : w5.cell? ⟨gb224, 4, none⟩ = some (.slice A0_4 l0_4.length c0_4) := (bC BK224.out 4).trans rfl; have hfz10_0 := bZ BK224.out 0; have hfz10_1 := bZ BK224.out 1; have hfz10_2 := bZ BK224.out 2; have hfz10_3 := bZ BK224.out 3; have hfz10_4 := bZ BK224.out 4
   go_wp2
   go_meet
   case rel => exact ⟨_, (true), (by first | rfl | (simp; done) | (simp [*]; done)), H', ⟨by first | omega | exact Nat.le_refl _⟩, ⟨by (with_reducible repeat (first | refine bN ?_ _ | refine bD ?_ | refine bA ?_ _)); exact BK224.out⟩, ⟨by repeat (first | (with_reducible first | exact HB.out | apply wA | apply wN | apply wD | refine wS ?_ GE224.out) | exact HB.out)⟩⟩
 case rest =>
  clear HC4
  try clear c2
  try clear p2
  try clear c6
  try clear c6b0
  try clear c6b1
  try clear hcz10_0
  try clear hcz10_1
  try clear hcz10_2
  try clear hcz10_3
  try clear hcz10_4
  try clear hcz8_0
  try clear hcz8_1
  try clear hcz8_2
  try clear hcz8_3
  try clear hcz8_4
  try clear hfz10_0
  try clear hfz10_1
  try clear hfz10_2
  try clear hfz10_3
  try clear hfz10_4
  try clear hfz8_0
  try clear hfz8_1
  try clear hfz8_2
  try clear hfz8_3
  try clear hfz8_4
  obtain ⟨kq, x17_3, rfl, HA, HJ3, BK224, HB⟩ := hcut
  cases kq with
  | zero => exact absurd HA.out (by simp [potsherdref12_More.j0])
  | succ kj3 =>
   have H := HA.out; clear HA; simp only [potsherdref12_More.j0] at H
   by_cases c11 : x17_3 = true
   ·
    subst c11
    have H1 : (some 0) = some r := by rw [if_pos rfl] at H; exact H
    clear H; have H := H1; clear H1; obtain rfl := Option.some.inj H
    go_wp2
    go_ret
    exact ⟨by first | rfl | exact congrArg (fun b_ => Ending.returned (Value.bool b_)) HRET.out | (rw [HRET.out]) | (simp [errW_none, errW_some] <;> rfl) | (simp [*, errW_none, errW_some] <;> rfl), by repeat (first | (with_reducible first | exact HB.out | apply wA | apply wN | apply wD | refine wS ?_ GE224.out) | exact HB.out)⟩
   ·
    replace c11 := Bool.eq_false_iff.mpr c11; subst c11
    have H1 : ((potsherdref12_Pieces.f kj3 a1 a2).bind fun t226 => (potsherdref12_More.l0 kj3 0 t226 (t226.length : Int) 0 a0_0 a0_1 a0_2 l0_3 l0_4)) = some r := by rw [if_neg (show ¬ (false = true) by decide)] at H; exact H
    clear H; have H := H1; clear H1; replace H := Option.bind_eq_some_iff.mp H; obtain ⟨t226, A120, H⟩ := H; replace H : (potsherdref12_More.l0 kj3 0 t226 (t226.length : Int) 0 a0_0 a0_1 a0_2 l0_3 l0_4) = some r := H; have A12 := Aside0.mk A120; clear A120; have H' := Aside0.mk H; clear H
    go_wp2_with (first | ((with_reducible refine gate_callee (f := 27) rfl ?_); refine goesL_ (some 20) rfl rfl Try.func27 (by kernel_rfl) rfl #[.int .i64 a1, .int .i64 a2] rfl (by (try simp only [List.map_toArray, List.map_cons, List.map_nil]); first | done | rfl | (simp only [List.length_drop, List.length_take]; rfl)) ?_; (with_reducible refine (potsherdref12_Pieces.calls kj3 a1 a2 t226 _ A12.out).mono ?_); rintro e w13 ⟨v227, rfl, ho0, hb⟩; refine ⟨_, rfl, ?_⟩; have n0_ := Aside0.mk (Kd.R_lower ho0 (below_size (by repeat (first | (with_reducible first | exact HB.out | apply wA | apply wN | apply wD | refine wS ?_ GE224.out) | exact HB.out)))); have n1_ := Aside0.mk (bB (g := gb224) (o := .cells #[.int .i64 a0_0, .int .i64 a0_1, .int .i64 a0_2, .slice A0_3 l0_3.length c0_3, .slice A0_4 l0_4.length c0_4] 28 (0, 0)) (by (with_reducible repeat (first | refine bN ?_ _ | refine bD ?_ | refine bA ?_ _)); exact BK224.out) hb); have n2_ := Aside0.mk (below_step (by repeat (first | (with_reducible first | exact HB.out | apply wA | apply wN | apply wD | refine wS ?_ GE224.out) | exact HB.out)) hb); clear BK224; clear HB; have HO228 := n0_; have BK224 := n1_; have HB := n2_; clear n0_ n1_ n2_; (try clear hb); (try clear hb2); (try clear hk); (try clear hi); (try clear ho0); obtain ⟨Ao14, co14, eo14⟩ := Kd.R_slice HO228.out; subst eo14))
    go_loopg [7, 22] kj3 (fun kq v7 v22 w' => ∃ (x7_2 : Int) (x22_2 : Int), v7 = .int .i64 x7_2 ∧ v22 = .int .i64 x22_2 ∧ Aside0 (potsherdref12_More.l0 kq x7_2 t226 (t226.length : Int) x22_2 a0_0 a0_1 a0_2 l0_3 l0_4 = some r) ∧ Aside0 (kq ≤ kj3) ∧ Aside0 (Kd.R k41 41 w' w.heap.size (fun _ => True) (.slice Ao14 t226.length co14) t226) ∧ Aside0 (w'.heap[gb224]? = some (.cells #[.int .i64 a0_0, .int .i64 a0_1, .int .i64 a0_2, (.slice A0_3 l0_3.length c0_3), (.slice A0_4 l0_4.length c0_4)] 28 (0, 0))) ∧ Aside0 (Below w.heap.size w w'))
    case atStart => exact ⟨(0), (0), (by first | rfl | (simp; done) | (simp [*]; done)), (by first | rfl | (simp; done) | (simp [*]; done)), H', ⟨Nat.le_refl _⟩, ⟨by (with_reducible repeat (first | apply Kd.R_alloc | apply Kd.R_drewN | apply Kd.R_drew)); exact HO228.out⟩, ⟨by (with_reducible repeat (first | refine bN ?_ _ | refine bD ?_ | refine bA ?_ _)); exact BK224.out⟩, ⟨by repeat (first | (with_reducible first | exact HB.out | apply wA | apply wN | apply wD | refine wS ?_ GE224.out) | exact HB.out)⟩⟩
    case round =>
     clear H'
     try clear c1
     try clear c2
     try clear p2
     try clear c6
     try clear c6b0
     try clear c6b1
     try clear c11
     try clear hcz10_0
     try clear hcz10_1
     try clear hcz10_2
     try clear hcz10_3
     try clear hcz10_4
     try clear hcz8_0
     try clear hcz8_1
     try clear hcz8_2
     try clear hcz8_3
     try clear hcz8_4
     try clear hfz10_0
     try clear hfz10_1
     try clear hfz10_2
     try clear hfz10_3
     try clear hfz10_4
     try clear hfz8_0
     try clear hfz8_1
     try clear hfz8_2
     try clear hfz8_3
     try clear hfz8_4
     try clear p2
     obtain ⟨x7_2, x22_2, rfl, rfl, HA, HK2, HO_20, BK224, HB⟩ := hrel
     cases gk with
     | zero => exact absurd HA.out (by simp [potsherdref12_More.l0])
     | succ k2 =>
      have H := HA.out; clear HA; simp only [potsherdref12_More.l0] at H
      by_cases c15 : x22_2 < (t226.length : Int)
      ·
       rw [if_pos c15] at H; have c15b0 : decide (x22_2 < (t226.length : Int)) = true := decide_eq_true c15; clear c15
       by_cases c16 : 0 ≤ x22_2
       ·
        rw [if_pos c16] at H; have c16b0 : decide (0 ≤ x22_2) = true := decide_eq_true c16; clear c16
        by_cases c17 : x22_2 < (t226.length : Int)
        ·
         rw [if_pos c17] at H; have c17b0 : decide (x22_2 < (t226.length : Int)) = true := decide_eq_true c17; clear c17
         by_cases c18 : 0 ≤ ((rd_T41 t226 x22_2).f0)
         ·
          rw [if_pos c18] at H; have c18b0 : decide (0 ≤ ((rd_T41 t226 x22_2).f0)) = true := decide_eq_true c18; clear c18
          by_cases c19 : ((rd_T41 t226 x22_2).f0) < (l0_3.length : Int)
          ·
           rw [if_pos c19] at H; have c19b0 : decide (((rd_T41 t226 x22_2).f0) < (l0_3.length : Int)) = true := decide_eq_true c19; clear c19
           by_cases c20 : (rd l0_3 ((rd_T41 t226 x22_2).f0)) = 0
           ·
            rw [if_pos c20] at H; have c20b0 : ((rd l0_3 ((rd_T41 t226 x22_2).f0)) == 0) = true := beq_iff_eq.mpr c20; have c20b1 : ((rd l0_3 ((rd_T41 t226 x22_2).f0)) != 0) = false := bne_eq_false_iff_eq.mpr c20; clear c20; have H' := Aside0.mk H; clear H; have p229 : 0 ≤ (x22_2 : Int) := of_decide_eq_true (by first | (with_reducible assumption) | assumption); have q229 : x22_2 < (t226.length : Int) := of_decide_eq_true (by first | (with_reducible assumption) | assumption); obtain ⟨ad229, e229, hx229_0, hx229_1, hx229_2⟩ := at_T41 (Kd.R_reads' HO_20.out).2.2 x22_2 p229 q229
            cases e229
            replace p229 := eq_true p229; replace q229 := eq_true q229
            go_wp2_with (first | ((with_reducible refine gate_dst (N := 9) rfl ?_); refine box_event ?hg (N := 9) ?hd (cs := #[.int .i64 0, .int .i64 0, .int .i64 0]) (t := 41) ?hr ?_; (case hd => rfl); (case hg => rfl); (case hr => first | (go_simp; done) | (go_simp; rfl)); intro gb230 hg w21 hbox hb; have n0_ := Aside0.mk (Kd.R_below (Kd.R_elderB (by (with_reducible repeat (first | apply Kd.R_alloc | apply Kd.R_drewN | apply Kd.R_drew)); exact HO_20.out) gb230 (Nat.le_of_eq hg.symm)) hb); have n1_ := Aside0.mk (bB (g := gb224) (o := .cells #[.int .i64 a0_0, .int .i64 a0_1, .int .i64 a0_2, .slice A0_3 l0_3.length c0_3, .slice A0_4 l0_4.length c0_4] 28 (0, 0)) (by (with_reducible repeat (first | refine bN ?_ _ | refine bD ?_ | refine bA ?_ _)); exact BK224.out) hb); have n2_ := Aside0.mk (below_step (by repeat (first | (with_reducible first | exact HB.out | apply wA | apply wN | apply wD | refine wS ?_ GE224.out) | exact HB.out)) hb); have n3_ := Aside0.mk (hbox); have n4_ := Aside0.mk ((by rw [hg]; exact (below_size (by repeat (first | (with_reducible first | exact HB.out | apply wA | apply wN | apply wD | refine wS ?_ GE224.out) | exact HB.out))) : w.heap.size ≤ gb230)); have n5_ := Aside0.mk ((by rw [hg]; exact (below_size (by repeat (first | (with_reducible first | exact HB.out | apply wA | apply wN | apply wD | refine wS ?_ GE224.out) | exact HB.out))) : w.heap.size ≤ gb230)); have n6_ := Aside0.mk ((by rw [hg]; exact Nat.ne_of_lt (blk_lt (g := gb224) (o := .cells #[.int .i64 a0_0, .int .i64 a0_1, .int .i64 a0_2, .slice A0_3 l0_3.length c0_3, .slice A0_4 l0_4.length c0_4] 28 (0, 0)) (by (with_reducible repeat (first | refine bN ?_ _ | refine bD ?_ | refine bA ?_ _)); exact BK224.out)) : gb224 ≠ gb230)); have n7_ := Aside0.mk ((by rw [hg]; exact Nat.ne_of_gt (blk_lt (g := gb224) (o := .cells #[.int .i64 a0_0, .int .i64 a0_1, .int .i64 a0_2, .slice A0_3 l0_3.length c0_3, .slice A0_4 l0_4.length c0_4] 28 (0, 0)) (by (with_reducible repeat (first | refine bN ?_ _ | refine bD ?_ | refine bA ?_ _)); exact BK224.out)) : gb230 ≠ gb224)); clear HO_20; clear BK224; clear HB; have HO_20 := n0_; have BK224 := n1_; have HB := n2_; have BK230 := n3_; have GW230 := n4_; have GE230 := n5_; have NB224_230 := n6_; have NB230_224 := n7_; clear n0_ n1_ n2_ n3_ n4_ n5_ n6_ n7_; clear hb hbox hg; have hnb22 := NB230_224.out; have hnc22 := NB224_230.out; have hcz23_0 : w21.cell? ⟨gb230, 0, none⟩ = some (.int .i64 0) := (bC BK230.out 0).trans rfl; have hcz23_1 : w21.cell? ⟨gb230, 1, none⟩ = some (.int .i64 0) := (bC BK230.out 1).trans rfl; have hcz23_2 : w21.cell? ⟨gb230, 2, none⟩ = some (.int .i64 0) := (bC BK230.out 2).trans rfl; have hfz23_0 := bZ BK230.out 0; have hfz23_1 := bZ BK230.out 1; have hfz23_2 := bZ BK230.out 2; have hcz24_0 : w21.cell? ⟨gb224, 0, none⟩ = some (.int .i64 a0_0) := (bC BK224.out 0).trans rfl; have hcz24_1 : w21.cell? ⟨gb224, 1, none⟩ = some (.int .i64 a0_1) := (bC BK224.out 1).trans rfl; have hcz24_2 : w21.cell? ⟨gb224, 2, none⟩ = some (.int .i64 a0_2) := (bC BK224.out 2).trans rfl; have hcz24_3 : w21.cell? ⟨gb224, 3, none⟩ = some (.slice A0_3 l0_3.length c0_3) := (bC BK224.out 3).trans rfl; have hcz24_4 : w21.cell? ⟨gb224, 4, none⟩ = some (.slice A0_4 l0_4.length c0_4) := (bC BK224.out 4).trans rfl; have hfz24_0 := bZ BK224.out 0; have hfz24_1 := bZ BK224.out 1; have hfz24_2 := bZ BK224.out 2; have hfz24_3 := bZ BK224.out 3; have hfz24_4 := bZ BK224.out 4; have p231 : 0 ≤ (((rd_T41 t226 x22_2).f0) : Int) := of_decide_eq_true (by first | (with_reducible assumption) | assumption); have q231 : ((rd_T41 t226 x22_2).f0) < (l0_3.length : Int) := of_decide_eq_true (by first | (with_reducible assumption) | assumption); obtain ⟨ad231, e231, hx231_0⟩ := Kd.at_int HR0_3.out ((rd_T41 t226 x22_2).f0) p231 q231; cases e231; have hn231_0 : ad231.block ≠ gb230 := Nat.ne_of_lt (Nat.lt_of_lt_of_le (by have := World.block_lt_of_cell? _ _ hx231_0; first | rwa [add_block] at this | exact this) GW230.out); have hn231_1 : ad231.block ≠ gb230 := Nat.ne_of_lt (Nat.lt_of_lt_of_le (by have := World.block_lt_of_cell? _ _ hx231_0; first | rwa [add_block] at this | exact this) GW230.out); have hn231_2 : ad231.block ≠ gb230 := Nat.ne_of_lt (Nat.lt_of_lt_of_le (by have := World.block_lt_of_cell? _ _ hx231_0; first | rwa [add_block] at this | exact this) GW230.out); replace hx231_0 := (HB.out.cell (World.block_lt_of_cell? w _ hx231_0)).trans hx231_0; replace hx231_0 := (cell_far (p := ⟨gb230, 0, none⟩) (by first | (rw [add_block]; exact hn231_0) | (show (Addr.add _ _).block ≠ _; rw [add_block]; exact hn231_0) | exact hn231_0) (.int .i64 ((rd_T41 t226 x22_2).f0))).trans hx231_0; replace hx231_0 := (cell_far (p := ⟨gb230, 1, none⟩) (by first | (rw [add_block]; exact hn231_1) | (show (Addr.add _ _).block ≠ _; rw [add_block]; exact hn231_1) | exact hn231_1) (.int .i64 ((rd_T41 t226 x22_2).f1))).trans hx231_0; replace hx231_0 := (cell_far (p := ⟨gb230, 2, none⟩) (by first | (rw [add_block]; exact hn231_2) | (show (Addr.add _ _).block ≠ _; rw [add_block]; exact hn231_2) | exact hn231_2) (.int .i64 ((rd_T41 t226 x22_2).f2))).trans hx231_0; clear hn231_0; clear hn231_1; clear hn231_2; replace p231 := eq_true p231; replace q231 := eq_true q231))
            go_roundg k2
            case measure => have := HJ3.out; have := HK2.out; omega
            case rel => exact ⟨(wrap64 (x7_2 + 1)), (wrap64 (x22_2 + 1)), (by first | rfl | (simp; done) | (simp [*]; done)), (by first | rfl | (simp; done) | (simp [*]; done)), H', ⟨by have := HJ3.out; have := HK2.out; omega⟩, ⟨by (with_reducible repeat (first | apply Kd.R_alloc | apply Kd.R_drewN | apply Kd.R_drew)); exact Kd.R_mono (Kd.R_far (p := ⟨gb230, 2, none⟩) (Kd.R_far (p := ⟨gb230, 1, none⟩) (Kd.R_far (p := ⟨gb230, 0, none⟩) (Kd.R_mono HO_20.out (fun k_ hk => (⟨hk, hk.2⟩ : _ ∧ k_ ≠ gb230))) (fun _ hk => hk.2) (.int .i64 ((rd_T41 t226 x22_2).f0))) (fun _ hk => hk.2) (.int .i64 ((rd_T41 t226 x22_2).f1))) (fun _ hk => hk.2) (.int .i64 ((rd_T41 t226 x22_2).f2))) (fun _ hk => trivial)⟩, ⟨by (with_reducible repeat (first | refine bN ?_ _ | refine bD ?_ | refine bA ?_ _)); refine bF ?_ NB224_230.out _; (with_reducible repeat (first | refine bN ?_ _ | refine bD ?_ | refine bA ?_ _)); refine bF ?_ NB224_230.out _; (with_reducible repeat (first | refine bN ?_ _ | refine bD ?_ | refine bA ?_ _)); refine bF ?_ NB224_230.out _; (with_reducible repeat (first | refine bN ?_ _ | refine bD ?_ | refine bA ?_ _)); exact BK224.out⟩, ⟨by repeat (first | (with_reducible first | exact HB.out | apply wA | apply wN | apply wD | refine wS ?_ GE224.out | refine wS ?_ GE230.out) | exact HB.out)⟩⟩
           ·
            rw [if_neg c20] at H; have c20b0 : ((rd l0_3 ((rd_T41 t226 x22_2).f0)) == 0) = false := beq_eq_false_iff_ne.mpr c20; have c20b1 : ((rd l0_3 ((rd_T41 t226 x22_2).f0)) != 0) = true := bne_iff_ne.mpr c20; have H' := Aside0.mk H; clear H; have p229 : 0 ≤ (x22_2 : Int) := of_decide_eq_true (by first | (with_reducible assumption) | assumption); have q229 : x22_2 < (t226.length : Int) := of_decide_eq_true (by first | (with_reducible assumption) | assumption); obtain ⟨ad229, e229, hx229_0, hx229_1, hx229_2⟩ := at_T41 (Kd.R_reads' HO_20.out).2.2 x22_2 p229 q229
            cases e229
            replace p229 := eq_true p229; replace q229 := eq_true q229
            go_wp2_with (first | ((with_reducible refine gate_dst (N := 9) rfl ?_); refine box_event ?hg (N := 9) ?hd (cs := #[.int .i64 0, .int .i64 0, .int .i64 0]) (t := 41) ?hr ?_; (case hd => rfl); (case hg => rfl); (case hr => first | (go_simp; done) | (go_simp; rfl)); intro gb230 hg w25 hbox hb; have n0_ := Aside0.mk (Kd.R_below (Kd.R_elderB (by (with_reducible repeat (first | apply Kd.R_alloc | apply Kd.R_drewN | apply Kd.R_drew)); exact HO_20.out) gb230 (Nat.le_of_eq hg.symm)) hb); have n1_ := Aside0.mk (bB (g := gb224) (o := .cells #[.int .i64 a0_0, .int .i64 a0_1, .int .i64 a0_2, .slice A0_3 l0_3.length c0_3, .slice A0_4 l0_4.length c0_4] 28 (0, 0)) (by (with_reducible repeat (first | refine bN ?_ _ | refine bD ?_ | refine bA ?_ _)); exact BK224.out) hb); have n2_ := Aside0.mk (below_step (by repeat (first | (with_reducible first | exact HB.out | apply wA | apply wN | apply wD | refine wS ?_ GE224.out) | exact HB.out)) hb); have n3_ := Aside0.mk (hbox); have n4_ := Aside0.mk ((by rw [hg]; exact (below_size (by repeat (first | (with_reducible first | exact HB.out | apply wA | apply wN | apply wD | refine wS ?_ GE224.out) | exact HB.out))) : w.heap.size ≤ gb230)); have n5_ := Aside0.mk ((by rw [hg]; exact (below_size (by repeat (first | (with_reducible first | exact HB.out | apply wA | apply wN | apply wD | refine wS ?_ GE224.out) | exact HB.out))) : w.heap.size ≤ gb230)); have n6_ := Aside0.mk ((by rw [hg]; exact Nat.ne_of_lt (blk_lt (g := gb224) (o := .cells #[.int .i64 a0_0, .int .i64 a0_1, .int .i64 a0_2, .slice A0_3 l0_3.length c0_3, .slice A0_4 l0_4.length c0_4] 28 (0, 0)) (by (with_reducible repeat (first | refine bN ?_ _ | refine bD ?_ | refine bA ?_ _)); exact BK224.out)) : gb224 ≠ gb230)); have n7_ := Aside0.mk ((by rw [hg]; exact Nat.ne_of_gt (blk_lt (g := gb224) (o := .cells #[.int .i64 a0_0, .int .i64 a0_1, .int .i64 a0_2, .slice A0_3 l0_3.length c0_3, .slice A0_4 l0_4.length c0_4] 28 (0, 0)) (by (with_reducible repeat (first | refine bN ?_ _ | refine bD ?_ | refine bA ?_ _)); exact BK224.out)) : gb230 ≠ gb224)); clear HO_20; clear BK224; clear HB; have HO_20 := n0_; have BK224 := n1_; have HB := n2_; have BK230 := n3_; have GW230 := n4_; have GE230 := n5_; have NB224_230 := n6_; have NB230_224 := n7_; clear n0_ n1_ n2_ n3_ n4_ n5_ n6_ n7_; clear hb hbox hg; have hnb26 := NB230_224.out; have hnc26 := NB224_230.out; have hcz27_0 : w25.cell? ⟨gb230, 0, none⟩ = some (.int .i64 0) := (bC BK230.out 0).trans rfl; have hcz27_1 : w25.cell? ⟨gb230, 1, none⟩ = some (.int .i64 0) := (bC BK230.out 1).trans rfl; have hcz27_2 : w25.cell? ⟨gb230, 2, none⟩ = some (.int .i64 0) := (bC BK230.out 2).trans rfl; have hfz27_0 := bZ BK230.out 0; have hfz27_1 := bZ BK230.out 1; have hfz27_2 := bZ BK230.out 2; have hcz28_0 : w25.cell? ⟨gb224, 0, none⟩ = some (.int .i64 a0_0) := (bC BK224.out 0).trans rfl; have hcz28_1 : w25.cell? ⟨gb224, 1, none⟩ = some (.int .i64 a0_1) := (bC BK224.out 1).trans rfl; have hcz28_2 : w25.cell? ⟨gb224, 2, none⟩ = some (.int .i64 a0_2) := (bC BK224.out 2).trans rfl; have hcz28_3 : w25.cell? ⟨gb224, 3, none⟩ = some (.slice A0_3 l0_3.length c0_3) := (bC BK224.out 3).trans rfl; have hcz28_4 : w25.cell? ⟨gb224, 4, none⟩ = some (.slice A0_4 l0_4.length c0_4) := (bC BK224.out 4).trans rfl; have hfz28_0 := bZ BK224.out 0; have hfz28_1 := bZ BK224.out 1; have hfz28_2 := bZ BK224.out 2; have hfz28_3 := bZ BK224.out 3; have hfz28_4 := bZ BK224.out 4; have p231 : 0 ≤ (((rd_T41 t226 x22_2).f0) : Int) := of_decide_eq_true (by first | (with_reducible assumption) | assumption); have q231 : ((rd_T41 t226 x22_2).f0) < (l0_3.length : Int) := of_decide_eq_true (by first | (with_reducible assumption) | assumption); obtain ⟨ad231, e231, hx231_0⟩ := Kd.at_int HR0_3.out ((rd_T41 t226 x22_2).f0) p231 q231; cases e231; have hn231_0 : ad231.block ≠ gb230 := Nat.ne_of_lt (Nat.lt_of_lt_of_le (by have := World.block_lt_of_cell? _ _ hx231_0; first | rwa [add_block] at this | exact this) GW230.out); have hn231_1 : ad231.block ≠ gb230 := Nat.ne_of_lt (Nat.lt_of_lt_of_le (by have := World.block_lt_of_cell? _ _ hx231_0; first | rwa [add_block] at this | exact this) GW230.out); have hn231_2 : ad231.block ≠ gb230 := Nat.ne_of_lt (Nat.lt_of_lt_of_le (by have := World.block_lt_of_cell? _ _ hx231_0; first | rwa [add_block] at this | exact this) GW230.out); replace hx231_0 := (HB.out.cell (World.block_lt_of_cell? w _ hx231_0)).trans hx231_0; replace hx231_0 := (cell_far (p := ⟨gb230, 0, none⟩) (by first | (rw [add_block]; exact hn231_0) | (show (Addr.add _ _).block ≠ _; rw [add_block]; exact hn231_0) | exact hn231_0) (.int .i64 ((rd_T41 t226 x22_2).f0))).trans hx231_0; replace hx231_0 := (cell_far (p := ⟨gb230, 1, none⟩) (by first | (rw [add_block]; exact hn231_1) | (show (Addr.add _ _).block ≠ _; rw [add_block]; exact hn231_1) | exact hn231_1) (.int .i64 ((rd_T41 t226 x22_2).f1))).trans hx231_0; replace hx231_0 := (cell_far (p := ⟨gb230, 2, none⟩) (by first | (rw [add_block]; exact hn231_2) | (show (Addr.add _ _).block ≠ _; rw [add_block]; exact hn231_2) | exact hn231_2) (.int .i64 ((rd_T41 t226 x22_2).f2))).trans hx231_0; clear hn231_0; clear hn231_1; clear hn231_2; replace p231 := eq_true p231; replace q231 := eq_true q231))
            go_roundg k2
            case measure => have := HJ3.out; have := HK2.out; omega
            case rel => exact ⟨(x7_2), (wrap64 (x22_2 + 1)), (by first | rfl | (simp; done) | (simp [*]; done)), (by first | rfl | (simp; done) | (simp [*]; done)), H', ⟨by have := HJ3.out; have := HK2.out; omega⟩, ⟨by (with_reducible repeat (first | apply Kd.R_alloc | apply Kd.R_drewN | apply Kd.R_drew)); exact Kd.R_mono (Kd.R_far (p := ⟨gb230, 2, none⟩) (Kd.R_far (p := ⟨gb230, 1, none⟩) (Kd.R_far (p := ⟨gb230, 0, none⟩) (Kd.R_mono HO_20.out (fun k_ hk => (⟨hk, hk.2⟩ : _ ∧ k_ ≠ gb230))) (fun _ hk => hk.2) (.int .i64 ((rd_T41 t226 x22_2).f0))) (fun _ hk => hk.2) (.int .i64 ((rd_T41 t226 x22_2).f1))) (fun _ hk => hk.2) (.int .i64 ((rd_T41 t226 x22_2).f2))) (fun _ hk => trivial)⟩, ⟨by (with_reducible repeat (first | refine bN ?_ _ | refine bD ?_ | refine bA ?_ _)); refine bF ?_ NB224_230.out _; (with_reducible repeat (first | refine bN ?_ _ | refine bD ?_ | refine bA ?_ _)); refine bF ?_ NB224_230.out _; (with_reducible repeat (first | refine bN ?_ _ | refine bD ?_ | refine bA ?_ _)); refine bF ?_ NB224_230.out _; (with_reducible repeat (first | refine bN ?_ _ | refine bD ?_ | refine bA ?_ _)); exact BK224.out⟩, ⟨by repeat (first | (with_reducible first | exact HB.out | apply wA | apply wN | apply wD | refine wS ?_ GE224.out | refine wS ?_ GE230.out) | exact HB.out)⟩⟩
          ·
           rw [if_neg c19] at H; exact absurd H (by simp)
         ·
          rw [if_neg c18] at H; exact absurd H (by simp)
        ·
         rw [if_neg c17] at H; exact absurd H (by simp)
       ·
        rw [if_neg c16] at H; exact absurd H (by simp)
      ·
       rw [if_neg c15] at H; have c15b0 : decide (x22_2 < (t226.length : Int)) = false := decide_eq_false c15; clear c15; obtain rfl := Option.some.inj H
       go_wp2
       go_ret
       exact ⟨by first | rfl | exact congrArg (fun b_ => Ending.returned (Value.bool b_)) HRET.out | (rw [HRET.out]) | (simp [errW_none, errW_some] <;> rfl) | (simp [*, errW_none, errW_some] <;> rfl), by repeat (first | (with_reducible first | exact HB.out | apply wA | apply wN | apply wD | refine wS ?_ GE224.out) | exact HB.out)⟩

end Go.Proofs.Ytkigiehkckjlhaa.PQuota
