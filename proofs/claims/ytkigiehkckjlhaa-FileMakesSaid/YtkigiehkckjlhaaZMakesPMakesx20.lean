/- The Go functions that these laws reach, each as a Lean function with the same answers (a law itself where it answers true), and the proof that the code comes to them; conditions: those of each theorem. Laid by a program of this session over the print. -/
import Derived.Test.YtkigiehkckjlhaaZMakesPMakesx0
import Derived.Test.YtkigiehkckjlhaaZMakesPMakesx7
namespace Go.Proofs.Ytkigiehkckjlhaa.PMakes
open Go.RowKit Go.Proofs.YtkigiehkckjlhaaW.PrintWords Go.Proofs.YtkigiehkckjlhaaW.PrintLast Go.Proofs.YtkigiehkckjlhaaW.PrintMore
attribute [local go_sem] max2_int min2_int max_two min_two max_three min_three max_four min_four   -- for this text's walks alone
set_option linter.unusedVariables false
set_option linter.unusedSimpArgs false
open Go.Proofs.YtkigiehkckjlhaaW.PrintWords renaming blk_drewN → bN, blk_drew → bD, blk_alloc → bA, below_set → wS, below_alloc → wA, pw_below_drewN → wN, below_drew1 → wD, blk_below → bB, blk_far → bF, blk_cell → bC, blk_frozen → bZ
open List renaming setIfInBounds_toArray → lT, set_cons_zero → l0_, set_cons_succ → lS
def potsherdref12_Split.l0 : Nat → ByteArray → List ByteArray → Int → Int → Option (List ByteArray × Int)
 | 0, _, _, _, _ => none
 | k + 1, x0, x4, x5, x6 => if x6 ≤ (x0.size : Int) then (if x6 < (x0.size : Int) then (if 0 ≤ x6 then (if (bt x0 x6) = 47 then (none) else (potsherdref12_Split.l0 k x0 x4 x5 (wrap64 (x6 + 1)))) else (none)) else (if 0 ≤ x5 then (if x5 ≤ x6 then ((potsherdref12_Name.f k (x0.extract (x5 : Int).toNat (x6 : Int).toNat)).bind fun t348 => (if t348 = true then (if x4.length < 8796093022208 then (potsherdref12_Split.l0 k x0 (x4 ++ [x0.extract (x5 : Int).toNat (x6 : Int).toNat]) (wrap64 (x6 + 1)) (wrap64 (x6 + 1))) else (none)) else (none))) else (none)) else (none))) else (some (x4, 0))
def potsherdref12_Split.f (k : Nat) (a0 : ByteArray) : Option (List ByteArray × Int) := if (a0.size : Int) > 60 then (none) else (if (a0.size : Int) < 1 then (none) else (if 0 < (a0.size : Int) then (if (bt a0 0) = 47 then (if a0.toList = ([47] : List UInt8) then (some (([] : List ByteArray), 0)) else (potsherdref12_Split.l0 k a0 ([] : List ByteArray) 1 1)) else (none)) else (none)))
theorem potsherdref12_Split.mono_l : ∀ k, (∀ y0 y1 y2 y3, LeO (potsherdref12_Split.l0 k y0 y1 y2 y3) (potsherdref12_Split.l0 (k + 1) y0 y1 y2 y3))
 | 0 => fun _ _ _ _ r h => by simp [potsherdref12_Split.l0] at h
 | k + 1 => by
  have ih0 := potsherdref12_Split.mono_l k
  ·
   intro y0 y1 y2 y3
   unfold potsherdref12_Split.l0
   repeat' first
   | (with_reducible exact ih0 _ _ _ _)
   | (with_reducible exact potsherdref12_Name.mono _ _)
   | (with_reducible exact LeO.refl _)
   | (with_reducible exact LeO.none _)
   | (with_reducible refine LeO.ite ?_ ?_)
   | (with_reducible refine LeO.bind ?_ (fun _ => ?_))
   | exact ih0 _ _ _ _
   | exact potsherdref12_Name.mono _ _
   | exact LeO.none _
   | refine LeO.ite ?_ ?_
   | refine LeO.bind ?_ (fun _ => ?_)
theorem potsherdref12_Split.mono : ∀ a0 k, LeO (potsherdref12_Split.f k a0) (potsherdref12_Split.f (k + 1) a0) := by
 intro a0 k; have ih0 := potsherdref12_Split.mono_l k
 unfold potsherdref12_Split.f
 repeat' first
  | (with_reducible exact ih0 _ _ _ _)
  | (with_reducible exact potsherdref12_Name.mono _ _)
  | (with_reducible exact LeO.refl _)
  | (with_reducible exact LeO.none _)
  | (with_reducible refine LeO.ite ?_ ?_)
  | (with_reducible refine LeO.bind ?_ (fun _ => ?_))
  | exact ih0 _ _ _ _
  | exact potsherdref12_Name.mono _ _
  | exact LeO.none _
  | refine LeO.ite ?_ ?_
  | refine LeO.bind ?_ (fun _ => ?_)
set_option maxHeartbeats 8000000 in
set_option maxRecDepth 100000 in
theorem potsherdref12_Split.calls (k : Nat) (a0 : ByteArray) (r1 : List ByteArray) (r2 : Int) (w : World) (h : potsherdref12_Split.f k a0 = some (r1, r2)) :
 Calls Try.prog 91 #[.string a0] w fun e w' => ∃ v0_ : Value, e = .returned (.tuple #[v0_, .int .i64 r2]) ∧ Kd.R Kd.string 9 w' w.heap.size (fun _ => True) v0_ r1 ∧ Below w.heap.size w w' := by
 have HB := Aside0.mk (Below.refl w.heap.size w); have H : (if (a0.size : Int) > 60 then (none) else (if (a0.size : Int) < 1 then (none) else (if 0 < (a0.size : Int) then (if (bt a0 0) = 47 then (if a0.toList = ([47] : List UInt8) then (some (([] : List ByteArray), 0)) else (potsherdref12_Split.l0 k a0 ([] : List ByteArray) 1 1)) else (none)) else (none)))) = some (r1, r2) := h; clear h
 by_cases c2 : (a0.size : Int) > 60
 ·
  rw [if_pos c2] at H; exact absurd H (by simp)
 ·
  rw [if_neg c2] at H; have c2b0 : decide (60 < (a0.size : Int)) = false := decide_eq_false c2; have c2b1 : decide (60 < a0.size) = false := decide_eq_false (by omega); clear c2
  by_cases c3 : (a0.size : Int) < 1
  ·
   rw [if_pos c3] at H; exact absurd H (by simp)
  ·
   rw [if_neg c3] at H; have c3b0 : decide ((a0.size : Int) < 1) = false := decide_eq_false c3; have c3b1 : decide (a0.size < 1) = false := decide_eq_false (by omega); clear c3
   by_cases c4 : 0 < (a0.size : Int)
   ·
    rw [if_pos c4] at H; have c4b0 : decide (0 < (a0.size : Int)) = true := decide_eq_true c4; have c4b1 : decide (0 < a0.size) = true := decide_eq_true (by omega); clear c4
    by_cases c6 : (bt a0 0) = 47
    ·
     rw [if_pos c6] at H; have c6b0 : ((bt a0 0) == 47) = true := beq_iff_eq.mpr c6; have c6b1 : ((bt a0 0) != 47) = false := bne_eq_false_iff_eq.mpr c6; clear c6
     by_cases c7 : a0.toList = ([47] : List UInt8)
     ·
      rw [if_pos c7] at H; have c7b0 : (a0.toList == ([47] : List UInt8)) = true := beq_iff_eq.mpr c7; have c7b1 : (a0.toList != ([47] : List UInt8)) = false := bne_eq_false_iff_eq.mpr c7; clear c7; simp only [Option.some.injEq, Prod.mk.injEq] at H; obtain ⟨rfl, rfl⟩ := H; have p5 : 0 ≤ (0 : Int) := (by omega); have q5 : 0 < a0.size := (by have : (0 : Int) < (a0.size : Int) := of_decide_eq_true (by first | (with_reducible assumption) | assumption); omega)
      have hx5 : ∀ h : 0 < a0.size, ((a0[0]'h).toNat : Int) = bt a0 0 := bt_at a0 0; clear p5; have qi5 : (0 < (a0.size : Int)) = True := eq_true (of_decide_eq_true (by first | (with_reducible assumption) | assumption)); replace q5 := eq_true q5
      go_enter Try.func91, Try.ntmps91
      go_wp2
      go_ret2
      exact ⟨_, by first | rfl | exact congrArg (fun b_ => Ending.returned (Value.bool b_)) HRET.out | (rw [HRET.out]) | (simp [errW_none, errW_some] <;> rfl) | (simp [*, errW_none, errW_some] <;> rfl), by first | exact Kd.R_nil _ _ _ _ _ | exact Kd.N_nil _ _ _ _ _ | exact Kd.V_nil _ _ _ _ _ | exact Kd.Q_nil _ _ _ _ _ | exact Kd.S_nil _ _ _ _ _, by repeat (first | (with_reducible first | exact HB.out | apply wA | apply wN | apply wD) | exact HB.out)⟩
     ·
      rw [if_neg c7] at H; have c7b0 : (a0.toList == ([47] : List UInt8)) = false := beq_eq_false_iff_ne.mpr c7; have c7b1 : (a0.toList != ([47] : List UInt8)) = true := bne_iff_ne.mpr c7; have H' := Aside0.mk H; clear H; have p5 : 0 ≤ (0 : Int) := (by omega); have q5 : 0 < a0.size := (by have : (0 : Int) < (a0.size : Int) := of_decide_eq_true (by first | (with_reducible assumption) | assumption); omega)
      have hx5 : ∀ h : 0 < a0.size, ((a0[0]'h).toNat : Int) = bt a0 0 := bt_at a0 0; clear p5; have qi5 : (0 < (a0.size : Int)) = True := eq_true (of_decide_eq_true (by first | (with_reducible assumption) | assumption)); replace q5 := eq_true q5
      go_enter Try.func91, Try.ntmps91
      go_wp2
      go_loopg [4, 5, 6] k (fun kq v4 v5 v6 w' => ∃ (x4_1 : List ByteArray) (x5_1 : Int) (x6_1 : Int), v5 = .int .i64 x5_1 ∧ v6 = .int .i64 x6_1 ∧ Aside0 (potsherdref12_Split.l0 kq a0 x4_1 x5_1 x6_1 = some (r1, r2)) ∧ Aside0 (kq ≤ k) ∧ Aside0 (Kd.R Kd.string 9 w' w.heap.size (fun _ => True) v4 x4_1) ∧ Aside0 (Below w.heap.size w w'))
      case atStart => exact ⟨(([] : List ByteArray)), (1), (1), (by first | rfl | (simp; done) | (simp [*]; done)), (by first | rfl | (simp; done) | (simp [*]; done)), H', ⟨Nat.le_refl _⟩, ⟨by first | exact Kd.R_nil _ _ _ _ _ | exact Kd.N_nil _ _ _ _ _ | exact Kd.V_nil _ _ _ _ _ | exact Kd.Q_nil _ _ _ _ _ | exact Kd.S_nil _ _ _ _ _⟩, ⟨by repeat (first | (with_reducible first | exact HB.out | apply wA | apply wN | apply wD) | exact HB.out)⟩⟩
      case round =>
       clear H'
       try clear c2
       try clear c2b0
       try clear c2b1
       try clear p2
       try clear c3
       try clear c3b0
       try clear c3b1
       try clear c4
       try clear c4b0
       try clear c4b1
       try clear p5
       try clear q5
       try clear hx5
       try clear qi5
       try clear c6
       try clear c6b0
       try clear c6b1
       try clear c7
       try clear c7b0
       try clear c7b1
       try clear p5
       try clear q5
       obtain ⟨x4_1, x5_1, x6_1, rfl, rfl, HA, HK1, HO_4, HB⟩ := hrel
       cases gk with
       | zero => exact absurd HA.out (by simp [potsherdref12_Split.l0])
       | succ k1 =>
        have H := HA.out; clear HA; simp only [potsherdref12_Split.l0] at H
        by_cases c8 : x6_1 ≤ (a0.size : Int)
        ·
         rw [if_pos c8] at H; have c8b0 : decide (x6_1 ≤ (a0.size : Int)) = true := decide_eq_true c8; clear c8
         by_cases c9 : x6_1 < (a0.size : Int)
         ·
          rw [if_pos c9] at H; have c9b0 : decide (x6_1 < (a0.size : Int)) = true := decide_eq_true c9; clear c9
          by_cases c10 : 0 ≤ x6_1
          ·
           rw [if_pos c10] at H; have c10b0 : decide (0 ≤ x6_1) = true := decide_eq_true c10; clear c10
           by_cases c12 : (bt a0 x6_1) = 47
           ·
            rw [if_pos c12] at H; exact absurd H (by simp)
           ·
            rw [if_neg c12] at H; have c12b0 : ((bt a0 x6_1) == 47) = false := beq_eq_false_iff_ne.mpr c12; have c12b1 : ((bt a0 x6_1) != 47) = true := bne_iff_ne.mpr c12; have H' := Aside0.mk H; clear H; have p11 : 0 ≤ (x6_1 : Int) := of_decide_eq_true (by first | (with_reducible assumption) | assumption); have q11 : x6_1 < (a0.size : Int) := of_decide_eq_true (by first | (with_reducible assumption) | assumption); have hx11 := bt_at a0 x6_1; replace p11 := eq_true p11; replace q11 := eq_true q11
            go_wp2
            go_roundg k1
            case measure => have := HK1.out; omega
            case rel => exact ⟨(x4_1), (x5_1), (wrap64 (x6_1 + 1)), (by first | rfl | (simp; done) | (simp [*]; done)), (by first | rfl | (simp; done) | (simp [*]; done)), H', ⟨by have := HK1.out; omega⟩, ⟨by (with_reducible repeat (first | apply Kd.R_alloc | apply Kd.R_drewN | apply Kd.R_drew)); exact HO_4.out⟩, ⟨by repeat (first | (with_reducible first | exact HB.out | apply wA | apply wN | apply wD) | exact HB.out)⟩⟩
          ·
           rw [if_neg c10] at H; exact absurd H (by simp)
         ·
          rw [if_neg c9] at H; have c9b0 : decide (x6_1 < (a0.size : Int)) = false := decide_eq_false c9; clear c9
          by_cases c13 : 0 ≤ x5_1
          ·
           rw [if_pos c13] at H; have c13b0 := eq_true c13; have c13b1 : decide (0 ≤ x5_1) = true := decide_eq_true c13; clear c13
           by_cases c14 : x5_1 ≤ x6_1
           ·
            rw [if_pos c14] at H; have c14b0 := eq_true c14; have c14b1 : decide (x5_1 ≤ x6_1) = true := decide_eq_true c14; clear c14; have c15b0 := eq_true (of_decide_eq_true (by first | (with_reducible assumption) | assumption) : x6_1 ≤ (a0.size : Int)); replace H := Option.bind_eq_some_iff.mp H; obtain ⟨t348, A160, H⟩ := H; replace H : (if t348 = true then (if x4_1.length < 8796093022208 then (potsherdref12_Split.l0 k1 a0 (x4_1 ++ [a0.extract (x5_1 : Int).toNat (x6_1 : Int).toNat]) (wrap64 (x6_1 + 1)) (wrap64 (x6_1 + 1))) else (none)) else (none)) = some (r1, r2) := H; have A16 := Aside0.mk A160; clear A160
            by_cases c17 : t348 = true
            ·
             subst c17
             have H1 : (if x4_1.length < 8796093022208 then (potsherdref12_Split.l0 k1 a0 (x4_1 ++ [a0.extract (x5_1 : Int).toNat (x6_1 : Int).toNat]) (wrap64 (x6_1 + 1)) (wrap64 (x6_1 + 1))) else (none)) = some (r1, r2) := by rw [if_pos rfl] at H; exact H
             clear H; have H := H1; clear H1; have c18b0 := eq_true (of_decide_eq_true (by first | (with_reducible assumption) | assumption) : 0 ≤ x5_1); have c19b0 := eq_true (of_decide_eq_true (by first | (with_reducible assumption) | assumption) : x5_1 ≤ x6_1); have c20b0 := eq_true (of_decide_eq_true (by first | (with_reducible assumption) | assumption) : x6_1 ≤ (a0.size : Int))
             by_cases c21 : x4_1.length < 8796093022208
             ·
              rw [if_pos c21] at H; have LMc21 := Aside0.mk c21; clear c21; obtain ⟨y349, hy349⟩ : ∃ y_ : List ByteArray, y_ = (x4_1 ++ [a0.extract (x5_1 : Int).toNat (x6_1 : Int).toNat]) := ⟨_, rfl⟩
              replace H : (potsherdref12_Split.l0 k1 a0 y349 (wrap64 (x6_1 + 1)) (wrap64 (x6_1 + 1))) = some (r1, r2) := by first | (rw [hy349]; with_reducible exact H) | (have H2_ := (Option.bind_some _ _).symm.trans H; rw [hy349]; with_reducible exact H2_) | (have H2_ := (Option.bind_some _ _).symm.trans H; with_reducible exact H2_) | with_reducible exact H | (rw [hy349]; exact H) | exact H
              have Ny349 := Aside0.mk hy349; clear hy349; have H' := Aside0.mk H; clear H
              go_wp2_with (first | ((with_reducible refine gate_callee (f := 69) rfl ?_); refine goesL_ (some 42) rfl rfl Try.func69 (by kernel_rfl) rfl #[.string (a0.extract (x5_1 : Int).toNat (x6_1 : Int).toNat)] rfl (by (try simp only [List.map_toArray, List.map_cons, List.map_nil]); first | done | rfl | (simp only [List.length_drop, List.length_take]; rfl)) ?_; (with_reducible refine (potsherdref12_Name.calls k1 (a0.extract (x5_1 : Int).toNat (x6_1 : Int).toNat) true _ A16.out).mono ?_); rintro e w' ⟨rfl, ⟨nd, rfl⟩⟩; refine ⟨_, rfl, ?_⟩) | ((with_reducible refine gate_builtin (b := .append) (xs := #[.tmp 44, .tmp 49]) rfl ?_); (try (refine gate_guard (by rfl) ?_; dsimp only)); at_builtin; refine Kd.R_append Kd.string (w0 := w) w.heap.size rfl (.tmp 44) (.tmp 49) 113 9 (.string ⟨#[]⟩) 16 rfl Try.underlying113 info9 rfl (by decide) (by omega) u4 x4_1 (a0.extract (x5_1 : Int).toNat (x6_1 : Int).toNat) [.string (a0.extract (x5_1 : Int).toNat (x6_1 : Int).toNat)] (fun _ => True) (fun _ => False) rfl rfl ?aP (fun _ hk => hk.elim) ?aF ?aO ?aB ?aS ?aL ?_; (case aP => exact rfl); (case aB => exact (by repeat (first | (with_reducible first | exact HB.out | apply wA | apply wN | apply wD) | exact HB.out))); (case aF => exact (fun _ _ => trivial)); (case aO => exact (by (with_reducible repeat (first | apply Kd.R_alloc | apply Kd.R_drewN | apply Kd.R_drew)); exact HO_4.out)); (case aS => exact (below_size (by repeat (first | (with_reducible first | exact HB.out | apply wA | apply wN | apply wD) | exact HB.out)))); (case aL => have := LMc21.out; omega); intro v350 w22 ho hb hg hat; rw [← Ny349.out] at ho; have n0_ := Aside0.mk (hb); have n1_ := Aside0.mk (ho); clear HB; clear HO_4; have HB := n0_; have HO351 := n1_; clear n0_ n1_; clear ho hb hg hat))
              go_roundg k1
              case measure => have := HK1.out; omega
              case rel => exact ⟨(y349), (wrap64 (x6_1 + 1)), (wrap64 (x6_1 + 1)), (by first | rfl | (simp; done) | (simp [*]; done)), (by first | rfl | (simp; done) | (simp [*]; done)), H', ⟨by have := HK1.out; omega⟩, ⟨by (with_reducible repeat (first | apply Kd.R_alloc | apply Kd.R_drewN | apply Kd.R_drew)); exact HO351.out⟩, ⟨by repeat (first | (with_reducible first | exact HB.out | apply wA | apply wN | apply wD) | exact HB.out)⟩⟩
             ·
              rw [if_neg c21] at H; exact absurd H (by simp)
            ·
             replace c17 := Bool.eq_false_iff.mpr c17; subst c17
             have H1 : (none) = some (r1, r2) := by rw [if_neg (show ¬ (false = true) by decide)] at H; exact H
             clear H; have H := H1; clear H1; exact absurd H (by simp)
           ·
            rw [if_neg c14] at H; exact absurd H (by simp)
          ·
           rw [if_neg c13] at H; exact absurd H (by simp)
        ·
         rw [if_neg c8] at H; have c8b0 : decide (x6_1 ≤ (a0.size : Int)) = false := decide_eq_false c8; clear c8; simp only [Option.some.injEq, Prod.mk.injEq] at H; obtain ⟨rfl, rfl⟩ := H
         go_wp2
         go_ret2
         exact ⟨_, by first | rfl | exact congrArg (fun b_ => Ending.returned (Value.bool b_)) HRET.out | (rw [HRET.out]) | (simp [errW_none, errW_some] <;> rfl) | (simp [*, errW_none, errW_some] <;> rfl), by (with_reducible repeat (first | apply Kd.R_alloc | apply Kd.R_drewN | apply Kd.R_drew)); exact HO_4.out, by repeat (first | (with_reducible first | exact HB.out | apply wA | apply wN | apply wD) | exact HB.out)⟩
    ·
     rw [if_neg c6] at H; exact absurd H (by simp)
   ·
    rw [if_neg c4] at H; exact absurd H (by simp)
def potsherdref12_Join.f (k : Nat) (l0 : List ByteArray) : Option (ByteArray) := if (l0.length : Int) = 0 then (some (⟨#[47]⟩ : ByteArray)) else (none)
theorem potsherdref12_Join.mono : ∀ a0 k, LeO (potsherdref12_Join.f k a0) (potsherdref12_Join.f (k + 1) a0) := by
 intro a0 k
 unfold potsherdref12_Join.f
 repeat' first
  | (with_reducible exact potsherdref12_Name.mono _ _)
  | (with_reducible exact LeO.refl _)
  | (with_reducible exact LeO.none _)
  | (with_reducible refine LeO.ite ?_ ?_)
  | (with_reducible refine LeO.bind ?_ (fun _ => ?_))
  | exact potsherdref12_Name.mono _ _
  | exact LeO.none _
  | refine LeO.ite ?_ ?_
  | refine LeO.bind ?_ (fun _ => ?_)
set_option maxHeartbeats 8000000 in
set_option maxRecDepth 100000 in
theorem potsherdref12_Join.calls (k : Nat) (A0 : Option Addr) (c0 : Nat) (l0 : List ByteArray) (r : ByteArray) (w : World) (hr0 : Kd.C Kd.string w A0 l0.length l0) (hc0 : l0.length ≤ c0) (h : potsherdref12_Join.f k l0 = some r) :
 Calls Try.prog 93 #[.slice A0 l0.length c0] w fun e w' => e = .returned (.string r) ∧ Drawn0 w w' := by
 have HR0 := Aside0.mk hr0; have HC0 := Aside0.mk hc0; clear hr0 hc0; have H : (if (l0.length : Int) = 0 then (some (⟨#[47]⟩ : ByteArray)) else (none)) = some r := h; clear h
 by_cases c2 : (l0.length : Int) = 0
 ·
  rw [if_pos c2] at H; have c2b0 : ((l0.length : Int) == 0) = true := beq_iff_eq.mpr c2; have c2b1 : ((l0.length : Int) != 0) = false := bne_eq_false_iff_eq.mpr c2; clear c2; obtain rfl := Option.some.inj H
  go_enter Try.func93, Try.ntmps93
  go_wp2
  go_ret
  exact ⟨by first | rfl | (simp; done) | (simp [*]; done), by repeat (first | exact Drawn0.refl _ | apply Drawn0.step)⟩
 ·
  rw [if_neg c2] at H; exact absurd H (by simp)
def potsherdref12_Last.f (k : Nat) (a0 : ByteArray) : Option (ByteArray × ByteArray × Int) := (potsherdref12_Split.f k a0).bind fun bt354 => (if bt354.2 = 0 then (if (bt354.1.length : Int) = 0 then (none) else (if 0 ≤ (wrap64 ((bt354.1.length : Int) - 1)) then (if (wrap64 ((bt354.1.length : Int) - 1)) ≤ (bt354.1.length : Int) then ((potsherdref12_Join.f k (bt354.1.take ((wrap64 ((bt354.1.length : Int) - 1)) : Int).toNat)).bind fun t362 => (if (wrap64 ((bt354.1.length : Int) - 1)) < (bt354.1.length : Int) then (some (t362, rdOf ByteArray.empty bt354.1 (wrap64 ((bt354.1.length : Int) - 1)), 0)) else (none))) else (none)) else (none))) else (none))
theorem potsherdref12_Last.mono : ∀ a0 k, LeO (potsherdref12_Last.f k a0) (potsherdref12_Last.f (k + 1) a0) := by
 intro a0 k
 unfold potsherdref12_Last.f
 repeat' first
  | (with_reducible exact potsherdref12_Join.mono _ _)
  | (with_reducible exact potsherdref12_Split.mono _ _)
  | (with_reducible exact LeO.refl _)
  | (with_reducible exact LeO.none _)
  | (with_reducible refine LeO.ite ?_ ?_)
  | (with_reducible refine LeO.bind ?_ (fun _ => ?_))
  | exact potsherdref12_Join.mono _ _
  | exact potsherdref12_Split.mono _ _
  | exact LeO.none _
  | refine LeO.ite ?_ ?_
  | refine LeO.bind ?_ (fun _ => ?_)
set_option maxHeartbeats 8000000 in
set_option maxRecDepth 100000 in
theorem potsherdref12_Last.calls (k : Nat) (a0 : ByteArray) (r1 : ByteArray) (r2 : ByteArray) (r3 : Int) (w : World) (h : potsherdref12_Last.f k a0 = some (r1, r2, r3)) :
 Calls Try.prog 90 #[.string a0] w fun e w' => e = .returned (.tuple #[.string r1, .string r2, .int .i64 r3]) ∧ Below w.heap.size w w' := by
 have HB := Aside0.mk (Below.refl w.heap.size w); have H : ((potsherdref12_Split.f k a0).bind fun bt354 => (if bt354.2 = 0 then (if (bt354.1.length : Int) = 0 then (none) else (if 0 ≤ (wrap64 ((bt354.1.length : Int) - 1)) then (if (wrap64 ((bt354.1.length : Int) - 1)) ≤ (bt354.1.length : Int) then ((potsherdref12_Join.f k (bt354.1.take ((wrap64 ((bt354.1.length : Int) - 1)) : Int).toNat)).bind fun t362 => (if (wrap64 ((bt354.1.length : Int) - 1)) < (bt354.1.length : Int) then (some (t362, rdOf ByteArray.empty bt354.1 (wrap64 ((bt354.1.length : Int) - 1)), 0)) else (none))) else (none)) else (none))) else (none))) = some (r1, r2, r3) := h; clear h; replace H := Option.bind_eq_some_iff.mp H; obtain ⟨⟨t354, t355⟩, A20, H⟩ := H; replace H : (if t355 = 0 then (if (t354.length : Int) = 0 then (none) else (if 0 ≤ (wrap64 ((t354.length : Int) - 1)) then (if (wrap64 ((t354.length : Int) - 1)) ≤ (t354.length : Int) then ((potsherdref12_Join.f k (t354.take ((wrap64 ((t354.length : Int) - 1)) : Int).toNat)).bind fun t362 => (if (wrap64 ((t354.length : Int) - 1)) < (t354.length : Int) then (some (t362, rdOf ByteArray.empty t354 (wrap64 ((t354.length : Int) - 1)), 0)) else (none))) else (none)) else (none))) else (none)) = some (r1, r2, r3) := H; have A2 := Aside0.mk A20; clear A20
 by_cases c3 : t355 = 0
 ·
  rw [if_pos c3] at H; have c3b0 : (t355 == 0) = true := beq_iff_eq.mpr c3; have c3b1 : (t355 != 0) = false := bne_eq_false_iff_eq.mpr c3; clear c3
  by_cases c4 : (t354.length : Int) = 0
  ·
   rw [if_pos c4] at H; exact absurd H (by simp)
  ·
   rw [if_neg c4] at H; have c4b0 : ((t354.length : Int) == 0) = false := beq_eq_false_iff_ne.mpr c4; have c4b1 : ((t354.length : Int) != 0) = true := bne_iff_ne.mpr c4
   have c4b2 : ¬ (t354 = []) := fun h_ => c4 (by rw [h_]; rfl)
   obtain ⟨ji5, hji5⟩ : ∃ j_ : Int, (wrap64 ((t354.length : Int) - 1)) = j_ := ⟨_, rfl⟩
   replace H : (if 0 ≤ (ji5) then (if (ji5) ≤ (t354.length : Int) then ((potsherdref12_Join.f k (t354.take ((ji5) : Int).toNat)).bind fun t362 => (if (ji5) < (t354.length : Int) then (some (t362, rdOf ByteArray.empty t354 (ji5), 0)) else (none))) else (none)) else (none)) = some (r1, r2, r3) := by first | (rw [hji5] at H; exact H) | (simp only [hji5] at H ⊢; exact H)
   (try rw [hji5] at A2)
   have hji5w : (IntKind.i64.wrap ((t354.length : Int) - 1)) = ji5 := (i64_w _).trans hji5
   by_cases c6 : 0 ≤ (ji5)
   ·
    rw [if_pos c6] at H; have c6b0 := eq_true c6; have c6b1 : decide (0 ≤ (ji5)) = true := decide_eq_true c6; clear c6
    by_cases c7 : (ji5) ≤ (t354.length : Int)
    ·
     rw [if_pos c7] at H; have c7b0 := eq_true c7; have c7b1 : decide ((ji5) ≤ (t354.length : Int)) = true := decide_eq_true c7; clear c7; obtain ⟨y358, hy358⟩ : ∃ y_ : List ByteArray, y_ = (t354.take ((ji5) : Int).toNat) := ⟨_, rfl⟩
     replace H : ((potsherdref12_Join.f k y358).bind fun t362 => (if (ji5) < (t354.length : Int) then (some (t362, rdOf ByteArray.empty t354 (ji5), 0)) else (none))) = some (r1, r2, r3) := by first | (rw [hy358]; with_reducible exact H) | (have H2_ := (Option.bind_some _ _).symm.trans H; rw [hy358]; with_reducible exact H2_) | (have H2_ := (Option.bind_some _ _).symm.trans H; with_reducible exact H2_) | with_reducible exact H | (rw [hy358]; exact H) | exact H
     have Ny358 := Aside0.mk hy358; clear hy358; replace H := Option.bind_eq_some_iff.mp H; obtain ⟨t362, A80, H⟩ := H; replace H : (if (ji5) < (t354.length : Int) then (some (t362, rdOf ByteArray.empty t354 (ji5), 0)) else (none)) = some (r1, r2, r3) := H; have A8 := Aside0.mk A80; clear A80
     by_cases c9 : (ji5) < (t354.length : Int)
     ·
      rw [if_pos c9] at H; have c9b0 : decide ((ji5) < (t354.length : Int)) = true := decide_eq_true c9; clear c9; simp only [Option.some.injEq, Prod.mk.injEq] at H; obtain ⟨rfl, rfl, rfl⟩ := H
      go_enter Try.func90, Try.ntmps90
      go_wp2_with (first | (go_at_call 91; (with_reducible refine (potsherdref12_Split.calls k a0 t354 t355 _ A2.out).mono ?_); rintro e w10 ⟨v356, rfl, ho0, hb⟩; have n0_ := Aside0.mk (Kd.R_lower ho0 (below_size (by repeat (first | (with_reducible first | exact HB.out | apply wA | apply wN | apply wD) | exact HB.out)))); have n1_ := Aside0.mk (below_step (by repeat (first | (with_reducible first | exact HB.out | apply wA | apply wN | apply wD) | exact HB.out)) hb); clear HB; have HO357 := n0_; have HB := n1_; clear n0_ n1_; (try clear hb); (try clear hb2); (try clear hk); (try clear hi); (try clear ho0); obtain ⟨Ao11, co11, eo11⟩ := Kd.R_slice HO357.out; subst eo11; have q12 : ((ji5) : Int) ≤ ((t354.length : Int) : Int) := of_decide_eq_true (by first | (with_reducible assumption) | assumption); obtain ⟨i012, hi012, _, hsz12, _⟩ := info_parts info9; have hroom12 : t354.length ≤ co11 := (Kd.R_reads' HO357.out).2.1; have hC12 : Kd.C Kd.string _ Ao11 t354.length t354 := (Kd.R_reads' HO357.out).2.2; have hcut12 := cut_to (P := Try.prog) 113 9 .i64 Try.underlying113 hi012 Ao11 t354.length co11 (ji5) (of_decide_eq_true (by first | (with_reducible assumption) | assumption)) q12 hroom12; have hr12 := Kd.C_take (m := ((ji5) : Int).toNat) hC12 (by omega); have hy12 : y358.length = ((ji5) : Int).toNat := (by rw [Ny358.out, List.length_take]; omega); rw [← Ny358.out] at hr12; rw [← hy12] at hcut12; have HR361 := Aside0.mk hr12; have HC361 := Aside0.mk (show y358.length ≤ co11 from by omega); clear hr12 hC12 hroom12 hi012 hsz12; have KY12 := Aside0.mk hy12; clear hy12; have KL12 := Aside0.mk (show ((ji5) : Int).toNat ≤ t354.length from by omega); replace q12 := eq_true q12) | (go_at_call 93; (with_reducible refine (potsherdref12_Join.calls k _ _ y358 t362 _ ?side1 ?side2 A8.out).mono ?_); (case side1 => repeat (first | exact (by repeat (first | (with_reducible exact HR361.out) | (with_reducible refine Kd.C_alloc ?_ _) | (with_reducible refine Kd.C_drewN ?_ _) | (with_reducible refine Kd.C_drew ?_) | exact HR361.out)) | (with_reducible refine Kd.C_alloc ?_ _) | (with_reducible refine Kd.C_drewN ?_ _) | (with_reducible refine Kd.C_drew ?_))); (case side2 => exact HC361.out); rintro e w' ⟨rfl, ⟨nd, rfl⟩⟩; (try first | exact ⟨rfl, _, World.drewN_drewN _ _ _⟩ | exact ⟨rfl, _, Eq.trans (World.drewN_drewN _ _ _) (congrArg (World.drewN _) (Nat.add_assoc _ _ _))⟩); have p363 : 0 ≤ ((ji5) : Int) := of_decide_eq_true (by first | (with_reducible assumption) | assumption); have q363 : (ji5) < (t354.length : Int) := of_decide_eq_true (by first | (with_reducible assumption) | assumption); obtain ⟨ad363, e363, hx363_0⟩ := Kd.at_string (Kd.R_reads' HO357.out).2.2 (ji5) p363 q363; cases e363; replace p363 := eq_true p363; replace q363 := eq_true q363))
      repeat (go_quiet (first | (go_at_call 91; (with_reducible refine (potsherdref12_Split.calls k a0 t354 t355 _ A2.out).mono ?_); rintro e w10 ⟨v356, rfl, ho0, hb⟩; have n0_ := Aside0.mk (Kd.R_lower ho0 (below_size (by repeat (first | (with_reducible first | exact HB.out | apply wA | apply wN | apply wD) | exact HB.out)))); have n1_ := Aside0.mk (below_step (by repeat (first | (with_reducible first | exact HB.out | apply wA | apply wN | apply wD) | exact HB.out)) hb); clear HB; have HO357 := n0_; have HB := n1_; clear n0_ n1_; (try clear hb); (try clear hb2); (try clear hk); (try clear hi); (try clear ho0); obtain ⟨Ao11, co11, eo11⟩ := Kd.R_slice HO357.out; subst eo11; have q12 : ((ji5) : Int) ≤ ((t354.length : Int) : Int) := of_decide_eq_true (by first | (with_reducible assumption) | assumption); obtain ⟨i012, hi012, _, hsz12, _⟩ := info_parts info9; have hroom12 : t354.length ≤ co11 := (Kd.R_reads' HO357.out).2.1; have hC12 : Kd.C Kd.string _ Ao11 t354.length t354 := (Kd.R_reads' HO357.out).2.2; have hcut12 := cut_to (P := Try.prog) 113 9 .i64 Try.underlying113 hi012 Ao11 t354.length co11 (ji5) (of_decide_eq_true (by first | (with_reducible assumption) | assumption)) q12 hroom12; have hr12 := Kd.C_take (m := ((ji5) : Int).toNat) hC12 (by omega); have hy12 : y358.length = ((ji5) : Int).toNat := (by rw [Ny358.out, List.length_take]; omega); rw [← Ny358.out] at hr12; rw [← hy12] at hcut12; have HR361 := Aside0.mk hr12; have HC361 := Aside0.mk (show y358.length ≤ co11 from by omega); clear hr12 hC12 hroom12 hi012 hsz12; have KY12 := Aside0.mk hy12; clear hy12; have KL12 := Aside0.mk (show ((ji5) : Int).toNat ≤ t354.length from by omega); replace q12 := eq_true q12) | (go_at_call 93; (with_reducible refine (potsherdref12_Join.calls k _ _ y358 t362 _ ?side1 ?side2 A8.out).mono ?_); (case side1 => repeat (first | exact (by repeat (first | (with_reducible exact HR361.out) | (with_reducible refine Kd.C_alloc ?_ _) | (with_reducible refine Kd.C_drewN ?_ _) | (with_reducible refine Kd.C_drew ?_) | exact HR361.out)) | (with_reducible refine Kd.C_alloc ?_ _) | (with_reducible refine Kd.C_drewN ?_ _) | (with_reducible refine Kd.C_drew ?_))); (case side2 => exact HC361.out); rintro e w' ⟨rfl, ⟨nd, rfl⟩⟩; (try first | exact ⟨rfl, _, World.drewN_drewN _ _ _⟩ | exact ⟨rfl, _, Eq.trans (World.drewN_drewN _ _ _) (congrArg (World.drewN _) (Nat.add_assoc _ _ _))⟩); have p363 : 0 ≤ ((ji5) : Int) := of_decide_eq_true (by first | (with_reducible assumption) | assumption); have q363 : (ji5) < (t354.length : Int) := of_decide_eq_true (by first | (with_reducible assumption) | assumption); obtain ⟨ad363, e363, hx363_0⟩ := Kd.at_string (Kd.R_reads' HO357.out).2.2 (ji5) p363 q363; cases e363; replace p363 := eq_true p363; replace q363 := eq_true q363)); try go_wp2_with (first | (go_at_call 91; (with_reducible refine (potsherdref12_Split.calls k a0 t354 t355 _ A2.out).mono ?_); rintro e w10 ⟨v356, rfl, ho0, hb⟩; have n0_ := Aside0.mk (Kd.R_lower ho0 (below_size (by repeat (first | (with_reducible first | exact HB.out | apply wA | apply wN | apply wD) | exact HB.out)))); have n1_ := Aside0.mk (below_step (by repeat (first | (with_reducible first | exact HB.out | apply wA | apply wN | apply wD) | exact HB.out)) hb); clear HB; have HO357 := n0_; have HB := n1_; clear n0_ n1_; (try clear hb); (try clear hb2); (try clear hk); (try clear hi); (try clear ho0); obtain ⟨Ao11, co11, eo11⟩ := Kd.R_slice HO357.out; subst eo11; have q12 : ((ji5) : Int) ≤ ((t354.length : Int) : Int) := of_decide_eq_true (by first | (with_reducible assumption) | assumption); obtain ⟨i012, hi012, _, hsz12, _⟩ := info_parts info9; have hroom12 : t354.length ≤ co11 := (Kd.R_reads' HO357.out).2.1; have hC12 : Kd.C Kd.string _ Ao11 t354.length t354 := (Kd.R_reads' HO357.out).2.2; have hcut12 := cut_to (P := Try.prog) 113 9 .i64 Try.underlying113 hi012 Ao11 t354.length co11 (ji5) (of_decide_eq_true (by first | (with_reducible assumption) | assumption)) q12 hroom12; have hr12 := Kd.C_take (m := ((ji5) : Int).toNat) hC12 (by omega); have hy12 : y358.length = ((ji5) : Int).toNat := (by rw [Ny358.out, List.length_take]; omega); rw [← Ny358.out] at hr12; rw [← hy12] at hcut12; have HR361 := Aside0.mk hr12; have HC361 := Aside0.mk (show y358.length ≤ co11 from by omega); clear hr12 hC12 hroom12 hi012 hsz12; have KY12 := Aside0.mk hy12; clear hy12; have KL12 := Aside0.mk (show ((ji5) : Int).toNat ≤ t354.length from by omega); replace q12 := eq_true q12) | (go_at_call 93; (with_reducible refine (potsherdref12_Join.calls k _ _ y358 t362 _ ?side1 ?side2 A8.out).mono ?_); (case side1 => repeat (first | exact (by repeat (first | (with_reducible exact HR361.out) | (with_reducible refine Kd.C_alloc ?_ _) | (with_reducible refine Kd.C_drewN ?_ _) | (with_reducible refine Kd.C_drew ?_) | exact HR361.out)) | (with_reducible refine Kd.C_alloc ?_ _) | (with_reducible refine Kd.C_drewN ?_ _) | (with_reducible refine Kd.C_drew ?_))); (case side2 => exact HC361.out); rintro e w' ⟨rfl, ⟨nd, rfl⟩⟩; (try first | exact ⟨rfl, _, World.drewN_drewN _ _ _⟩ | exact ⟨rfl, _, Eq.trans (World.drewN_drewN _ _ _) (congrArg (World.drewN _) (Nat.add_assoc _ _ _))⟩); have p363 : 0 ≤ ((ji5) : Int) := of_decide_eq_true (by first | (with_reducible assumption) | assumption); have q363 : (ji5) < (t354.length : Int) := of_decide_eq_true (by first | (with_reducible assumption) | assumption); obtain ⟨ad363, e363, hx363_0⟩ := Kd.at_string (Kd.R_reads' HO357.out).2.2 (ji5) p363 q363; cases e363; replace p363 := eq_true p363; replace q363 := eq_true q363)))
      go_ret3
      exact ⟨by first | rfl | exact congrArg (fun b_ => Ending.returned (Value.bool b_)) HRET.out | (rw [HRET.out]) | (simp [errW_none, errW_some] <;> rfl) | (simp only [← hji5]; first | rfl | (simp [errW_none, errW_some] <;> rfl)) | (simp [*, errW_none, errW_some] <;> rfl), by repeat (first | (with_reducible first | exact HB.out | apply wA | apply wN | apply wD) | exact HB.out)⟩
     ·
      rw [if_neg c9] at H; exact absurd H (by simp)
    ·
     rw [if_neg c7] at H; exact absurd H (by simp)
   ·
    rw [if_neg c6] at H; exact absurd H (by simp)
 ·
  rw [if_neg c3] at H; exact absurd H (by simp)
def potsherdref12_At.l0 : Nat → Int → Int → Option (Int)
 | 0, _, _ => none
 | k + 1, x8, x9 => if x9 < x8 then (none) else (some (-1))
def potsherdref12_At.f (k : Nat) (l0 : List (S78)) (a1 : ByteArray) : Option (Int) := potsherdref12_At.l0 k (l0.length : Int) 0
theorem potsherdref12_At.mono_l : ∀ k, (∀ y0 y1, LeO (potsherdref12_At.l0 k y0 y1) (potsherdref12_At.l0 (k + 1) y0 y1))
 | 0 => fun _ _ r h => by simp [potsherdref12_At.l0] at h
 | k + 1 => by
  have ih0 := potsherdref12_At.mono_l k
  ·
   intro y0 y1
   unfold potsherdref12_At.l0
   repeat' first
   | (with_reducible exact ih0 _ _)
   | (with_reducible exact LeO.refl _)
   | (with_reducible exact LeO.none _)
   | (with_reducible refine LeO.ite ?_ ?_)
   | (with_reducible refine LeO.bind ?_ (fun _ => ?_))
   | exact ih0 _ _
   | exact LeO.none _
   | refine LeO.ite ?_ ?_
   | refine LeO.bind ?_ (fun _ => ?_)
theorem potsherdref12_At.mono : ∀ a0 a1 k, LeO (potsherdref12_At.f k a0 a1) (potsherdref12_At.f (k + 1) a0 a1) := by
 intro a0 a1 k; have ih0 := potsherdref12_At.mono_l k
 unfold potsherdref12_At.f
 repeat' first
  | (with_reducible exact ih0 _ _)
  | (with_reducible exact LeO.refl _)
  | (with_reducible exact LeO.none _)
  | (with_reducible refine LeO.ite ?_ ?_)
  | (with_reducible refine LeO.bind ?_ (fun _ => ?_))
  | exact ih0 _ _
  | exact LeO.none _
  | refine LeO.ite ?_ ?_
  | refine LeO.bind ?_ (fun _ => ?_)
set_option maxHeartbeats 8000000 in
set_option maxRecDepth 100000 in
theorem potsherdref12_At.calls (k : Nat) (A0 : Option Addr) (c0 : Nat) (l0 : List (S78)) (a1 : ByteArray) (r : Int) (w : World) (hr0 : Kd.C k78 w A0 l0.length l0) (hc0 : l0.length ≤ c0) (h : potsherdref12_At.f k l0 a1 = some r) :
 Calls Try.prog 86 #[.slice A0 l0.length c0, .string a1] w fun e w' => e = .returned (.int .i64 r) ∧ Below w.heap.size w w' := by
 have hu78 := Try.underlying78; have HR0 := Aside0.mk hr0; have HC0 := Aside0.mk hc0; clear hr0 hc0; have HB := Aside0.mk (Below.refl w.heap.size w); have H : (potsherdref12_At.l0 k (l0.length : Int) 0) = some r := h; clear h; have H' := Aside0.mk H; clear H
 go_enter Try.func86, Try.ntmps86
 go_wp2
 go_loopg [9] k (fun kq v9 w' => ∃ (x9_1 : Int), v9 = .int .i64 x9_1 ∧ Aside0 (potsherdref12_At.l0 kq (l0.length : Int) x9_1 = some r) ∧ Aside0 (kq ≤ k) ∧ Aside0 (Below w.heap.size w w'))
 case atStart => exact ⟨(0), (by first | rfl | (simp; done) | (simp [*]; done)), H', ⟨Nat.le_refl _⟩, ⟨by repeat (first | (with_reducible first | exact HB.out | apply wA | apply wN | apply wD) | exact HB.out)⟩⟩
 case round =>
  clear H'
  try clear p2
  obtain ⟨x9_1, rfl, HA, HK1, HB⟩ := hrel
  cases gk with
  | zero => exact absurd HA.out (by simp [potsherdref12_At.l0])
  | succ k1 =>
   have H := HA.out; clear HA; simp only [potsherdref12_At.l0] at H
   by_cases c3 : x9_1 < (l0.length : Int)
   ·
    rw [if_pos c3] at H; exact absurd H (by simp)
   ·
    rw [if_neg c3] at H; have c3b0 : decide (x9_1 < (l0.length : Int)) = false := decide_eq_false c3; clear c3; obtain rfl := Option.some.inj H
    go_wp2
    go_ret
    exact ⟨by first | rfl | exact congrArg (fun b_ => Ending.returned (Value.bool b_)) HRET.out | (rw [HRET.out]) | (simp [errW_none, errW_some] <;> rfl) | (simp [*, errW_none, errW_some] <;> rfl), by repeat (first | (with_reducible first | exact HB.out | apply wA | apply wN | apply wD) | exact HB.out)⟩
end Go.Proofs.Ytkigiehkckjlhaa.PMakes
