/- The Go functions that these laws reach, each as a Lean function with the same answers (a law itself where it answers true), and the proof that the code comes to them; conditions: those of each theorem. Laid by a program of this session over the print. -/
import Derived.Test.YtkigiehkckjlhaaZMakesPMakesx0
namespace Go.Proofs.Ytkigiehkckjlhaa.PMakes
open Go.RowKit Go.Proofs.YtkigiehkckjlhaaW.PrintWords Go.Proofs.YtkigiehkckjlhaaW.PrintLast Go.Proofs.YtkigiehkckjlhaaW.PrintMore
attribute [local go_sem] max2_int min2_int max_two min_two max_three min_three max_four min_four   -- for this text's walks alone
set_option linter.unusedVariables false
set_option linter.unusedSimpArgs false
open Go.Proofs.YtkigiehkckjlhaaW.PrintWords renaming blk_drewN → bN, blk_drew → bD, blk_alloc → bA, below_set → wS, below_alloc → wA, pw_below_drewN → wN, below_drew1 → wD, blk_below → bB, blk_far → bF, blk_cell → bC, blk_frozen → bZ
open List renaming setIfInBounds_toArray → lT, set_cons_zero → l0_, set_cons_succ → lS
def potsherdref12_Name.l0 : Nat → ByteArray → Int → Int → Option (Bool)
 | 0, _, _, _ => none
 | k + 1, x0, x22, x23 => if x23 < x22 then (if 0 ≤ x23 then (if x23 < (x0.size : Int) then (if (bt x0 x23) < 97 then (none) else (if (bt x0 x23) > 122 then (none) else (potsherdref12_Name.l0 k x0 x22 (wrap64 (x23 + 1))))) else (none)) else (none)) else (some true)
def potsherdref12_Name.f (k : Nat) (a0 : ByteArray) : Option (Bool) := if (a0.size : Int) < 1 then (none) else (if (a0.size : Int) > 8 then (none) else (if a0.toList = ([46] : List UInt8) then (none) else (if a0.toList = ([46, 46] : List UInt8) then (none) else (potsherdref12_Name.l0 k a0 (a0.size : Int) 0))))
theorem potsherdref12_Name.mono_l : ∀ k, (∀ y0 y1 y2, LeO (potsherdref12_Name.l0 k y0 y1 y2) (potsherdref12_Name.l0 (k + 1) y0 y1 y2))
 | 0 => fun _ _ _ r h => by simp [potsherdref12_Name.l0] at h
 | k + 1 => by
  have ih0 := potsherdref12_Name.mono_l k
  ·
   intro y0 y1 y2
   unfold potsherdref12_Name.l0
   repeat' first
   | (with_reducible exact ih0 _ _ _)
   | (with_reducible exact LeO.refl _)
   | (with_reducible exact LeO.none _)
   | (with_reducible refine LeO.ite ?_ ?_)
   | (with_reducible refine LeO.bind ?_ (fun _ => ?_))
   | exact ih0 _ _ _
   | exact LeO.none _
   | refine LeO.ite ?_ ?_
   | refine LeO.bind ?_ (fun _ => ?_)
theorem potsherdref12_Name.mono : ∀ a0 k, LeO (potsherdref12_Name.f k a0) (potsherdref12_Name.f (k + 1) a0) := by
 intro a0 k; have ih0 := potsherdref12_Name.mono_l k
 unfold potsherdref12_Name.f
 repeat' first
  | (with_reducible exact ih0 _ _ _)
  | (with_reducible exact LeO.refl _)
  | (with_reducible exact LeO.none _)
  | (with_reducible refine LeO.ite ?_ ?_)
  | (with_reducible refine LeO.bind ?_ (fun _ => ?_))
  | exact ih0 _ _ _
  | exact LeO.none _
  | refine LeO.ite ?_ ?_
  | refine LeO.bind ?_ (fun _ => ?_)
set_option maxHeartbeats 8000000 in
set_option maxRecDepth 100000 in
theorem potsherdref12_Name.calls (k : Nat) (a0 : ByteArray) (r : Bool) (w : World) (h : potsherdref12_Name.f k a0 = some r) :
 Calls Try.prog 69 #[.string a0] w fun e w' => e = .returned (.bool r) ∧ Drawn0 w w' := by
 have H : (if (a0.size : Int) < 1 then (none) else (if (a0.size : Int) > 8 then (none) else (if a0.toList = ([46] : List UInt8) then (none) else (if a0.toList = ([46, 46] : List UInt8) then (none) else (potsherdref12_Name.l0 k a0 (a0.size : Int) 0))))) = some r := h; clear h
 by_cases c2 : (a0.size : Int) < 1
 ·
  rw [if_pos c2] at H; exact absurd H (by simp)
 ·
  rw [if_neg c2] at H; have c2b0 : decide ((a0.size : Int) < 1) = false := decide_eq_false c2; have c2b1 : decide (a0.size < 1) = false := decide_eq_false (by omega); clear c2
  by_cases c3 : (a0.size : Int) > 8
  ·
   rw [if_pos c3] at H; exact absurd H (by simp)
  ·
   rw [if_neg c3] at H; have c3b0 : decide (8 < (a0.size : Int)) = false := decide_eq_false c3; have c3b1 : decide (8 < a0.size) = false := decide_eq_false (by omega); clear c3
   by_cases c4 : a0.toList = ([46] : List UInt8)
   ·
    rw [if_pos c4] at H; exact absurd H (by simp)
   ·
    rw [if_neg c4] at H; have c4b0 : (a0.toList == ([46] : List UInt8)) = false := beq_eq_false_iff_ne.mpr c4; have c4b1 : (a0.toList != ([46] : List UInt8)) = true := bne_iff_ne.mpr c4
    by_cases c5 : a0.toList = ([46, 46] : List UInt8)
    ·
     rw [if_pos c5] at H; exact absurd H (by simp)
    ·
     rw [if_neg c5] at H; have c5b0 : (a0.toList == ([46, 46] : List UInt8)) = false := beq_eq_false_iff_ne.mpr c5; have c5b1 : (a0.toList != ([46, 46] : List UInt8)) = true := bne_iff_ne.mpr c5; have H' := Aside0.mk H; clear H
     go_enter Try.func69, Try.ntmps69
     go_wp2
     go_loopg [23] k (fun kq v23 w' => ∃ (x23_1 : Int), v23 = .int .i64 x23_1 ∧ Aside0 (potsherdref12_Name.l0 kq a0 (a0.size : Int) x23_1 = some r) ∧ Aside0 (kq ≤ k) ∧ Drawn0 w w')
     case atStart => exact ⟨(0), (by first | rfl | (simp; done) | (simp [*]; done)), H', ⟨Nat.le_refl _⟩, by repeat (first | exact Drawn0.refl _ | apply Drawn0.step)⟩
     case round =>
      clear H'
      try clear c2
      try clear c2b0
      try clear c2b1
      try clear p2
      try clear c3
      try clear c3b0
      try clear c3b1
      try clear c4
      try clear c4b0
      try clear c4b1
      try clear c5
      try clear c5b0
      try clear c5b1
      obtain ⟨x23_1, rfl, HA, HK1, ⟨m1, rfl⟩⟩ := hrel
      cases gk with
      | zero => exact absurd HA.out (by simp [potsherdref12_Name.l0])
      | succ k1 =>
       have H := HA.out; clear HA; simp only [potsherdref12_Name.l0] at H
       by_cases c6 : x23_1 < (a0.size : Int)
       ·
        rw [if_pos c6] at H; have c6b0 : decide (x23_1 < (a0.size : Int)) = true := decide_eq_true c6; clear c6
        by_cases c7 : 0 ≤ x23_1
        ·
         rw [if_pos c7] at H; have c7b0 : decide (0 ≤ x23_1) = true := decide_eq_true c7; clear c7
         by_cases c8 : x23_1 < (a0.size : Int)
         ·
          rw [if_pos c8] at H; have c8b0 : decide (x23_1 < (a0.size : Int)) = true := decide_eq_true c8; clear c8
          by_cases c10 : (bt a0 x23_1) < 97
          ·
           rw [if_pos c10] at H; exact absurd H (by simp)
          ·
           rw [if_neg c10] at H; have c10b0 : decide ((bt a0 x23_1) < 97) = false := decide_eq_false c10; clear c10
           by_cases c11 : (bt a0 x23_1) > 122
           ·
            rw [if_pos c11] at H; exact absurd H (by simp)
           ·
            rw [if_neg c11] at H; have c11b0 : decide (122 < (bt a0 x23_1)) = false := decide_eq_false c11; clear c11; have H' := Aside0.mk H; clear H; have p9 : 0 ≤ (x23_1 : Int) := of_decide_eq_true (by first | (with_reducible assumption) | assumption); have q9 : x23_1 < (a0.size : Int) := of_decide_eq_true (by first | (with_reducible assumption) | assumption); have hx9 := bt_at a0 x23_1; replace p9 := eq_true p9; replace q9 := eq_true q9
            go_wp2
            go_roundg k1
            case measure => have := HK1.out; omega
            case rel => exact ⟨(wrap64 (x23_1 + 1)), (by first | rfl | (simp; done) | (simp [*]; done)), H', ⟨by have := HK1.out; omega⟩, by repeat (first | exact Drawn0.refl _ | apply Drawn0.step)⟩
         ·
          rw [if_neg c8] at H; exact absurd H (by simp)
        ·
         rw [if_neg c7] at H; exact absurd H (by simp)
       ·
        rw [if_neg c6] at H; have c6b0 : decide (x23_1 < (a0.size : Int)) = false := decide_eq_false c6; clear c6; obtain rfl := Option.some.inj H
        go_wp2
        go_ret
        exact ⟨by first | rfl | (simp; done) | (simp [*]; done), by repeat (first | exact Drawn0.refl _ | apply Drawn0.step)⟩
def potsherdref12_MayEntries.l0 : Nat → Int → Int → Option (Bool)
 | 0, _, _ => none
 | k + 1, x9, x10 => if x10 < x9 then (none) else (some true)
def potsherdref12_MayEntries.f (k : Nat) (l0 : List (S78)) : Option (Bool) := if (l0.length : Int) > 10 then (none) else (potsherdref12_MayEntries.l0 k (l0.length : Int) 0)
theorem potsherdref12_MayEntries.mono_l : ∀ k, (∀ y0 y1, LeO (potsherdref12_MayEntries.l0 k y0 y1) (potsherdref12_MayEntries.l0 (k + 1) y0 y1))
 | 0 => fun _ _ r h => by simp [potsherdref12_MayEntries.l0] at h
 | k + 1 => by
  have ih0 := potsherdref12_MayEntries.mono_l k
  ·
   intro y0 y1
   unfold potsherdref12_MayEntries.l0
   repeat' first
   | (with_reducible exact ih0 _ _)
   | (with_reducible exact potsherdref12_Name.mono _ _)
   | (with_reducible exact LeO.refl _)
   | (with_reducible exact LeO.none _)
   | (with_reducible refine LeO.ite ?_ ?_)
   | (with_reducible refine LeO.bind ?_ (fun _ => ?_))
   | exact ih0 _ _
   | exact potsherdref12_Name.mono _ _
   | exact LeO.none _
   | refine LeO.ite ?_ ?_
   | refine LeO.bind ?_ (fun _ => ?_)
theorem potsherdref12_MayEntries.mono : ∀ a0 k, LeO (potsherdref12_MayEntries.f k a0) (potsherdref12_MayEntries.f (k + 1) a0) := by
 intro a0 k; have ih0 := potsherdref12_MayEntries.mono_l k
 unfold potsherdref12_MayEntries.f
 repeat' first
  | (with_reducible exact ih0 _ _)
  | (with_reducible exact potsherdref12_Name.mono _ _)
  | (with_reducible exact LeO.refl _)
  | (with_reducible exact LeO.none _)
  | (with_reducible refine LeO.ite ?_ ?_)
  | (with_reducible refine LeO.bind ?_ (fun _ => ?_))
  | exact ih0 _ _
  | exact potsherdref12_Name.mono _ _
  | exact LeO.none _
  | refine LeO.ite ?_ ?_
  | refine LeO.bind ?_ (fun _ => ?_)
set_option maxHeartbeats 8000000 in
set_option maxRecDepth 100000 in
theorem potsherdref12_MayEntries.calls (k : Nat) (A0 : Option Addr) (c0 : Nat) (l0 : List (S78)) (r : Bool) (w : World) (hr0 : Kd.C k78 w A0 l0.length l0) (hc0 : l0.length ≤ c0) (h : potsherdref12_MayEntries.f k l0 = some r) :
 Calls Try.prog 50 #[.slice A0 l0.length c0] w fun e w' => e = .returned (.bool r) ∧ Below w.heap.size w w' := by
 have hu78 := Try.underlying78; have HR0 := Aside0.mk hr0; have HC0 := Aside0.mk hc0; clear hr0 hc0; have HB := Aside0.mk (Below.refl w.heap.size w); have H : (if (l0.length : Int) > 10 then (none) else (potsherdref12_MayEntries.l0 k (l0.length : Int) 0)) = some r := h; clear h
 by_cases c2 : (l0.length : Int) > 10
 ·
  rw [if_pos c2] at H; exact absurd H (by simp)
 ·
  rw [if_neg c2] at H; have c2b0 : decide (10 < (l0.length : Int)) = false := decide_eq_false c2; have c2b1 : decide (10 < l0.length) = false := decide_eq_false (by omega); clear c2; have H' := Aside0.mk H; clear H
  go_enter Try.func50, Try.ntmps50
  go_wp2
  repeat (go_quiet (fail); try go_wp2)
  go_loopg [10] k (fun kq v10 w' => ∃ (x10_1 : Int), v10 = .int .i64 x10_1 ∧ Aside0 (potsherdref12_MayEntries.l0 kq (l0.length : Int) x10_1 = some r) ∧ Aside0 (kq ≤ k) ∧ Aside0 (Below w.heap.size w w'))
  case atStart => exact ⟨(0), (by first | rfl | (simp; done) | (simp [*]; done)), H', ⟨Nat.le_refl _⟩, ⟨by repeat (first | (with_reducible first | exact HB.out | apply wA | apply wN | apply wD) | exact HB.out)⟩⟩
  case round =>
   clear H'
   try clear c2
   try clear c2b0
   try clear c2b1
   try clear p2
   obtain ⟨x10_1, rfl, HA, HK1, HB⟩ := hrel
   cases gk with
   | zero => exact absurd HA.out (by simp [potsherdref12_MayEntries.l0])
   | succ k1 =>
    have H := HA.out; clear HA; simp only [potsherdref12_MayEntries.l0] at H
    by_cases c3 : x10_1 < (l0.length : Int)
    ·
     rw [if_pos c3] at H; exact absurd H (by simp)
    ·
     rw [if_neg c3] at H; have c3b0 : decide (x10_1 < (l0.length : Int)) = false := decide_eq_false c3; clear c3; obtain rfl := Option.some.inj H
     go_wp2
     repeat (go_quiet (fail); try go_wp2)
     go_ret
     exact ⟨by first | rfl | exact congrArg (fun b_ => Ending.returned (Value.bool b_)) HRET.out | (rw [HRET.out]) | (simp [errW_none, errW_some] <;> rfl) | (simp [*, errW_none, errW_some] <;> rfl), by repeat (first | (with_reducible first | exact HB.out | apply wA | apply wN | apply wD) | exact HB.out)⟩
def potsherdref12_MayNode.f (k : Nat) (a0_0 : Int) (a0_1 : Int) (a0_2 : Int) (l0_3 : List Int) (l0_4 : List (S78)) : Option (Bool) := if a0_0 = 0 then (if a0_1 = 0 then (if a0_2 = 0 then (if (l0_3.length : Int) = 0 then (some ((l0_4.length : Int) == 0)) else (none)) else (none)) else (none)) else (if a0_0 = 2 then (if a0_1 = 1 then (if a0_2 = 0 then (if (l0_3.length : Int) = 0 then ((potsherdref12_MayEntries.f k l0_4).bind fun t179 => (some t179)) else (none)) else (none)) else (none)) else (none))
theorem potsherdref12_MayNode.mono : ∀ a0 a1 a2 a3 a4 k, LeO (potsherdref12_MayNode.f k a0 a1 a2 a3 a4) (potsherdref12_MayNode.f (k + 1) a0 a1 a2 a3 a4) := by
 intro a0 a1 a2 a3 a4 k
 unfold potsherdref12_MayNode.f
 repeat' first
  | (with_reducible exact potsherdref12_MayEntries.mono _ _)
  | (with_reducible exact LeO.refl _)
  | (with_reducible exact LeO.none _)
  | (with_reducible refine LeO.ite ?_ ?_)
  | (with_reducible refine LeO.bind ?_ (fun _ => ?_))
  | exact potsherdref12_MayEntries.mono _ _
  | exact LeO.none _
  | refine LeO.ite ?_ ?_
  | refine LeO.bind ?_ (fun _ => ?_)
set_option maxHeartbeats 8000000 in
set_option maxRecDepth 100000 in
theorem potsherdref12_MayNode.calls (k : Nat) (a0_0 : Int) (a0_1 : Int) (a0_2 : Int) (A0_3 : Option Addr) (c0_3 : Nat) (l0_3 : List Int) (A0_4 : Option Addr) (c0_4 : Nat) (l0_4 : List (S78)) (r : Bool) (w : World) (hr0_3 : Kd.C (Kd.int .i64) w A0_3 l0_3.length l0_3) (hc0_3 : l0_3.length ≤ c0_3) (hr0_4 : Kd.C k78 w A0_4 l0_4.length l0_4) (hc0_4 : l0_4.length ≤ c0_4) (h : potsherdref12_MayNode.f k a0_0 a0_1 a0_2 l0_3 l0_4 = some r) :
 Calls Try.prog 24 #[.agg #[.int .i64 a0_0, .int .i64 a0_1, .int .i64 a0_2, .slice A0_3 l0_3.length c0_3, .slice A0_4 l0_4.length c0_4]] w fun e w' => e = .returned (.bool r) ∧ Below w.heap.size w w' := by
 have hu28 := Try.underlying28; have HR0_3 := Aside0.mk hr0_3; have HC0_3 := Aside0.mk hc0_3; clear hr0_3 hc0_3; have HR0_4 := Aside0.mk hr0_4; have HC0_4 := Aside0.mk hc0_4; clear hr0_4 hc0_4; have HB := Aside0.mk (Below.refl w.heap.size w); have H : (if a0_0 = 0 then (if a0_1 = 0 then (if a0_2 = 0 then (if (l0_3.length : Int) = 0 then (some ((l0_4.length : Int) == 0)) else (none)) else (none)) else (none)) else (if a0_0 = 2 then (if a0_1 = 1 then (if a0_2 = 0 then (if (l0_3.length : Int) = 0 then ((potsherdref12_MayEntries.f k l0_4).bind fun t179 => (some t179)) else (none)) else (none)) else (none)) else (none))) = some r := h; clear h
 by_cases c2 : a0_0 = 0
 ·
  rw [if_pos c2] at H; have c2b0 : (a0_0 == 0) = true := beq_iff_eq.mpr c2; have c2b1 : (a0_0 != 0) = false := bne_eq_false_iff_eq.mpr c2; clear c2
  by_cases c3 : a0_1 = 0
  ·
   rw [if_pos c3] at H; have c3b0 : (a0_1 == 0) = true := beq_iff_eq.mpr c3; have c3b1 : (a0_1 != 0) = false := bne_eq_false_iff_eq.mpr c3; clear c3
   by_cases c4 : a0_2 = 0
   ·
    rw [if_pos c4] at H; have c4b0 : (a0_2 == 0) = true := beq_iff_eq.mpr c4; have c4b1 : (a0_2 != 0) = false := bne_eq_false_iff_eq.mpr c4; clear c4
    by_cases c5 : (l0_3.length : Int) = 0
    ·
     rw [if_pos c5] at H; have c5b0 : ((l0_3.length : Int) == 0) = true := beq_iff_eq.mpr c5; have c5b1 : ((l0_3.length : Int) != 0) = false := bne_eq_false_iff_eq.mpr c5; clear c5; obtain rfl := Option.some.inj H
     go_enter Try.func24, Try.ntmps24
     go_wp2_with (first | ((with_reducible refine gate_dst (N := 1) rfl ?_); (try (refine gate_guard (by rfl) ?_; dsimp only)); refine box_event ?hg (N := 1) ?hd (cs := #[.int .i64 a0_0, .int .i64 a0_1, .int .i64 a0_2, .slice A0_3 l0_3.length c0_3, .slice A0_4 l0_4.length c0_4]) (t := 28) ?hr ?_; (case hd => rfl); (case hg => rfl); (case hr => first | (go_simp; done) | (go_simp; rfl)); intro gb178 hg w6 hbox hb; have n0_ := Aside0.mk (below_step (by repeat (first | (with_reducible first | exact HB.out | apply wA | apply wN | apply wD) | exact HB.out)) hb); have n1_ := Aside0.mk (hbox); have n2_ := Aside0.mk ((by rw [hg]; exact (below_size (by repeat (first | (with_reducible first | exact HB.out | apply wA | apply wN | apply wD) | exact HB.out))) : w.heap.size ≤ gb178)); have n3_ := Aside0.mk ((by rw [hg]; exact (below_size (by repeat (first | (with_reducible first | exact HB.out | apply wA | apply wN | apply wD) | exact HB.out))) : w.heap.size ≤ gb178)); clear HB; have HB := n0_; have BK178 := n1_; have GW178 := n2_; have GE178 := n3_; clear n0_ n1_ n2_ n3_; clear hb hbox hg; have hcz7_0 : w6.cell? ⟨gb178, 0, none⟩ = some (.int .i64 a0_0) := (bC BK178.out 0).trans rfl; have hcz7_1 : w6.cell? ⟨gb178, 1, none⟩ = some (.int .i64 a0_1) := (bC BK178.out 1).trans rfl; have hcz7_2 : w6.cell? ⟨gb178, 2, none⟩ = some (.int .i64 a0_2) := (bC BK178.out 2).trans rfl; have hcz7_3 : w6.cell? ⟨gb178, 3, none⟩ = some (.slice A0_3 l0_3.length c0_3) := (bC BK178.out 3).trans rfl; have hcz7_4 : w6.cell? ⟨gb178, 4, none⟩ = some (.slice A0_4 l0_4.length c0_4) := (bC BK178.out 4).trans rfl; have hfz7_0 := bZ BK178.out 0; have hfz7_1 := bZ BK178.out 1; have hfz7_2 := bZ BK178.out 2; have hfz7_3 := bZ BK178.out 3; have hfz7_4 := bZ BK178.out 4))
     go_ret
     exact ⟨by first | rfl | exact congrArg (fun b_ => Ending.returned (Value.bool b_)) HRET.out | (rw [HRET.out]) | (simp [errW_none, errW_some] <;> rfl) | (simp [*, errW_none, errW_some] <;> rfl), by repeat (first | (with_reducible first | exact HB.out | apply wA | apply wN | apply wD | refine wS ?_ GE178.out) | exact HB.out)⟩
    ·
     rw [if_neg c5] at H; exact absurd H (by simp)
   ·
    rw [if_neg c4] at H; exact absurd H (by simp)
  ·
   rw [if_neg c3] at H; exact absurd H (by simp)
 ·
  rw [if_neg c2] at H; have c2b0 : (a0_0 == 0) = false := beq_eq_false_iff_ne.mpr c2; have c2b1 : (a0_0 != 0) = true := bne_iff_ne.mpr c2
  by_cases c8 : a0_0 = 2
  ·
   rw [if_pos c8] at H; have c8b0 : (a0_0 == 2) = true := beq_iff_eq.mpr c8; have c8b1 : (a0_0 != 2) = false := bne_eq_false_iff_eq.mpr c8; clear c8
   by_cases c9 : a0_1 = 1
   ·
    rw [if_pos c9] at H; have c9b0 : (a0_1 == 1) = true := beq_iff_eq.mpr c9; have c9b1 : (a0_1 != 1) = false := bne_eq_false_iff_eq.mpr c9; clear c9
    by_cases c10 : a0_2 = 0
    ·
     rw [if_pos c10] at H; have c10b0 : (a0_2 == 0) = true := beq_iff_eq.mpr c10; have c10b1 : (a0_2 != 0) = false := bne_eq_false_iff_eq.mpr c10; clear c10
     by_cases c11 : (l0_3.length : Int) = 0
     ·
      rw [if_pos c11] at H; have c11b0 : ((l0_3.length : Int) == 0) = true := beq_iff_eq.mpr c11; have c11b1 : ((l0_3.length : Int) != 0) = false := bne_eq_false_iff_eq.mpr c11; clear c11; replace H := Option.bind_eq_some_iff.mp H; obtain ⟨t179, A120, H⟩ := H; replace H : (some t179) = some r := H; have A12 := Aside0.mk A120; clear A120; obtain rfl := Option.some.inj H
      go_enter Try.func24, Try.ntmps24
      go_wp2_with (first | ((with_reducible refine gate_dst (N := 1) rfl ?_); (try (refine gate_guard (by rfl) ?_; dsimp only)); refine box_event ?hg (N := 1) ?hd (cs := #[.int .i64 a0_0, .int .i64 a0_1, .int .i64 a0_2, .slice A0_3 l0_3.length c0_3, .slice A0_4 l0_4.length c0_4]) (t := 28) ?hr ?_; (case hd => rfl); (case hg => rfl); (case hr => first | (go_simp; done) | (go_simp; rfl)); intro gb178 hg w13 hbox hb; have n0_ := Aside0.mk (below_step (by repeat (first | (with_reducible first | exact HB.out | apply wA | apply wN | apply wD) | exact HB.out)) hb); have n1_ := Aside0.mk (hbox); have n2_ := Aside0.mk ((by rw [hg]; exact (below_size (by repeat (first | (with_reducible first | exact HB.out | apply wA | apply wN | apply wD) | exact HB.out))) : w.heap.size ≤ gb178)); have n3_ := Aside0.mk ((by rw [hg]; exact (below_size (by repeat (first | (with_reducible first | exact HB.out | apply wA | apply wN | apply wD) | exact HB.out))) : w.heap.size ≤ gb178)); clear HB; have HB := n0_; have BK178 := n1_; have GW178 := n2_; have GE178 := n3_; clear n0_ n1_ n2_ n3_; clear hb hbox hg; have hcz14_0 : w13.cell? ⟨gb178, 0, none⟩ = some (.int .i64 a0_0) := (bC BK178.out 0).trans rfl; have hcz14_1 : w13.cell? ⟨gb178, 1, none⟩ = some (.int .i64 a0_1) := (bC BK178.out 1).trans rfl; have hcz14_2 : w13.cell? ⟨gb178, 2, none⟩ = some (.int .i64 a0_2) := (bC BK178.out 2).trans rfl; have hcz14_3 : w13.cell? ⟨gb178, 3, none⟩ = some (.slice A0_3 l0_3.length c0_3) := (bC BK178.out 3).trans rfl; have hcz14_4 : w13.cell? ⟨gb178, 4, none⟩ = some (.slice A0_4 l0_4.length c0_4) := (bC BK178.out 4).trans rfl; have hfz14_0 := bZ BK178.out 0; have hfz14_1 := bZ BK178.out 1; have hfz14_2 := bZ BK178.out 2; have hfz14_3 := bZ BK178.out 3; have hfz14_4 := bZ BK178.out 4) | (go_at_call 50; (with_reducible refine (potsherdref12_MayEntries.calls k _ _ l0_4 t179 _ ?side1 ?side2 A12.out).mono ?_); (case side1 => repeat (first | exact (Kd.C_below HR0_4.out HB.out) | (with_reducible refine Kd.C_alloc ?_ _) | (with_reducible refine Kd.C_drewN ?_ _) | (with_reducible refine Kd.C_drew ?_))); (case side2 => exact HC0_4.out); rintro e w15 ⟨rfl, hb⟩; have n0_ := Aside0.mk (bB (g := gb178) (o := .cells #[.int .i64 a0_0, .int .i64 a0_1, .int .i64 a0_2, .slice A0_3 l0_3.length c0_3, .slice A0_4 l0_4.length c0_4] 28 (0, 0)) (by (with_reducible repeat (first | refine bN ?_ _ | refine bD ?_ | refine bA ?_ _)); exact BK178.out) hb); have n1_ := Aside0.mk (below_step (by repeat (first | (with_reducible first | exact HB.out | apply wA | apply wN | apply wD | refine wS ?_ GE178.out) | exact HB.out)) hb); clear BK178; clear HB; have BK178 := n0_; have HB := n1_; clear n0_ n1_; (try clear hb); (try clear hb2); (try clear hk); (try clear hi)))
      go_ret
      exact ⟨by first | rfl | exact congrArg (fun b_ => Ending.returned (Value.bool b_)) HRET.out | (rw [HRET.out]) | (simp [errW_none, errW_some] <;> rfl) | (simp [*, errW_none, errW_some] <;> rfl), by repeat (first | (with_reducible first | exact HB.out | apply wA | apply wN | apply wD | refine wS ?_ GE178.out) | exact HB.out)⟩
     ·
      rw [if_neg c11] at H; exact absurd H (by simp)
    ·
     rw [if_neg c10] at H; exact absurd H (by simp)
   ·
    rw [if_neg c9] at H; exact absurd H (by simp)
  ·
   rw [if_neg c8] at H; exact absurd H (by simp)
end Go.Proofs.Ytkigiehkckjlhaa.PMakes
