/- The Go functions that these laws reach, each as a Lean function with the same answers (a law itself where it answers true), and the proof that the code comes to them; conditions: those of each theorem. Laid by a program of this session over the print. -/
import Derived.Test.YtkigiehkckjlhaaZGrowsPGrowsShort
import Derived.Test.YtkigiehkckjlhaaZGrowsPGrowsx0
import Derived.Test.YtkigiehkckjlhaaZGrowsPGrowsx2
import Derived.Test.YtkigiehkckjlhaaZGrowsPGrowsx4
import Derived.Test.YtkigiehkckjlhaaZGrowsPGrowsx29
namespace Go.Proofs.Ytkigiehkckjlhaa.PGrows
open Go.RowKit Go.Proofs.YtkigiehkckjlhaaW.PrintWords Go.Proofs.YtkigiehkckjlhaaW.PrintLast Go.Proofs.YtkigiehkckjlhaaW.PrintMore
attribute [local go_sem] max2_int min2_int max_two min_two max_three min_three max_four min_four   -- for this text's walks alone
set_option linter.unusedVariables false
set_option linter.unusedSimpArgs false
open Go.Proofs.YtkigiehkckjlhaaW.PrintWords renaming blk_drewN → bN, blk_drew → bD, blk_alloc → bA, below_set → wS, below_alloc → wA, pw_below_drewN → wN, below_drew1 → wD, blk_below → bB, blk_far → bF, blk_cell → bC, blk_frozen → bZ
open List renaming setIfInBounds_toArray → lT, set_cons_zero → l0_, set_cons_succ → lS
abbrev B31_0 : Array Bool := #[false, false, false, false, false, false, false, false, false, false, false, false, false, false, false]
abbrev B31_1 : Array Bool := B31_0.set! 0 true
abbrev B31_2 : Array Bool := B31_1.set! 1 true
abbrev B31_3 : Array Bool := B31_2.set! 2 true
abbrev B31_4 : Array Bool := B31_3.set! 4 true
abbrev B31_5 : Array Bool := B31_4.set! 5 true
abbrev B31_6 : Array Bool := B31_5.set! 6 true
abbrev B31_7 : Array Bool := B31_6.set! 9 true
abbrev B31_8 : Array Bool := B31_7.set! 10 true
abbrev B31_9 : Array Bool := B31_8.set! 11 true
abbrev B31_10 : Array Bool := #[true, true, true, true, true, true, true, true, false, true, true, true, false, false, false]
abbrev B31_11 : Array Bool := B31_9.set! 3 true
abbrev B31_12 : Array Bool := B31_9.set! 7 true
abbrev B31_13 : Array Bool := B31_10.set! 8 true
abbrev B31_14 : Array Bool := B31_13.set! 12 true
abbrev B31_15 : Array Bool := B31_14.set! 13 true
abbrev B31_16 : Array Bool := B31_15.set! 14 true
mutual
def potsherdref12_With.j0 : Nat → List (S78) → ByteArray → Int → Bool → Option ((List (S78)) × Int)
 | 0, _, _, _, _ => none
 | k + 1, x0, x1, x2, x9 => if x9 = true then (none) else ((potsherdref12_At.f k x0 x1).bind fun t393 => (if t393 ≥ 0 then (none) else (if (x0.length : Int) ≥ 10 then (none) else (potsherdref12_With.l0 k x0 x1 x2 0))))
def potsherdref12_With.l0 : Nat → List (S78) → ByteArray → Int → Int → Option ((List (S78)) × Int)
 | 0, _, _, _, _ => none
 | k + 1, x0, x1, x2, x8 => if x8 < (x0.length : Int) then (none) else (if 0 ≤ x8 then (if x8 ≤ (x0.length : Int) then ((some (x0.take (x8 : Int).toNat : List (S78))).bind fun y415 => (if ([] : List (S78)).length + y415.length < 5864062014805 then ((some (([] : List (S78)) ++ y415 : List (S78))).bind fun y419 => ((some (([(⟨x1, x2⟩ : S78)] : List (S78)) : List (S78))).bind fun y422 => (if y419.length + y422.length < 5864062014805 then ((some (y419 ++ y422 : List (S78))).bind fun y425 => ((some (x0.drop (x8 : Int).toNat : List (S78))).bind fun y428 => (if y425.length + y428.length < 5864062014805 then (some ((y425 ++ y428), 0)) else (none)))) else (none)))) else (none))) else (none)) else (none))
end
def potsherdref12_With.f (k : Nat) (l0 : List (S78)) (a1 : ByteArray) (a2 : Int) : Option ((List (S78)) × Int) := (potsherdref12_MayEntries.f k l0).bind fun t391 => (if t391 = true then ((potsherdref12_Name.f k a1).bind fun t392 => (if t392 = true then (if a2 < 1 then (none) else (potsherdref12_With.j0 k l0 a1 a2 (decide (a2 ≥ 12)))) else (none))) else (none))
theorem potsherdref12_With.mono_l : ∀ k, (∀ y0 y1 y2 y3, LeO (potsherdref12_With.j0 k y0 y1 y2 y3) (potsherdref12_With.j0 (k + 1) y0 y1 y2 y3)) ∧ (∀ y0 y1 y2 y3, LeO (potsherdref12_With.l0 k y0 y1 y2 y3) (potsherdref12_With.l0 (k + 1) y0 y1 y2 y3))
 | 0 => ⟨fun _ _ _ _ r h => by simp [potsherdref12_With.j0] at h, fun _ _ _ _ r h => by simp [potsherdref12_With.l0] at h⟩
 | k + 1 => by
  obtain ⟨ih0, ih1⟩ := potsherdref12_With.mono_l k; refine ⟨?_, ?_⟩
  ·
   intro y0 y1 y2 y3
   unfold potsherdref12_With.j0
   repeat' with_reducible first | apply ih0 | apply ih1 | apply potsherdref12_At.mono | apply potsherdref12_MayEntries.mono | apply potsherdref12_Name.mono | exact LeO.refl _ | exact LeO.none _ | refine LeO.ite ?_ ?_ | refine LeO.bind ?_ (fun _ => ?_)
  ·
   intro y0 y1 y2 y3
   unfold potsherdref12_With.l0
   repeat' with_reducible first | apply ih0 | apply ih1 | apply potsherdref12_At.mono | apply potsherdref12_MayEntries.mono | apply potsherdref12_Name.mono | exact LeO.refl _ | exact LeO.none _ | refine LeO.ite ?_ ?_ | refine LeO.bind ?_ (fun _ => ?_)
theorem potsherdref12_With.mono : ∀ a0 a1 a2 k, LeO (potsherdref12_With.f k a0 a1 a2) (potsherdref12_With.f (k + 1) a0 a1 a2) := by
 intro a0 a1 a2 k; obtain ⟨ih0, ih1⟩ := potsherdref12_With.mono_l k
 unfold potsherdref12_With.f
 repeat' with_reducible first | apply ih0 | apply ih1 | apply potsherdref12_At.mono | apply potsherdref12_MayEntries.mono | apply potsherdref12_Name.mono | exact LeO.refl _ | exact LeO.none _ | refine LeO.ite ?_ ?_ | refine LeO.bind ?_ (fun _ => ?_)
def potsherdref12_With.T10 : Bool × List (List Nat × List Nat) := (true, [([], []), ([], []), ([0, 1], [0, 1]), ([2], [2]), ([], []), ([], []), ([4, 5], [4, 5]), ([6], [6]), ([3, 7, 3], [3, 7]), ([], []), ([], []), ([9, 10], [9, 10]), ([8, 11, 8], [8, 11]), ([12, 12, 0, 1, 2, 3, 4, 5, 6, 7, 8, 9, 10, 11, 12], [12]), ([13, 0, 1, 2, 3, 4, 5, 6, 7, 8, 9, 10, 11, 12, 13], [])])
def potsherdref12_With.B10 : List Nat := [0, 0, 3, 7, 0, 0, 48, 112, 255, 0, 0, 1536, 4095, 8191, 16383]
theorem potsherdref12_With.tab10 : rtab .any (opsOf Try.f88 10) = potsherdref12_With.T10 := by kernel_rfl
theorem potsherdref12_With.bits10 : waitsOk potsherdref12_With.T10.2 potsherdref12_With.B10 = true := by kernel_rfl
set_option maxHeartbeats 8000000 in
set_option maxRecDepth 100000 in
theorem potsherdref12_With.calls (k : Nat) (A0 : Option Addr) (c0 : Nat) (l0 : List (S78)) (a1 : ByteArray) (a2 : Int) (r1 : List (S78)) (r2 : Int) (w : World) (hr0 : Kd.C k78 w A0 l0.length l0) (hc0 : l0.length ≤ c0) (h : potsherdref12_With.f k l0 a1 a2 = some (r1, r2)) :
 Calls Try.prog 88 #[.slice A0 l0.length c0, .string a1, .int .i64 a2] w fun e w' => ∃ v0_ : Value, e = .returned (.tuple #[v0_, .int .i64 r2]) ∧ Kd.R k78 78 w' w.heap.size (fun _ => True) v0_ r1 ∧ Below w.heap.size w w' := by
 have hu78 := Try.underlying78; have HR0 := Aside0.mk hr0; have HC0 := Aside0.mk hc0; clear hr0 hc0; have HB := Aside0.mk (Below.refl w.heap.size w); have H : ((potsherdref12_MayEntries.f k l0).bind fun t391 => (if t391 = true then ((potsherdref12_Name.f k a1).bind fun t392 => (if t392 = true then (if a2 < 1 then (none) else (potsherdref12_With.j0 k l0 a1 a2 (decide (a2 ≥ 12)))) else (none))) else (none))) = some (r1, r2) := h; clear h; have HC4 := Aside0.mk H; clear H
 go_enter Try.func88, Try.ntmps88
 go_upto_region 1 with (fail)
 go_cut [9] (fun v9 wc => ∃ (kq : Nat) (x9_3 : Bool), v9 = .bool x9_3 ∧ Aside0 (potsherdref12_With.j0 kq l0 a1 a2 x9_3 = some (r1, r2)) ∧ Aside0 (kq ≤ k) ∧ Aside0 (Below w.heap.size w wc))
 case first =>
  have H := HC4.out; clear HC4; replace H := Option.bind_eq_some_iff.mp H; obtain ⟨t391, A50, H⟩ := H; have A5 := Aside0.mk A50; clear A50
  by_cases c6 : t391 = true
  ·
   subst c6
   have H1 : ((potsherdref12_Name.f k a1).bind fun t392 => (if t392 = true then (if a2 < 1 then (none) else (potsherdref12_With.j0 k l0 a1 a2 (decide (a2 ≥ 12)))) else (none))) = some (r1, r2) := by rw [if_pos rfl] at H; exact H
   clear H; have H := H1; clear H1; replace H := Option.bind_eq_some_iff.mp H; obtain ⟨t392, A70, H⟩ := H; have A7 := Aside0.mk A70; clear A70
   by_cases c8 : t392 = true
   ·
    subst c8
    have H1 : (if a2 < 1 then (none) else (potsherdref12_With.j0 k l0 a1 a2 (decide (a2 ≥ 12)))) = some (r1, r2) := by rw [if_pos rfl] at H; exact H
    clear H; have H := H1; clear H1
    replace H := nQ H; obtain ⟨c9, H⟩ := H; have c9b0 := decide_eq_false c9; clear c9
    (first | rw [c9b0] | (simp only [i64_w, i32_w]; rw [c9b0]) | skip)
    have H' := Aside0.mk H; clear H
    go_wp2_with (first | ((with_reducible refine gate_callee (f := 50) rfl ?_); refine goesK (some 11) Try.func50 #[.slice A0 l0.length c0] ?_; (with_reducible refine (potsherdref12_MayEntries.calls k _ _ l0 true _ ?side1 ?side2 A5.out).mono ?_); (case side1 => exact mC HR0 HB); (case side2 => exact HC0.out); rintro e w10 ⟨rfl, hb⟩; refine ⟨_, rfl, ?_⟩; replace HB := kH HB hb; (try clear hb)) | (go_at_call 69; (with_reducible refine (potsherdref12_Name.calls k a1 true _ A7.out).mono ?_); rintro e w' ⟨rfl, ⟨nd, rfl⟩⟩))
    go_meet
    case rel => exact ⟨_, (decide (a2 ≥ 12)), sI, H', ⟨by first | omega | exact Nat.le_refl _⟩, ⟨mH HB⟩⟩
   ·
    replace c8 := Bool.eq_false_iff.mpr c8; subst c8
    have H1 : (none) = some (r1, r2) := by rw [if_neg (show ¬ (false = true) by decide)] at H; exact H
    clear H; have H := H1; clear H1; exact absurd H (by simp)
  ·
   replace c6 := Bool.eq_false_iff.mpr c6; subst c6
   have H1 : (none) = some (r1, r2) := by rw [if_neg (show ¬ (false = true) by decide)] at H; exact H
   clear H; have H := H1; clear H1; exact absurd H (by simp)
 case rest =>
  clear HC4
  obtain ⟨kq, x9_3, rfl, HA, HJ3, HB⟩ := hcut
  cases kq with
  | zero => exact absurd HA.out (by simp [potsherdref12_With.j0])
  | succ kj3 =>
   have H := HA.out; clear HA; simp only [potsherdref12_With.j0] at H
   by_cases c11 : x9_3 = true
   ·
    subst c11
    have H1 : (none) = some (r1, r2) := by rw [if_pos rfl] at H; exact H
    clear H; have H := H1; clear H1; exact absurd H (by simp)
   ·
    replace c11 := Bool.eq_false_iff.mpr c11; subst c11
    have H1 : ((potsherdref12_At.f kj3 l0 a1).bind fun t393 => (if t393 ≥ 0 then (none) else (if (l0.length : Int) ≥ 10 then (none) else (potsherdref12_With.l0 kj3 l0 a1 a2 0)))) = some (r1, r2) := by rw [if_neg (show ¬ (false = true) by decide)] at H; exact H
    clear H; have H := H1; clear H1; replace H := Option.bind_eq_some_iff.mp H; obtain ⟨t393, A120, H⟩ := H; have A12 := Aside0.mk A120; clear A120
    replace H := nQ H; obtain ⟨c13, H⟩ := H; have c13b0 : decide (0 ≤ t393) = false := decide_eq_false c13; clear c13
    replace H := nQ H; obtain ⟨c14, H⟩ := H; have c14b0 : decide (10 ≤ (l0.length : Int)) = false := decide_eq_false c14; have c14b1 : decide (10 ≤ l0.length) = false := decide_eq_false (by omega); clear c14; have H' := Aside0.mk H; clear H
    go_wp2_with (first | ((with_reducible refine gate_callee (f := 86) rfl ?_); refine goesK (some 29) Try.func86 #[.slice A0 l0.length c0, .string a1] ?_; (with_reducible refine (potsherdref12_At.calls kj3 _ _ l0 a1 t393 _ ?side1 ?side2 A12.out).mono ?_); (case side1 => exact mC HR0 HB); (case side2 => exact HC0.out); rintro e w15 ⟨rfl, hb⟩; refine ⟨_, rfl, ?_⟩; replace HB := kH HB hb; (try clear hb)))
    go_loopg [8] kj3 (fun kq v8 w' => ∃ (x8_2 : Int), v8 = .int .i64 x8_2 ∧ Aside0 (potsherdref12_With.l0 kq l0 a1 a2 x8_2 = some (r1, r2)) ∧ Aside0 (kq ≤ kj3) ∧ Aside0 (Below w.heap.size w w'))
    case atStart => exact ⟨(0), sI, H', ⟨Nat.le_refl _⟩, ⟨mH HB⟩⟩
    case round =>
     clear H'
     (try clear c11); (try clear c13); (try clear c13b0); (try clear c14); (try clear c14b0); (try clear c14b1)
     obtain ⟨x8_2, rfl, HA, HK2, HB⟩ := hrel
     cases gk with
     | zero => exact absurd HA.out (by simp [potsherdref12_With.l0])
     | succ k2 =>
      have H := HA.out; clear HA; simp only [potsherdref12_With.l0] at H
      replace H := nQ H; obtain ⟨c16, H⟩ := H; have c16b0 := decide_eq_false c16; clear c16
      replace H := nP H; obtain ⟨c17, H⟩ := H; have c17b0 := eq_true c17; have c17b1 := decide_eq_true c17; clear c17
      replace H := nP H; obtain ⟨c18, H⟩ := H; have c18b0 := eq_true c18; have c18b1 := decide_eq_true c18; clear c18; obtain ⟨y415, hy415⟩ : ∃ y_ : List (S78), y_ = (l0.take (x8_2 : Int).toNat) := ⟨_, rfl⟩
      replace H : (if ([] : List (S78)).length + y415.length < 5864062014805 then ((some (([] : List (S78)) ++ y415 : List (S78))).bind fun y419 => ((some (([(⟨a1, a2⟩ : S78)] : List (S78)) : List (S78))).bind fun y422 => (if y419.length + y422.length < 5864062014805 then ((some (y419 ++ y422 : List (S78))).bind fun y425 => ((some (l0.drop (x8_2 : Int).toNat : List (S78))).bind fun y428 => (if y425.length + y428.length < 5864062014805 then (some ((y425 ++ y428), 0)) else (none)))) else (none)))) else (none)) = some (r1, r2) := rH H hy415
      have Ny415 := Aside0.mk hy415; clear hy415
      replace H := nP H; obtain ⟨c19, H⟩ := H; have LMc19 := Aside0.mk c19; clear c19; obtain ⟨y419, hy419⟩ : ∃ y_ : List (S78), y_ = (([] : List (S78)) ++ y415) := ⟨_, rfl⟩
      replace H : ((some (([(⟨a1, a2⟩ : S78)] : List (S78)) : List (S78))).bind fun y422 => (if y419.length + y422.length < 5864062014805 then ((some (y419 ++ y422 : List (S78))).bind fun y425 => ((some (l0.drop (x8_2 : Int).toNat : List (S78))).bind fun y428 => (if y425.length + y428.length < 5864062014805 then (some ((y425 ++ y428), 0)) else (none)))) else (none))) = some (r1, r2) := rH H hy419
      have Ny419 := Aside0.mk hy419; clear hy419; obtain ⟨y422, hy422⟩ : ∃ y_ : List (S78), y_ = (([(⟨a1, a2⟩ : S78)] : List (S78))) := ⟨_, rfl⟩
      replace H : (if y419.length + y422.length < 5864062014805 then ((some (y419 ++ y422 : List (S78))).bind fun y425 => ((some (l0.drop (x8_2 : Int).toNat : List (S78))).bind fun y428 => (if y425.length + y428.length < 5864062014805 then (some ((y425 ++ y428), 0)) else (none)))) else (none)) = some (r1, r2) := rH H hy422
      have Ny422 := Aside0.mk hy422; clear hy422
      replace H := nP H; obtain ⟨c20, H⟩ := H; have LMc20 := Aside0.mk c20; clear c20; obtain ⟨y425, hy425⟩ : ∃ y_ : List (S78), y_ = (y419 ++ y422) := ⟨_, rfl⟩
      replace H : ((some (l0.drop (x8_2 : Int).toNat : List (S78))).bind fun y428 => (if y425.length + y428.length < 5864062014805 then (some ((y425 ++ y428), 0)) else (none))) = some (r1, r2) := rH H hy425
      have Ny425 := Aside0.mk hy425; clear hy425; have c21b0 := eq_true (dT : 0 ≤ x8_2); have c22b0 := eq_true (dT : x8_2 ≤ (l0.length : Int)); obtain ⟨y428, hy428⟩ : ∃ y_ : List (S78), y_ = (l0.drop (x8_2 : Int).toNat) := ⟨_, rfl⟩
      replace H : (if y425.length + y428.length < 5864062014805 then (some ((y425 ++ y428), 0)) else (none)) = some (r1, r2) := rH H hy428
      have Ny428 := Aside0.mk hy428; clear hy428
      replace H := nP H; obtain ⟨c23, H⟩ := H; have LMc23 := Aside0.mk c23; clear c23; obtain ⟨y432, hy432⟩ : ∃ y_ : List (S78), y_ = (y425 ++ y428) := ⟨_, rfl⟩
      replace H : (some (y432, 0)) = some (r1, r2) := rH H hy432
      have Ny432 := Aside0.mk hy432; clear hy432; simp only [Option.some.injEq, Prod.mk.injEq] at H; obtain ⟨rfl, rfl⟩ := H
      try go_wp2
      replace HB := Aside0.mk (wD HB.out); have q25 : (x8_2 : Int) ≤ ((l0.length : Int) : Int) := dT; obtain ⟨i025, hi025, _, hsz25, _⟩ := info_parts info78; have hroom25 : l0.length ≤ c0 := HC0.out; have hC25 : Kd.C k78 _ A0 l0.length l0 := HR0.out; have hcut25 := cut_to (P := Try.prog) 26 78 .i64 Try.underlying26 hi025 A0 l0.length c0 x8_2 (dT) q25 hroom25; have hr25 := Kd.C_take (m := (x8_2 : Int).toNat) hC25 (by omega); have hy25 : y415.length = (x8_2 : Int).toNat := (by rw [Ny415.out, List.length_take]; omega)
      rw [← Ny415.out] at hr25; rw [← hy25] at hcut25; have HR418 := Aside0.mk hr25; have HC418 := Aside0.mk (show y415.length ≤ c0 from by omega); clear hr25 hC25 hroom25 hi025 hsz25; have KY25 := Aside0.mk hy25; clear hy25; replace q25 := eq_true q25; have q26 : (x8_2 : Int) ≤ ((l0.length : Int) : Int) := dT; obtain ⟨i026, hi026, _, hsz26, _⟩ := info_parts info78; have hroom26 : l0.length ≤ c0 := HC0.out; have hC26 : Kd.C k78 _ A0 l0.length l0 := HR0.out; have q026 : (0 : Int) ≤ (x8_2 : Int) := dT; have hcut26 := cut_from (P := Try.prog) 26 78 .i64 Try.underlying26 hi026 2 hsz26 A0 l0.length c0 x8_2 q026 q26; have hr26 := Kd.C_drop (m := (x8_2 : Int).toNat) (c := c0) hC26 (by omega) hroom26; obtain ⟨A26, hA26⟩ : ∃ A1, A1 = (if c0 = (x8_2 : Int).toNat then A0 else (A0 : Option Addr).map (·.add ((x8_2 : Int).toNat * 2))) := ⟨_, rfl⟩; obtain ⟨c26, hc26⟩ : ∃ c1, c1 = c0 - (x8_2 : Int).toNat := ⟨_, rfl⟩; have hy26 : y428.length = l0.length - (x8_2 : Int).toNat := (by rw [Ny428.out, List.length_drop] <;> omega); rw [show (l0).drop (x8_2 : Int).toNat = y428 from Ny428.out.symm] at hr26; replace hr26 : Kd.C k78 _ A26 y428.length y428 := (by rw [hA26]; exact hr26)
      rw [← hy26, ← hA26, ← hc26] at hcut26; have HR431 := Aside0.mk hr26; have HC431 := Aside0.mk (show y428.length ≤ c26 from by rw [hy26, hc26]; exact Nat.sub_le_sub_right hroom26 _)
      clear hr26 hC26 hroom26 hi026 hsz26 hc26; have KY26 := Aside0.mk hy26; have KA26 := Aside0.mk hA26; clear hy26 hA26; replace q26 := eq_true q26; refine start_ (n := 15) (S := fun w' => True) (ds := []) B31_0 (by kernel_rfl) rfl rfl trivial (fun hHeld => ?_); refine with_tabW potsherdref12_With.tab10 potsherdref12_With.bits10 (fun HT_ HW_ => ?_); generalize wr.drew = w24 at HB HR418 HR431 hHeld ⊢; refine pure_ (i := 0) (N := some 50) (v := ?_) (a' := ?_) B31_1 rfl rfl (any_of HT_.out (by kernel_rfl)) (fun _ _ _ h => h) (Or.inl ⟨by rfl, ?_⟩) ?_ ?_; rotate_left
      ·
       intro w'; go_simp; with_reducible rfl
      rotate_left
      ·
       simp only [Act.put, lT, l0_, lS, i64_w, i32_w]; rfl
      refine pureE 1 (some 51) B31_2 (any_of HT_.out (by kernel_rfl)) ?_
      refine pureE 2 (some 52) B31_3 (any_of HT_.out (by kernel_rfl)) ?_
      refine pureE 4 (some 54) B31_4 (any_of HT_.out (by kernel_rfl)) ?_
      refine pureE 5 (some 55) B31_5 (any_of HT_.out (by kernel_rfl)) ?_
      refine pureE 6 (some 56) B31_6 (any_of HT_.out (by kernel_rfl)) ?_
      refine pureE 9 (some 59) B31_7 (any_of HT_.out (by kernel_rfl)) ?_
      refine pureE 10 (some 60) B31_8 (any_of HT_.out (by kernel_rfl)) ?_
      refine pureE 11 (some 61) B31_9 (any_of HT_.out (by kernel_rfl)) ?_
      refine join_ (σ := Value × Value) 4 B31_10 (fun s_ => [(53, s_.1), (57, s_.2)]) (fun s_ w' => (Kd.R k78 78 w' w.heap.size (fun k_ => some k_ ≠ (s_.2 : Value).ownBlock) s_.1 y419) ∧ (Kd.R k78 78 w' w.heap.size (fun k_ => some k_ ≠ (s_.1 : Value).ownBlock) s_.2 y422) ∧ (Below w.heap.size w w')) ?_ ?_; rotate_left
      ·
       intro hCont; refine two_ (i := 3) (j := 7) (Ni := some 53) (Nj := some 57) B31_11 B31_12 rfl rfl rfl rfl (two_of HT_.out (by kernel_rfl)) (by decide) (by decide) (fun K hK => ?_) (fun K hK => ?_)
       ·
        skip
        refine Kd.R_append_rows_step k78 (w0 := w) w.heap.size rfl (.const (.slice none 0 0)) (.tmp 52) 26 78 (.agg #[(.string ⟨#[]⟩), (.int .i64 0)]) 24 rfl Try.underlying26 info78 rfl (by decide) (by omega) (.slice none 0 0) ([] : List (S78)) y415 _ _ _ (fun _ => True) (fun _ => False) rfl rfl ?aO ?aR (fun _ _ h => h) (fun _ h => h.elim) ?aF ?aB ?aS ?aL ?_
        (case aR => repeat (first | exact (Kd.C_below HR418.out HB.out) | (with_reducible refine Kd.C_alloc ?_ _) | (with_reducible refine Kd.C_drewN ?_ _) | (with_reducible refine Kd.C_drew ?_)))
        (case aB => exact (mH HB))
        (case aF => exact (fun _ _ => trivial))
        (case aO => exact ((Kd.R_nil _ _ _ _ (fun _ => True))))
        (case aS => exact (below_size (mH HB)))
        (case aL => have := LMc19.out; omega)
        intro v420 w27 ho hb hg hat; rw [← Ny419.out] at ho; replace HB := Aside0.mk (hb); have HO421 := Aside0.mk (ho); clear ho hb hg hat; refine hK.out _ _ trivial (fun hHeld => ?_); clear hK K; refine norm_ (a' := ?_) ?_ ?_; rotate_left
        ·
         show Act.put _ (some 53) _ = _
         simp only [Act.put, lT, l0_, lS, i64_w, i32_w]; rfl
        refine one_ (i := 7) (N := some 57) B31_10 rfl rfl (one_of HT_.out (by kernel_rfl)) (by decide) (fun K hK => ?_); refine Kd.R_lit_step k78 _ 78 ?hg (N := 57) ?hd (xs := ([(⟨a1, a2⟩ : S78)] : List (S78))) (inner := [.string a1, .int .i64 a2]) (ok := fun _ => True) (okp := fun _ => True) ?hr ?hp (fun _ hk => hk) trivial (Below.refl _ _) (Nat.le_refl _) (by simp) ?_; (case hd => rfl); (case hg => rfl); (case hr => first | (go_simp; done) | (go_simp; rfl)); (case hp => exact (Reps.c2 (show Kd.M k78 _ _ _ (⟨a1, a2⟩ : S78) [.string a1, .int .i64 a2] from (k78_mkM _ _ _ (⟨a1, a2⟩ : S78) )) (Reps.none _ _)))
        intro v423 w28 ho29 hb hg_ hnew_; clear hg_ hnew_
        (first | rw [← Ny422.out] at ho29 | (simp only [Int.reduceToNat] at ho29; rw [← Ny422.out] at ho29))
        have HO424 := Aside0.mk (Kd.R_lower (Kd.R_new' ho29 (Kd.R_lt (mR HO421))) (below_size (mH HB))); replace HO421 := Aside0.mk (Kd.R_elder' (mR HO421) (Kd.R_base ho29) hb); replace HB := kH HB hb; clear hb ho29; refine hK.out _ _ trivial (fun hHeld => ?_); clear hK K; refine norm_ (a' := ?_) ?_ ?_; rotate_left
        ·
         show Act.put _ (some 57) _ = _
         simp only [Act.put, lT, l0_, lS, i64_w, i32_w]; rfl
        exact norm_ (by simp only [putAll, Act.put, lT, l0_, lS]) (hCont (v420, v423) _ ⟨(by (with_reducible repeat (first | apply Kd.R_alloc | apply Kd.R_drewN | apply Kd.R_drew)); exact Kd.R_mono HO421.out (fun _ hk => hk.2)), (by (with_reducible repeat (first | apply Kd.R_alloc | apply Kd.R_drewN | apply Kd.R_drew)); exact Kd.R_mono HO424.out (fun _ hk => hk.2)), (mH HB)⟩)
       ·
        skip
        refine Kd.R_lit_step k78 _ 78 ?hg (N := 57) ?hd (xs := ([(⟨a1, a2⟩ : S78)] : List (S78))) (inner := [.string a1, .int .i64 a2]) (ok := fun _ => True) (okp := fun _ => True) ?hr ?hp (fun _ hk => hk) trivial (Below.refl _ _) (Nat.le_refl _) (by simp) ?_; (case hd => rfl); (case hg => rfl); (case hr => first | (go_simp; done) | (go_simp; rfl)); (case hp => exact (Reps.c2 (show Kd.M k78 _ _ _ (⟨a1, a2⟩ : S78) [.string a1, .int .i64 a2] from (k78_mkM _ _ _ (⟨a1, a2⟩ : S78) )) (Reps.none _ _)))
        intro v423 w27 ho28 hb hg_ hnew_; clear hg_ hnew_
        (first | rw [← Ny422.out] at ho28 | (simp only [Int.reduceToNat] at ho28; rw [← Ny422.out] at ho28))
        have HO424 := Aside0.mk (Kd.R_lower ho28 (below_size (mH HB))); replace HB := kH HB hb; clear hb ho28; refine hK.out _ _ trivial (fun hHeld => ?_); clear hK K; refine norm_ (a' := ?_) ?_ ?_; rotate_left
        ·
         show Act.put _ (some 57) _ = _
         simp only [Act.put, lT, l0_, lS, i64_w, i32_w]; rfl
        refine one_ (i := 3) (N := some 53) B31_10 rfl rfl (one_of HT_.out (by kernel_rfl)) (by decide) (fun K hK => ?_); refine Kd.R_append_rows_step k78 (w0 := w) w.heap.size rfl (.const (.slice none 0 0)) (.tmp 52) 26 78 (.agg #[(.string ⟨#[]⟩), (.int .i64 0)]) 24 rfl Try.underlying26 info78 rfl (by decide) (by omega) (.slice none 0 0) ([] : List (S78)) y415 _ _ _ (fun k_ => some k_ ≠ (v423 : Value).ownBlock) (fun _ => False) rfl rfl ?aO ?aR (fun _ _ h => h) (fun _ h => h.elim) ?aF ?aB ?aS ?aL ?_
        (case aR => repeat (first | exact (Kd.C_below HR418.out HB.out) | (with_reducible refine Kd.C_alloc ?_ _) | (with_reducible refine Kd.C_drewN ?_ _) | (with_reducible refine Kd.C_drew ?_)))
        (case aB => exact (mH HB))
        (case aF => exact (fun k_ hk => Kd.fresh' (Kd.R_lt (mR HO424)) k_ hk))
        (case aO => exact ((Kd.R_nil _ _ _ _ (fun k_ => some k_ ≠ (v423 : Value).ownBlock))))
        (case aS => exact (below_size (mH HB)))
        (case aL => have := LMc19.out; omega)
        intro v420 w29 ho hb hg hat; rw [← Ny419.out] at ho; replace HO424 := Aside0.mk (Kd.R_after (Kd.R_apart_nil (mR HO424)) hg hat); replace HB := Aside0.mk (hb); have HO421 := Aside0.mk (ho); clear ho hb hg hat; refine hK.out _ _ trivial (fun hHeld => ?_); clear hK K; refine norm_ (a' := ?_) ?_ ?_; rotate_left
        ·
         show Act.put _ (some 53) _ = _
         simp only [Act.put, lT, l0_, lS, i64_w, i32_w]; rfl
        exact norm_ (by simp only [putAll, Act.put, lT, l0_, lS]) (hCont (v420, v423) _ ⟨(mR HO421), (by (with_reducible repeat (first | apply Kd.R_alloc | apply Kd.R_drewN | apply Kd.R_drew)); exact Kd.R_mono HO424.out (fun _ hk => hk.2)), (mH HB)⟩)
      rintro ⟨v420, v423⟩ w30 ⟨h0_, h1_, h2_⟩; have n0_ : Aside0 (Kd.R k78 78 w30 w.heap.size (fun k_ => some k_ ≠ (v423 : Value).ownBlock) v420 y419) := ⟨h0_⟩; have n1_ : Aside0 (Kd.R k78 78 w30 w.heap.size (fun k_ => some k_ ≠ (v420 : Value).ownBlock) v423 y422) := ⟨h1_⟩; have n2_ : Aside0 (Below w.heap.size w w30) := ⟨h2_⟩; clear HB; clear h0_ h1_ h2_; have HO421 := n0_; have HO424 := n1_; have HB := n2_; clear n0_ n1_ n2_; have hHeld := trivial; obtain ⟨Ao32, co32, eo32⟩ := Kd.R_slice HO424.out
      (first | subst eo32 | (injection eo32 with f1_ f2_ f3_; have f4_ := f1_.symm; have f5_ := f3_.symm; clear f1_ f2_ f3_; subst f4_; subst f5_))
      refine norm_ (a' := ?_) ?_ ?_; rotate_left
      ·
       simp only [putAll, Act.put, lT, l0_, lS]; rfl
      refine one_ (i := 8) (N := some 58) B31_13 rfl rfl (one_of HT_.out (by kernel_rfl)) (by decide) (fun K hK => ?_); refine Kd.R_append_rows_step k78 (w0 := w) w.heap.size (by rfl) (.tmp 53) (.tmp 57) 26 78 (.agg #[(.string ⟨#[]⟩), (.int .i64 0)]) 24 rfl Try.underlying26 info78 rfl (by decide) (by omega) v420 y419 y422 _ _ _ (fun k_ => some k_ ≠ (.slice Ao32 y422.length co32 : Value).ownBlock) (fun _ => False) rfl rfl ?aO ?aR (fun _ _ h => h) (fun _ h => h.elim) ?aF ?aB ?aS ?aL ?_
      (case aR => repeat (first | exact (Kd.R_reads' HO424.out).2.2 | (with_reducible refine Kd.C_alloc ?_ _) | (with_reducible refine Kd.C_drewN ?_ _) | (with_reducible refine Kd.C_drew ?_)))
      (case aB => exact (mH HB))
      (case aF => exact (fun k_ hk => Kd.fresh' (Kd.R_lt (mR HO424)) k_ hk))
      (case aO => exact (mR HO421))
      (case aS => exact (below_size (mH HB)))
      (case aL => have := LMc20.out; omega)
      intro v426 w31 ho hb hg hat; rw [← Ny425.out] at ho; replace HO424 := Aside0.mk (Kd.R_after (ok := (fun _ => True)) (by (with_reducible repeat (first | apply Kd.R_alloc | apply Kd.R_drewN | apply Kd.R_drew)); exact Kd.R_mono HO424.out (fun _ hk => ⟨trivial, hk⟩)) hg hat); replace HB := Aside0.mk (hb); have HO427 := Aside0.mk (ho); clear HO421; clear ho hb hg hat; refine hK.out _ _ trivial (fun hHeld => ?_); clear hK K; refine norm_ (a' := ?_) ?_ ?_; rotate_left
      ·
       show Act.put _ (some 58) _ = _
       simp only [Act.put, lT, l0_, lS, i64_w, i32_w]; rfl
      refine one_ (i := 12) (N := some 62) B31_14 rfl rfl (one_of HT_.out (by kernel_rfl)) (by decide) (fun K hK => ?_); refine Kd.R_append_rows_step k78 (w0 := w) w.heap.size (by rfl) (.tmp 58) (.tmp 61) 26 78 (.agg #[(.string ⟨#[]⟩), (.int .i64 0)]) 24 rfl Try.underlying26 info78 rfl (by decide) (by omega) v426 y425 y428 _ _ _ (fun k_ => some k_ ≠ (.slice Ao32 y422.length co32 : Value).ownBlock) (fun _ => False) rfl rfl ?aO ?aR (fun _ _ h => h) (fun _ h => h.elim) ?aF ?aB ?aS ?aL ?_
      (case aR => repeat (first | exact (Kd.C_below HR431.out HB.out) | (with_reducible refine Kd.C_alloc ?_ _) | (with_reducible refine Kd.C_drewN ?_ _) | (with_reducible refine Kd.C_drew ?_)))
      (case aB => exact (mH HB))
      (case aF => exact (fun k_ hk => Kd.fresh' (Kd.R_lt (mR HO424)) k_ hk))
      (case aO => exact (mR HO427))
      (case aS => exact (below_size (mH HB)))
      (case aL => have := LMc23.out; omega)
      intro v433 w33 ho hb hg hat; rw [← Ny432.out] at ho; replace HO424 := Aside0.mk (Kd.R_after (ok := (fun _ => True)) (mR HO424) hg hat); replace HB := Aside0.mk (hb); have HO434 := Aside0.mk (ho); clear HO427; clear ho hb hg hat; refine hK.out _ _ trivial (fun hHeld => ?_); clear hK K; refine norm_ (a' := ?_) ?_ ?_; rotate_left
      ·
       show Act.put _ (some 62) _ = _
       simp only [Act.put, lT, l0_, lS, i64_w, i32_w]; rfl
      refine pureE 13 (some 6) B31_15 (any_of HT_.out (by kernel_rfl)) ?_
      refine pureE 14 (some 7) B31_16 (any_of HT_.out (by kernel_rfl)) ?_
      refine done_ (done_of HT_.out (by kernel_rfl)) ?_
      try go_wp2
      go_ret2
      exact ⟨_, rT, by (with_reducible repeat (first | apply Kd.R_alloc | apply Kd.R_drewN | apply Kd.R_drew)); exact Kd.R_mono HO434.out (fun _ hk => trivial), mH HB⟩
end Go.Proofs.Ytkigiehkckjlhaa.PGrows
