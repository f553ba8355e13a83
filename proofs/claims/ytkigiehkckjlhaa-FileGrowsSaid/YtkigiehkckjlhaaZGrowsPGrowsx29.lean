/- The Go functions that these laws reach, each as a Lean function with the same answers (a law itself where it answers true), and the proof that the code comes to them; conditions: those of each theorem. Laid by a program of this session over the print. -/
import Derived.Test.YtkigiehkckjlhaaZGrowsPGrowsShort
import Derived.Test.YtkigiehkckjlhaaZGrowsPGrowsx0
import Derived.Test.YtkigiehkckjlhaaZGrowsPGrowsx7
import Derived.Test.YtkigiehkckjlhaaZGrowsPGrowsx27
namespace Go.Proofs.Ytkigiehkckjlhaa.PGrows
open Go.RowKit Go.Proofs.YtkigiehkckjlhaaW.PrintWords Go.Proofs.YtkigiehkckjlhaaW.PrintLast Go.Proofs.YtkigiehkckjlhaaW.PrintMore
attribute [local go_sem] max2_int min2_int max_two min_two max_three min_three max_four min_four   -- for this text's walks alone
set_option linter.unusedVariables false
set_option linter.unusedSimpArgs false
open Go.Proofs.YtkigiehkckjlhaaW.PrintWords renaming blk_drewN → bN, blk_drew → bD, blk_alloc → bA, below_set → wS, below_alloc → wA, pw_below_drewN → wN, below_drew1 → wD, blk_below → bB, blk_far → bF, blk_cell → bC, blk_frozen → bZ
open List renaming setIfInBounds_toArray → lT, set_cons_zero → l0_, set_cons_succ → lS
def potsherdref12_Last.f (k : Nat) (a0 : ByteArray) : Option (ByteArray × ByteArray × Int) := (potsherdref12_Split.f k a0).bind fun bt358 => (if bt358.2 = 0 then (if (bt358.1.length : Int) = 0 then (none) else (if 0 ≤ (wrap64 ((bt358.1.length : Int) - 1)) then (if (wrap64 ((bt358.1.length : Int) - 1)) ≤ (bt358.1.length : Int) then ((potsherdref12_Join.f k (bt358.1.take ((wrap64 ((bt358.1.length : Int) - 1)) : Int).toNat)).bind fun t366 => (if (wrap64 ((bt358.1.length : Int) - 1)) < (bt358.1.length : Int) then (some (t366, rdOf ByteArray.empty bt358.1 (wrap64 ((bt358.1.length : Int) - 1)), 0)) else (none))) else (none)) else (none))) else (none))
theorem potsherdref12_Last.mono : ∀ a0 k, LeO (potsherdref12_Last.f k a0) (potsherdref12_Last.f (k + 1) a0) := by
 intro a0 k
 unfold potsherdref12_Last.f
 repeat' with_reducible first | apply potsherdref12_Join.mono | apply potsherdref12_Split.mono | exact LeO.refl _ | exact LeO.none _ | refine LeO.ite ?_ ?_ | refine LeO.bind ?_ (fun _ => ?_)
set_option maxHeartbeats 8000000 in
set_option maxRecDepth 100000 in
theorem potsherdref12_Last.calls (k : Nat) (a0 : ByteArray) (r1 : ByteArray) (r2 : ByteArray) (r3 : Int) (w : World) (h : potsherdref12_Last.f k a0 = some (r1, r2, r3)) :
 Calls Try.prog 90 #[.string a0] w fun e w' => e = .returned (.tuple #[.string r1, .string r2, .int .i64 r3]) ∧ Below w.heap.size w w' := by
 have HB := Aside0.mk (Below.refl w.heap.size w); have H : ((potsherdref12_Split.f k a0).bind fun bt358 => (if bt358.2 = 0 then (if (bt358.1.length : Int) = 0 then (none) else (if 0 ≤ (wrap64 ((bt358.1.length : Int) - 1)) then (if (wrap64 ((bt358.1.length : Int) - 1)) ≤ (bt358.1.length : Int) then ((potsherdref12_Join.f k (bt358.1.take ((wrap64 ((bt358.1.length : Int) - 1)) : Int).toNat)).bind fun t366 => (if (wrap64 ((bt358.1.length : Int) - 1)) < (bt358.1.length : Int) then (some (t366, rdOf ByteArray.empty bt358.1 (wrap64 ((bt358.1.length : Int) - 1)), 0)) else (none))) else (none)) else (none))) else (none))) = some (r1, r2, r3) := h; clear h; replace H := Option.bind_eq_some_iff.mp H; obtain ⟨⟨t358, t359⟩, A20, H⟩ := H; replace H : (if t359 = 0 then (if (t358.length : Int) = 0 then (none) else (if 0 ≤ (wrap64 ((t358.length : Int) - 1)) then (if (wrap64 ((t358.length : Int) - 1)) ≤ (t358.length : Int) then ((potsherdref12_Join.f k (t358.take ((wrap64 ((t358.length : Int) - 1)) : Int).toNat)).bind fun t366 => (if (wrap64 ((t358.length : Int) - 1)) < (t358.length : Int) then (some (t366, rdOf ByteArray.empty t358 (wrap64 ((t358.length : Int) - 1)), 0)) else (none))) else (none)) else (none))) else (none)) = some (r1, r2, r3) := H; have A2 := Aside0.mk A20; clear A20
 replace H := nP H; obtain ⟨c3, H⟩ := H; obtain ⟨c3b0, c3b1⟩ := eP c3; clear c3
 replace H := nQ H; obtain ⟨c4, H⟩ := H; obtain ⟨c4b0, c4b1⟩ := eN c4
 have c4b2 : ¬ (t358 = []) := fun h_ => c4 (by rw [h_]; rfl)
 obtain ⟨ji5, hji5⟩ : ∃ j_ : Int, (wrap64 ((t358.length : Int) - 1)) = j_ := ⟨_, rfl⟩
 replace H : (if 0 ≤ (ji5) then (if (ji5) ≤ (t358.length : Int) then ((potsherdref12_Join.f k (t358.take ((ji5) : Int).toNat)).bind fun t366 => (if (ji5) < (t358.length : Int) then (some (t366, rdOf ByteArray.empty t358 (ji5), 0)) else (none))) else (none)) else (none)) = some (r1, r2, r3) := by first | (rw [hji5] at H; exact H) | (simp only [hji5] at H ⊢; exact H)
 (try rw [hji5] at A2)
 have hji5w : (IntKind.i64.wrap ((t358.length : Int) - 1)) = ji5 := (i64_w _).trans hji5
 replace H := nP H; obtain ⟨c6, H⟩ := H; have c6b0 := eq_true c6; have c6b1 := decide_eq_true c6; clear c6
 replace H := nP H; obtain ⟨c7, H⟩ := H; have c7b0 := eq_true c7; have c7b1 := decide_eq_true c7; clear c7; obtain ⟨y362, hy362⟩ : ∃ y_ : List ByteArray, y_ = (t358.take ((ji5) : Int).toNat) := ⟨_, rfl⟩
 replace H : ((potsherdref12_Join.f k y362).bind fun t366 => (if (ji5) < (t358.length : Int) then (some (t366, rdOf ByteArray.empty t358 (ji5), 0)) else (none))) = some (r1, r2, r3) := rH H hy362
 have Ny362 := Aside0.mk hy362; clear hy362; replace H := Option.bind_eq_some_iff.mp H; obtain ⟨t366, A80, H⟩ := H; have A8 := Aside0.mk A80; clear A80
 replace H := nP H; obtain ⟨c9, H⟩ := H; have c9b0 := decide_eq_true c9; clear c9; simp only [Option.some.injEq, Prod.mk.injEq] at H; obtain ⟨rfl, rfl, rfl⟩ := H
 go_enter Try.func90, Try.ntmps90
 go_wp2_with (first | (go_at_call 91; (with_reducible refine (potsherdref12_Split.calls k a0 t358 t359 _ A2.out).mono ?_); rintro e w10 ⟨v360, rfl, ho0, hb⟩; have HO361 := Aside0.mk (Kd.R_lower ho0 (below_size (mH HB))); replace HB := kH HB hb; (try clear hb); (try clear ho0); obtain ⟨Ao11, co11, eo11⟩ := Kd.R_slice HO361.out; subst eo11; have q12 : ((ji5) : Int) ≤ ((t358.length : Int) : Int) := dT; obtain ⟨i012, hi012, _, hsz12, _⟩ := info_parts info9; have hroom12 : t358.length ≤ co11 := (Kd.R_reads' HO361.out).2.1; have hC12 : Kd.C Kd.string _ Ao11 t358.length t358 := (Kd.R_reads' HO361.out).2.2; have hcut12 := cut_to (P := Try.prog) 113 9 .i64 Try.underlying113 hi012 Ao11 t358.length co11 (ji5) (dT) q12 hroom12; have hr12 := Kd.C_take (m := ((ji5) : Int).toNat) hC12 (by omega); have hy12 : y362.length = ((ji5) : Int).toNat := (by rw [Ny362.out, List.length_take]; omega); rw [← Ny362.out] at hr12; rw [← hy12] at hcut12; have HR365 := Aside0.mk hr12; have HC365 := Aside0.mk (show y362.length ≤ co11 from by omega); clear hr12 hC12 hroom12 hi012 hsz12; have KY12 := Aside0.mk hy12; clear hy12; have KL12 := Aside0.mk (show ((ji5) : Int).toNat ≤ t358.length from by omega); replace q12 := eq_true q12) | (go_at_call 93; (with_reducible refine (potsherdref12_Join.calls k _ _ y362 t366 _ ?side1 ?side2 A8.out).mono ?_); (case side1 => repeat (first | exact (by repeat (first | (with_reducible exact HR365.out) | (with_reducible refine Kd.C_alloc ?_ _) | (with_reducible refine Kd.C_drewN ?_ _) | (with_reducible refine Kd.C_drew ?_) | exact HR365.out)) | (with_reducible refine Kd.C_alloc ?_ _) | (with_reducible refine Kd.C_drewN ?_ _) | (with_reducible refine Kd.C_drew ?_))); (case side2 => exact HC365.out); rintro e w' ⟨rfl, ⟨nd, rfl⟩⟩; (try first | exact ⟨rfl, _, World.drewN_drewN _ _ _⟩ | exact ⟨rfl, _, Eq.trans (World.drewN_drewN _ _ _) (congrArg (World.drewN _) (Nat.add_assoc _ _ _))⟩); have p367 : 0 ≤ ((ji5) : Int) := dT; have q367 : (ji5) < (t358.length : Int) := dT; obtain ⟨ad367, e367, hx367_0⟩ := Kd.at_string (Kd.R_reads' HO361.out).2.2 (ji5) p367 q367; cases e367; replace p367 := eq_true p367; replace q367 := eq_true q367))
 repeat (go_quiet (first | (go_at_call 91; (with_reducible refine (potsherdref12_Split.calls k a0 t358 t359 _ A2.out).mono ?_); rintro e w10 ⟨v360, rfl, ho0, hb⟩; have HO361 := Aside0.mk (Kd.R_lower ho0 (below_size (mH HB))); replace HB := kH HB hb; (try clear hb); (try clear ho0); obtain ⟨Ao11, co11, eo11⟩ := Kd.R_slice HO361.out; subst eo11; have q12 : ((ji5) : Int) ≤ ((t358.length : Int) : Int) := dT; obtain ⟨i012, hi012, _, hsz12, _⟩ := info_parts info9; have hroom12 : t358.length ≤ co11 := (Kd.R_reads' HO361.out).2.1; have hC12 : Kd.C Kd.string _ Ao11 t358.length t358 := (Kd.R_reads' HO361.out).2.2; have hcut12 := cut_to (P := Try.prog) 113 9 .i64 Try.underlying113 hi012 Ao11 t358.length co11 (ji5) (dT) q12 hroom12; have hr12 := Kd.C_take (m := ((ji5) : Int).toNat) hC12 (by omega); have hy12 : y362.length = ((ji5) : Int).toNat := (by rw [Ny362.out, List.length_take]; omega); rw [← Ny362.out] at hr12; rw [← hy12] at hcut12; have HR365 := Aside0.mk hr12; have HC365 := Aside0.mk (show y362.length ≤ co11 from by omega); clear hr12 hC12 hroom12 hi012 hsz12; have KY12 := Aside0.mk hy12; clear hy12; have KL12 := Aside0.mk (show ((ji5) : Int).toNat ≤ t358.length from by omega); replace q12 := eq_true q12) | (go_at_call 93; (with_reducible refine (potsherdref12_Join.calls k _ _ y362 t366 _ ?side1 ?side2 A8.out).mono ?_); (case side1 => repeat (first | exact (by repeat (first | (with_reducible exact HR365.out) | (with_reducible refine Kd.C_alloc ?_ _) | (with_reducible refine Kd.C_drewN ?_ _) | (with_reducible refine Kd.C_drew ?_) | exact HR365.out)) | (with_reducible refine Kd.C_alloc ?_ _) | (with_reducible refine Kd.C_drewN ?_ _) | (with_reducible refine Kd.C_drew ?_))); (case side2 => exact HC365.out); rintro e w' ⟨rfl, ⟨nd, rfl⟩⟩; (try first | exact ⟨rfl, _, World.drewN_drewN _ _ _⟩ | exact ⟨rfl, _, Eq.trans (World.drewN_drewN _ _ _) (congrArg (World.drewN _) (Nat.add_assoc _ _ _))⟩); have p367 : 0 ≤ ((ji5) : Int) := dT; have q367 : (ji5) < (t358.length : Int) := dT; obtain ⟨ad367, e367, hx367_0⟩ := Kd.at_string (Kd.R_reads' HO361.out).2.2 (ji5) p367 q367; cases e367; replace p367 := eq_true p367; replace q367 := eq_true q367)); try go_wp2_with (first | (go_at_call 91; (with_reducible refine (potsherdref12_Split.calls k a0 t358 t359 _ A2.out).mono ?_); rintro e w10 ⟨v360, rfl, ho0, hb⟩; have HO361 := Aside0.mk (Kd.R_lower ho0 (below_size (mH HB))); replace HB := kH HB hb; (try clear hb); (try clear ho0); obtain ⟨Ao11, co11, eo11⟩ := Kd.R_slice HO361.out; subst eo11; have q12 : ((ji5) : Int) ≤ ((t358.length : Int) : Int) := dT; obtain ⟨i012, hi012, _, hsz12, _⟩ := info_parts info9; have hroom12 : t358.length ≤ co11 := (Kd.R_reads' HO361.out).2.1; have hC12 : Kd.C Kd.string _ Ao11 t358.length t358 := (Kd.R_reads' HO361.out).2.2; have hcut12 := cut_to (P := Try.prog) 113 9 .i64 Try.underlying113 hi012 Ao11 t358.length co11 (ji5) (dT) q12 hroom12; have hr12 := Kd.C_take (m := ((ji5) : Int).toNat) hC12 (by omega); have hy12 : y362.length = ((ji5) : Int).toNat := (by rw [Ny362.out, List.length_take]; omega); rw [← Ny362.out] at hr12; rw [← hy12] at hcut12; have HR365 := Aside0.mk hr12; have HC365 := Aside0.mk (show y362.length ≤ co11 from by omega); clear hr12 hC12 hroom12 hi012 hsz12; have KY12 := Aside0.mk hy12; clear hy12; have KL12 := Aside0.mk (show ((ji5) : Int).toNat ≤ t358.length from by omega); replace q12 := eq_true q12) | (go_at_call 93; (with_reducible refine (potsherdref12_Join.calls k _ _ y362 t366 _ ?side1 ?side2 A8.out).mono ?_); (case side1 => repeat (first | exact (by repeat (first | (with_reducible exact HR365.out) | (with_reducible refine Kd.C_alloc ?_ _) | (with_reducible refine Kd.C_drewN ?_ _) | (with_reducible refine Kd.C_drew ?_) | exact HR365.out)) | (with_reducible refine Kd.C_alloc ?_ _) | (with_reducible refine Kd.C_drewN ?_ _) | (with_reducible refine Kd.C_drew ?_))); (case side2 => exact HC365.out); rintro e w' ⟨rfl, ⟨nd, rfl⟩⟩; (try first | exact ⟨rfl, _, World.drewN_drewN _ _ _⟩ | exact ⟨rfl, _, Eq.trans (World.drewN_drewN _ _ _) (congrArg (World.drewN _) (Nat.add_assoc _ _ _))⟩); have p367 : 0 ≤ ((ji5) : Int) := dT; have q367 : (ji5) < (t358.length : Int) := dT; obtain ⟨ad367, e367, hx367_0⟩ := Kd.at_string (Kd.R_reads' HO361.out).2.2 (ji5) p367 q367; cases e367; replace p367 := eq_true p367; replace q367 := eq_true q367)))
 go_ret3
 exact ⟨by first | rfl | exact congrArg (fun b_ => Ending.returned (Value.bool b_)) HRET.out | (rw [HRET.out]) | (simp [errW_none, errW_some] <;> rfl) | (simp only [← hji5]; first | rfl | (simp [errW_none, errW_some] <;> rfl)) | (simp [*, errW_none, errW_some] <;> rfl), mH HB⟩
def potsherdref12_At.l0 : Nat → Int → Int → Option (Int)
 | 0, _, _ => none
 | k + 1, x8, x9 => if x9 < x8 then (none) else (some (-1))
def potsherdref12_At.f (k : Nat) (l0 : List (S78)) (a1 : ByteArray) : Option (Int) := potsherdref12_At.l0 k (l0.length : Int) 0
theorem potsherdref12_At.mono_l : ∀ k, (∀ y0 y1, LeO (potsherdref12_At.l0 k y0 y1) (potsherdref12_At.l0 (k + 1) y0 y1))
 | 0 => fun _ _ r h => by simp [potsherdref12_At.l0] at h
 | k + 1 => by
  have ih0 := potsherdref12_At.mono_l k
  ·
   intro y0 y1
   unfold potsherdref12_At.l0
   repeat' with_reducible first | apply ih0 | exact LeO.refl _ | exact LeO.none _ | refine LeO.ite ?_ ?_ | refine LeO.bind ?_ (fun _ => ?_)
theorem potsherdref12_At.mono : ∀ a0 a1 k, LeO (potsherdref12_At.f k a0 a1) (potsherdref12_At.f (k + 1) a0 a1) := by
 intro a0 a1 k; have ih0 := potsherdref12_At.mono_l k
 unfold potsherdref12_At.f
 repeat' with_reducible first | apply ih0 | exact LeO.refl _ | exact LeO.none _ | refine LeO.ite ?_ ?_ | refine LeO.bind ?_ (fun _ => ?_)
set_option maxHeartbeats 8000000 in
set_option maxRecDepth 100000 in
theorem potsherdref12_At.calls (k : Nat) (A0 : Option Addr) (c0 : Nat) (l0 : List (S78)) (a1 : ByteArray) (r : Int) (w : World) (hr0 : Kd.C k78 w A0 l0.length l0) (hc0 : l0.length ≤ c0) (h : potsherdref12_At.f k l0 a1 = some r) :
 Calls Try.prog 86 #[.slice A0 l0.length c0, .string a1] w fun e w' => e = .returned (.int .i64 r) ∧ Below w.heap.size w w' := by
 have hu78 := Try.underlying78; have HR0 := Aside0.mk hr0; have HC0 := Aside0.mk hc0; clear hr0 hc0; have HB := Aside0.mk (Below.refl w.heap.size w); have H : (potsherdref12_At.l0 k (l0.length : Int) 0) = some r := h; clear h; have H' := Aside0.mk H; clear H
 go_enter Try.func86, Try.ntmps86
 go_wp2
 go_loopg [9] k (fun kq v9 w' => ∃ (x9_1 : Int), v9 = .int .i64 x9_1 ∧ Aside0 (potsherdref12_At.l0 kq (l0.length : Int) x9_1 = some r) ∧ Aside0 (kq ≤ k) ∧ Aside0 (Below w.heap.size w w'))
 case atStart => exact ⟨(0), sI, H', ⟨Nat.le_refl _⟩, ⟨mH HB⟩⟩
 case round =>
  clear H'
  obtain ⟨x9_1, rfl, HA, HK1, HB⟩ := hrel
  cases gk with
  | zero => exact absurd HA.out (by simp [potsherdref12_At.l0])
  | succ k1 =>
   have H := HA.out; clear HA; simp only [potsherdref12_At.l0] at H
   replace H := nQ H; obtain ⟨c3, H⟩ := H; have c3b0 := decide_eq_false c3; clear c3; obtain rfl := Option.some.inj H
   go_wp2
   go_ret
   exact ⟨rT, mH HB⟩
def potsherdref12_find.l0 : Nat → Int → Int → Int → Option (Int × Int)
 | 0, _, _, _ => none
 | k + 1, x6, x10, x11 => if x11 < x10 then (none) else (some (x6, 0))
def potsherdref12_find.f (k : Nat) (l0_0 : List (S28)) (l1 : List ByteArray) : Option (Int × Int) := potsherdref12_find.l0 k 0 (l1.length : Int) 0
theorem potsherdref12_find.mono_l : ∀ k, (∀ y0 y1 y2, LeO (potsherdref12_find.l0 k y0 y1 y2) (potsherdref12_find.l0 (k + 1) y0 y1 y2))
 | 0 => fun _ _ _ r h => by simp [potsherdref12_find.l0] at h
 | k + 1 => by
  have ih0 := potsherdref12_find.mono_l k
  ·
   intro y0 y1 y2
   unfold potsherdref12_find.l0
   repeat' with_reducible first | apply ih0 | apply potsherdref12_At.mono | exact LeO.refl _ | exact LeO.none _ | refine LeO.ite ?_ ?_ | refine LeO.bind ?_ (fun _ => ?_)
theorem potsherdref12_find.mono : ∀ a0 a1 k, LeO (potsherdref12_find.f k a0 a1) (potsherdref12_find.f (k + 1) a0 a1) := by
 intro a0 a1 k; have ih0 := potsherdref12_find.mono_l k
 unfold potsherdref12_find.f
 repeat' with_reducible first | apply ih0 | apply potsherdref12_At.mono | exact LeO.refl _ | exact LeO.none _ | refine LeO.ite ?_ ?_ | refine LeO.bind ?_ (fun _ => ?_)
set_option maxHeartbeats 8000000 in
set_option maxRecDepth 100000 in
theorem potsherdref12_find.calls (k : Nat) (A0_0 : Option Addr) (c0_0 : Nat) (l0_0 : List (S28)) (A1 : Option Addr) (c1 : Nat) (l1 : List ByteArray) (r1 : Int) (r2 : Int) (w : World) (hr0_0 : Kd.C k28 w A0_0 l0_0.length l0_0) (hc0_0 : l0_0.length ≤ c0_0) (hr1 : Kd.C Kd.string w A1 l1.length l1) (hc1 : l1.length ≤ c1) (h : potsherdref12_find.f k l0_0 l1 = some (r1, r2)) :
 Calls Try.prog 92 #[.agg #[.slice A0_0 l0_0.length c0_0], .slice A1 l1.length c1] w fun e w' => e = .returned (.tuple #[.int .i64 r1, .int .i64 r2]) ∧ Below w.heap.size w w' := by
 have hu24 := Try.underlying24; have HR0_0 := Aside0.mk hr0_0; have HC0_0 := Aside0.mk hc0_0; clear hr0_0 hc0_0; have HR1 := Aside0.mk hr1; have HC1 := Aside0.mk hc1; clear hr1 hc1; have HB := Aside0.mk (Below.refl w.heap.size w); have H : (potsherdref12_find.l0 k 0 (l1.length : Int) 0) = some (r1, r2) := h; clear h; have H' := Aside0.mk H; clear H
 go_enter Try.func92, Try.ntmps92
 go_wp2_with (first | ((with_reducible refine gate_dst (N := 2) rfl ?_); refine bxE 24 (cs := #[.slice A0_0 l0_0.length c0_0]) ?_; intro gb370 hg w3 hbox hb; have BK370 := Aside0.mk hbox; have GW370 := kG HB hg; have GE370 := kG HB hg; replace HB := kH HB hb; clear hb hbox hg))
 go_loopg [6, 11] k (fun kq v6 v11 w' => ∃ (x6_1 : Int) (x11_1 : Int), v6 = .int .i64 x6_1 ∧ v11 = .int .i64 x11_1 ∧ Aside0 (potsherdref12_find.l0 kq x6_1 (l1.length : Int) x11_1 = some (r1, r2)) ∧ Aside0 (kq ≤ k) ∧ Aside0 (w'.heap[gb370]? = some (.cells #[(.slice A0_0 l0_0.length c0_0)] 24 (0, 0))) ∧ Aside0 (Below w.heap.size w w'))
 case atStart => exact ⟨(0), (0), sI, sI, H', ⟨Nat.le_refl _⟩, ⟨mB BK370⟩, ⟨mH HB⟩⟩
 case round =>
  clear H'
  (try clear c1)
  obtain ⟨x6_1, x11_1, rfl, rfl, HA, HK1, BK370, HB⟩ := hrel
  cases gk with
  | zero => exact absurd HA.out (by simp [potsherdref12_find.l0])
  | succ k1 =>
   have H := HA.out; clear HA; simp only [potsherdref12_find.l0] at H
   replace H := nQ H; obtain ⟨c4, H⟩ := H; have c4b0 := decide_eq_false c4; clear c4; simp only [Option.some.injEq, Prod.mk.injEq] at H; obtain ⟨rfl, rfl⟩ := H
   go_wp2
   go_ret2
   exact ⟨rT, mH HB⟩
def potsherdref12_Parent.f (k : Nat) (l0_0 : List (S28)) (a1 : ByteArray) : Option (Int × ByteArray × Int) := (potsherdref12_MayTree.f k l0_0).bind fun t376 => (if t376 = true then ((potsherdref12_Last.f k a1).bind fun bt377 => (if bt377.2.2 = 0 then ((potsherdref12_Split.f k bt377.1).bind fun bt380 => ((potsherdref12_find.f k l0_0 bt380.1).bind fun bt384 => (if bt384.2 = 0 then (if 0 ≤ bt384.1 then (if bt384.1 < (l0_0.length : Int) then (if ((rd_T28 l0_0 bt384.1).f0) = 2 then (some (bt384.1, bt377.2.1, 0)) else (none)) else (none)) else (none)) else (none)))) else (none))) else (none))
theorem potsherdref12_Parent.mono : ∀ a0 a1 k, LeO (potsherdref12_Parent.f k a0 a1) (potsherdref12_Parent.f (k + 1) a0 a1) := by
 intro a0 a1 k
 unfold potsherdref12_Parent.f
 repeat' with_reducible first | apply potsherdref12_Last.mono | apply potsherdref12_MayTree.mono | apply potsherdref12_Split.mono | apply potsherdref12_find.mono | exact LeO.refl _ | exact LeO.none _ | refine LeO.ite ?_ ?_ | refine LeO.bind ?_ (fun _ => ?_)
set_option maxHeartbeats 8000000 in
set_option maxRecDepth 100000 in
theorem potsherdref12_Parent.calls (k : Nat) (A0_0 : Option Addr) (c0_0 : Nat) (l0_0 : List (S28)) (a1 : ByteArray) (r1 : Int) (r2 : ByteArray) (r3 : Int) (w : World) (hr0_0 : Kd.C k28 w A0_0 l0_0.length l0_0) (hc0_0 : l0_0.length ≤ c0_0) (h : potsherdref12_Parent.f k l0_0 a1 = some (r1, r2, r3)) :
 Calls Try.prog 85 #[.agg #[.slice A0_0 l0_0.length c0_0], .string a1] w fun e w' => e = .returned (.tuple #[.int .i64 r1, .string r2, .int .i64 r3]) ∧ Below w.heap.size w w' := by
 have hu24 := Try.underlying24; have HR0_0 := Aside0.mk hr0_0; have HC0_0 := Aside0.mk hc0_0; clear hr0_0 hc0_0; have HB := Aside0.mk (Below.refl w.heap.size w); have H : ((potsherdref12_MayTree.f k l0_0).bind fun t376 => (if t376 = true then ((potsherdref12_Last.f k a1).bind fun bt377 => (if bt377.2.2 = 0 then ((potsherdref12_Split.f k bt377.1).bind fun bt380 => ((potsherdref12_find.f k l0_0 bt380.1).bind fun bt384 => (if bt384.2 = 0 then (if 0 ≤ bt384.1 then (if bt384.1 < (l0_0.length : Int) then (if ((rd_T28 l0_0 bt384.1).f0) = 2 then (some (bt384.1, bt377.2.1, 0)) else (none)) else (none)) else (none)) else (none)))) else (none))) else (none))) = some (r1, r2, r3) := h; clear h; replace H := Option.bind_eq_some_iff.mp H; obtain ⟨t376, A30, H⟩ := H; have A3 := Aside0.mk A30; clear A30
 by_cases c4 : t376 = true
 ·
  subst c4
  have H1 : ((potsherdref12_Last.f k a1).bind fun bt377 => (if bt377.2.2 = 0 then ((potsherdref12_Split.f k bt377.1).bind fun bt380 => ((potsherdref12_find.f k l0_0 bt380.1).bind fun bt384 => (if bt384.2 = 0 then (if 0 ≤ bt384.1 then (if bt384.1 < (l0_0.length : Int) then (if ((rd_T28 l0_0 bt384.1).f0) = 2 then (some (bt384.1, bt377.2.1, 0)) else (none)) else (none)) else (none)) else (none)))) else (none))) = some (r1, r2, r3) := by rw [if_pos rfl] at H; exact H
  clear H; have H := H1; clear H1; replace H := Option.bind_eq_some_iff.mp H; obtain ⟨⟨t377, t378, t379⟩, A50, H⟩ := H; replace H : (if t379 = 0 then ((potsherdref12_Split.f k t377).bind fun bt380 => ((potsherdref12_find.f k l0_0 bt380.1).bind fun bt384 => (if bt384.2 = 0 then (if 0 ≤ bt384.1 then (if bt384.1 < (l0_0.length : Int) then (if ((rd_T28 l0_0 bt384.1).f0) = 2 then (some (bt384.1, t378, 0)) else (none)) else (none)) else (none)) else (none)))) else (none)) = some (r1, r2, r3) := H; have A5 := Aside0.mk A50; clear A50
  replace H := nP H; obtain ⟨c6, H⟩ := H; obtain ⟨c6b0, c6b1⟩ := eP c6; clear c6; replace H := Option.bind_eq_some_iff.mp H; obtain ⟨⟨t380, t381⟩, A70, H⟩ := H; replace H : ((potsherdref12_find.f k l0_0 t380).bind fun bt384 => (if bt384.2 = 0 then (if 0 ≤ bt384.1 then (if bt384.1 < (l0_0.length : Int) then (if ((rd_T28 l0_0 bt384.1).f0) = 2 then (some (bt384.1, t378, 0)) else (none)) else (none)) else (none)) else (none))) = some (r1, r2, r3) := H; have A7 := Aside0.mk A70; clear A70; replace H := Option.bind_eq_some_iff.mp H; obtain ⟨⟨t384, t385⟩, A80, H⟩ := H; replace H : (if t385 = 0 then (if 0 ≤ t384 then (if t384 < (l0_0.length : Int) then (if ((rd_T28 l0_0 t384).f0) = 2 then (some (t384, t378, 0)) else (none)) else (none)) else (none)) else (none)) = some (r1, r2, r3) := H; have A8 := Aside0.mk A80; clear A80
  replace H := nP H; obtain ⟨c9, H⟩ := H; obtain ⟨c9b0, c9b1⟩ := eP c9; clear c9
  replace H := nP H; obtain ⟨c10, H⟩ := H; have c10b0 := decide_eq_true c10; clear c10
  replace H := nP H; obtain ⟨c11, H⟩ := H; have c11b0 := decide_eq_true c11; clear c11
  replace H := nP H; obtain ⟨c12, H⟩ := H; obtain ⟨c12b0, c12b1⟩ := eP c12; clear c12; simp only [Option.some.injEq, Prod.mk.injEq] at H; obtain ⟨rfl, rfl, rfl⟩ := H
  go_enter Try.func85, Try.ntmps85
  go_wp2_with (first | ((with_reducible refine gate_dst (N := 2) rfl ?_); refine bxE 24 (cs := #[.slice A0_0 l0_0.length c0_0]) ?_; intro gb375 hg w13 hbox hb; have BK375 := Aside0.mk hbox; have GW375 := kG HB hg; have GE375 := kG HB hg; replace HB := kH HB hb; clear hb hbox hg; obtain ⟨hcz14_0, hfz14_0⟩ := cY0 BK375) | ((with_reducible refine gate_callee (f := 29) rfl ?_); refine goesK (some 14) Try.func29 #[.agg #[.slice A0_0 l0_0.length c0_0]] ?_; (with_reducible refine (potsherdref12_MayTree.calls k _ _ l0_0 true _ ?side1 ?side2 A3.out).mono ?_); (case side1 => exact mC HR0_0 HB); (case side2 => exact HC0_0.out); rintro e w15 ⟨rfl, hb⟩; refine ⟨_, rfl, ?_⟩; replace BK375 := kB BK375 hb; replace HB := kH HB hb; (try clear hb)) | ((with_reducible refine gate_callee (f := 90) rfl ?_); refine goesK (some 18) Try.func90 #[.string a1] ?_; (with_reducible refine (potsherdref12_Last.calls k a1 t377 t378 t379 _ A5.out).mono ?_); rintro e w16 ⟨rfl, hb⟩; refine ⟨_, rfl, ?_⟩; replace BK375 := kB BK375 hb; replace HB := kH HB hb; (try clear hb)) | ((with_reducible refine gate_callee (f := 91) rfl ?_); refine goesK (some 27) Try.func91 #[.string t377] ?_; (with_reducible refine (potsherdref12_Split.calls k t377 t380 t381 _ A7.out).mono ?_); rintro e w17 ⟨v382, rfl, ho0, hb⟩; refine ⟨_, rfl, ?_⟩; have HO383 := Aside0.mk (Kd.R_lower ho0 (below_size (mH HB))); replace BK375 := kB BK375 hb; replace HB := kH HB hb; (try clear hb); (try clear ho0); obtain ⟨hcz18_0, hfz18_0⟩ := cY0 BK375; obtain ⟨Ao19, co19, eo19⟩ := Kd.R_slice HO383.out; subst eo19) | ((with_reducible refine gate_callee (f := 92) rfl ?_); refine goesK (some 33) Try.func92 #[.agg #[.slice A0_0 l0_0.length c0_0], .slice Ao19 t380.length co19] ?_; (with_reducible refine (potsherdref12_find.calls k _ _ l0_0 _ _ t380 t384 t385 _ ?side1 ?side2 ?side3 ?side4 A8.out).mono ?_); (case side1 => exact mC HR0_0 HB); (case side2 => exact HC0_0.out); (case side3 => repeat (first | exact (Kd.R_reads' HO383.out).2.2 | (with_reducible refine Kd.C_alloc ?_ _) | (with_reducible refine Kd.C_drewN ?_ _) | (with_reducible refine Kd.C_drew ?_))); (case side4 => exact (Kd.R_reads' HO383.out).2.1); rintro e w20 ⟨rfl, hb⟩; refine ⟨_, rfl, ?_⟩; replace HO383 := kR HO383 hb; replace BK375 := kB BK375 hb; replace HB := kH HB hb; (try clear hb); obtain ⟨hcz21_0, hfz21_0⟩ := cY0 BK375; have p386 : 0 ≤ (t384 : Int) := dT; have q386 : t384 < (l0_0.length : Int) := dT; obtain ⟨ad386, A386_3, c386_3, A386_4, c386_4, e386, hx386_0, hx386_1, hx386_2, hx386_3, hx386_4, hl386_3, hi386_3, hl386_4, hi386_4⟩ := at_T28 HR0_0.out t384 p386 q386; cases e386; replace hx386_0 := xC HB hx386_0; replace hx386_1 := xC HB hx386_1; replace hx386_2 := xC HB hx386_2; replace hx386_3 := xC HB hx386_3; replace hx386_4 := xC HB hx386_4; have HR386_3 := Aside0.mk hi386_3; have HC386_3 := Aside0.mk hl386_3; clear hi386_3 hl386_3; have HR386_4 := Aside0.mk hi386_4; have HC386_4 := Aside0.mk hl386_4; clear hi386_4 hl386_4; replace p386 := eq_true p386; replace q386 := eq_true q386))
  go_ret3
  exact ⟨rT, mH HB⟩
 ·
  replace c4 := Bool.eq_false_iff.mpr c4; subst c4
  have H1 : (none) = some (r1, r2, r3) := by rw [if_neg (show ¬ (false = true) by decide)] at H; exact H
  clear H; have H := H1; clear H1; exact absurd H (by simp)
def potsherdref12_Free.l0 : Nat → List (S28) → Int → Int → Option (Int)
 | 0, _, _, _ => none
 | k + 1, x9, x10, x11 => if x11 < x10 then (if 0 ≤ x11 then (if x11 < (x9.length : Int) then (if ((rd_T28 x9 x11).f0) = 0 then (some x11) else (potsherdref12_Free.l0 k x9 x10 (wrap64 (x11 + 1)))) else (none)) else (none)) else (none)
def potsherdref12_Free.f (k : Nat) (l0_0 : List (S28)) : Option (Int) := (potsherdref12_MayTree.f k l0_0).bind fun t388 => (if t388 = true then (potsherdref12_Free.l0 k l0_0 (l0_0.length : Int) 0) else (none))
theorem potsherdref12_Free.mono_l : ∀ k, (∀ y0 y1 y2, LeO (potsherdref12_Free.l0 k y0 y1 y2) (potsherdref12_Free.l0 (k + 1) y0 y1 y2))
 | 0 => fun _ _ _ r h => by simp [potsherdref12_Free.l0] at h
 | k + 1 => by
  have ih0 := potsherdref12_Free.mono_l k
  ·
   intro y0 y1 y2
   unfold potsherdref12_Free.l0
   repeat' with_reducible first | apply ih0 | apply potsherdref12_MayTree.mono | exact LeO.refl _ | exact LeO.none _ | refine LeO.ite ?_ ?_ | refine LeO.bind ?_ (fun _ => ?_)
theorem potsherdref12_Free.mono : ∀ a0 k, LeO (potsherdref12_Free.f k a0) (potsherdref12_Free.f (k + 1) a0) := by
 intro a0 k; have ih0 := potsherdref12_Free.mono_l k
 unfold potsherdref12_Free.f
 repeat' with_reducible first | apply ih0 | apply potsherdref12_MayTree.mono | exact LeO.refl _ | exact LeO.none _ | refine LeO.ite ?_ ?_ | refine LeO.bind ?_ (fun _ => ?_)
set_option maxHeartbeats 8000000 in
set_option maxRecDepth 100000 in
theorem potsherdref12_Free.calls (k : Nat) (A0_0 : Option Addr) (c0_0 : Nat) (l0_0 : List (S28)) (r : Int) (w : World) (hr0_0 : Kd.C k28 w A0_0 l0_0.length l0_0) (hc0_0 : l0_0.length ≤ c0_0) (h : potsherdref12_Free.f k l0_0 = some r) :
 Calls Try.prog 87 #[.agg #[.slice A0_0 l0_0.length c0_0]] w fun e w' => e = .returned (.int .i64 r) ∧ Below w.heap.size w w' := by
 have hu24 := Try.underlying24; have hu28 := Try.underlying28; have HR0_0 := Aside0.mk hr0_0; have HC0_0 := Aside0.mk hc0_0; clear hr0_0 hc0_0; have HB := Aside0.mk (Below.refl w.heap.size w); have H : ((potsherdref12_MayTree.f k l0_0).bind fun t388 => (if t388 = true then (potsherdref12_Free.l0 k l0_0 (l0_0.length : Int) 0) else (none))) = some r := h; clear h; replace H := Option.bind_eq_some_iff.mp H; obtain ⟨t388, A20, H⟩ := H; have A2 := Aside0.mk A20; clear A20
 by_cases c3 : t388 = true
 ·
  subst c3
  have H1 : (potsherdref12_Free.l0 k l0_0 (l0_0.length : Int) 0) = some r := by rw [if_pos rfl] at H; exact H
  clear H; have H := H1; clear H1; have H' := Aside0.mk H; clear H
  go_enter Try.func87, Try.ntmps87
  go_wp2_with (first | ((with_reducible refine gate_dst (N := 1) rfl ?_); refine bxE 24 (cs := #[.slice A0_0 l0_0.length c0_0]) ?_; intro gb387 hg w4 hbox hb; have BK387 := Aside0.mk hbox; have GW387 := kG HB hg; have GE387 := kG HB hg; replace HB := kH HB hb; clear hb hbox hg; obtain ⟨hcz5_0, hfz5_0⟩ := cY0 BK387) | ((with_reducible refine gate_callee (f := 29) rfl ?_); refine goesK (some 6) Try.func29 #[.agg #[.slice A0_0 l0_0.length c0_0]] ?_; (with_reducible refine (potsherdref12_MayTree.calls k _ _ l0_0 true _ ?side1 ?side2 A2.out).mono ?_); (case side1 => exact mC HR0_0 HB); (case side2 => exact HC0_0.out); rintro e w6 ⟨rfl, hb⟩; refine ⟨_, rfl, ?_⟩; replace BK387 := kB BK387 hb; replace HB := kH HB hb; (try clear hb); obtain ⟨hcz7_0, hfz7_0⟩ := cY0 BK387))
  go_loopg [11] k (fun kq v11 w' => ∃ (x11_1 : Int), v11 = .int .i64 x11_1 ∧ Aside0 (potsherdref12_Free.l0 kq l0_0 (l0_0.length : Int) x11_1 = some r) ∧ Aside0 (kq ≤ k) ∧ Aside0 (w'.heap[gb387]? = some (.cells #[(.slice A0_0 l0_0.length c0_0)] 24 (0, 0))) ∧ Aside0 (Below w.heap.size w w'))
  case atStart => exact ⟨(0), sI, H', ⟨Nat.le_refl _⟩, ⟨mB BK387⟩, ⟨mH HB⟩⟩
  case round =>
   clear H'
   (try clear c3); (try clear hcz5_0); (try clear hcz7_0); (try clear hfz5_0); (try clear hfz7_0)
   obtain ⟨x11_1, rfl, HA, HK1, BK387, HB⟩ := hrel
   cases gk with
   | zero => exact absurd HA.out (by simp [potsherdref12_Free.l0])
   | succ k1 =>
    have H := HA.out; clear HA; simp only [potsherdref12_Free.l0] at H
    replace H := nP H; obtain ⟨c8, H⟩ := H; have c8b0 := decide_eq_true c8; clear c8
    replace H := nP H; obtain ⟨c9, H⟩ := H; have c9b0 := decide_eq_true c9; clear c9
    replace H := nP H; obtain ⟨c10, H⟩ := H; have c10b0 := decide_eq_true c10; clear c10
    by_cases c11 : ((rd_T28 l0_0 x11_1).f0) = 0
    ·
     rw [if_pos c11] at H; obtain ⟨c11b0, c11b1⟩ := eP c11; clear c11; obtain rfl := Option.some.inj H; have p389 : 0 ≤ (x11_1 : Int) := dT; have q389 : x11_1 < (l0_0.length : Int) := dT; obtain ⟨ad389, A389_3, c389_3, A389_4, c389_4, e389, hx389_0, hx389_1, hx389_2, hx389_3, hx389_4, hl389_3, hi389_3, hl389_4, hi389_4⟩ := at_T28 HR0_0.out x11_1 p389 q389
     cases e389
     replace hx389_0 := xC HB hx389_0; replace hx389_1 := xC HB hx389_1; replace hx389_2 := xC HB hx389_2; replace hx389_3 := xC HB hx389_3; replace hx389_4 := xC HB hx389_4; have HR389_3 := Aside0.mk hi389_3; have HC389_3 := Aside0.mk hl389_3; clear hi389_3 hl389_3; have HR389_4 := Aside0.mk hi389_4; have HC389_4 := Aside0.mk hl389_4; clear hi389_4 hl389_4; replace p389 := eq_true p389; replace q389 := eq_true q389
     go_wp2_with (first | ((with_reducible refine gate_dst (N := 4) rfl ?_); refine bxE 28 (cs := #[.int .i64 0, .int .i64 0, .int .i64 0, .slice none 0 0, .slice none 0 0]) ?_; intro gb390 hg w12 hbox hb; have BK390 := Aside0.mk hbox; have GW390 := kG HB hg; have GE390 := kG HB hg; replace HB := kH HB hb; have NB387_390 := kL BK387 hg; have NB390_387 := kQ BK387 hg; replace BK387 := kB BK387 hb; clear hb hbox hg; have hnb13 := NB390_387.out; have hnc13 := NB387_390.out; obtain ⟨hcz14_0, hfz14_0⟩ := cY0 BK390; obtain ⟨hcz14_1, hfz14_1⟩ := cY1 BK390; obtain ⟨hcz14_2, hfz14_2⟩ := cY2 BK390; obtain ⟨hcz14_3, hfz14_3⟩ := cY3 BK390; obtain ⟨hcz14_4, hfz14_4⟩ := cY4 BK390))
     go_ret
     exact ⟨rT, mH HB⟩
    ·
     rw [if_neg c11] at H; obtain ⟨c11b0, c11b1⟩ := eN c11; have H' := Aside0.mk H; clear H; have p389 : 0 ≤ (x11_1 : Int) := dT; have q389 : x11_1 < (l0_0.length : Int) := dT; obtain ⟨ad389, A389_3, c389_3, A389_4, c389_4, e389, hx389_0, hx389_1, hx389_2, hx389_3, hx389_4, hl389_3, hi389_3, hl389_4, hi389_4⟩ := at_T28 HR0_0.out x11_1 p389 q389
     cases e389
     replace hx389_0 := xC HB hx389_0; replace hx389_1 := xC HB hx389_1; replace hx389_2 := xC HB hx389_2; replace hx389_3 := xC HB hx389_3; replace hx389_4 := xC HB hx389_4; have HR389_3 := Aside0.mk hi389_3; have HC389_3 := Aside0.mk hl389_3; clear hi389_3 hl389_3; have HR389_4 := Aside0.mk hi389_4; have HC389_4 := Aside0.mk hl389_4; clear hi389_4 hl389_4; replace p389 := eq_true p389; replace q389 := eq_true q389
     go_wp2_with (first | ((with_reducible refine gate_dst (N := 4) rfl ?_); refine bxE 28 (cs := #[.int .i64 0, .int .i64 0, .int .i64 0, .slice none 0 0, .slice none 0 0]) ?_; intro gb390 hg w15 hbox hb; have BK390 := Aside0.mk hbox; have GW390 := kG HB hg; have GE390 := kG HB hg; replace HB := kH HB hb; have NB387_390 := kL BK387 hg; have NB390_387 := kQ BK387 hg; replace BK387 := kB BK387 hb; clear hb hbox hg; have hnb16 := NB390_387.out; have hnc16 := NB387_390.out; obtain ⟨hcz17_0, hfz17_0⟩ := cY0 BK390; obtain ⟨hcz17_1, hfz17_1⟩ := cY1 BK390; obtain ⟨hcz17_2, hfz17_2⟩ := cY2 BK390; obtain ⟨hcz17_3, hfz17_3⟩ := cY3 BK390; obtain ⟨hcz17_4, hfz17_4⟩ := cY4 BK390))
     go_roundg k1
     case measure => have := HK1.out; omega
     case rel => exact ⟨(wrap64 (x11_1 + 1)), sI, H', ⟨oK HK1⟩, ⟨mF BK387⟩, ⟨mH HB⟩⟩
 ·
  replace c3 := Bool.eq_false_iff.mpr c3; subst c3
  have H1 : (none) = some r := by rw [if_neg (show ¬ (false = true) by decide)] at H; exact H
  clear H; have H := H1; clear H1; exact absurd H (by simp)
end Go.Proofs.Ytkigiehkckjlhaa.PGrows
