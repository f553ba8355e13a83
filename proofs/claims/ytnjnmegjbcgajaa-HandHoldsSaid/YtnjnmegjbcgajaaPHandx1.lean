/- The Go functions that these laws reach, each as a Lean function with the same answers (a law itself where it answers true), and the proof that the code comes to them; conditions: those of each theorem. Laid by a program of this session over the print. -/
import Derived.Test.YtnjnmegjbcgajaaPHandx0
namespace Go.Proofs.Ytnjnmegjbcgajaa.PHand
open Go.RowKit Go.Proofs.YtnjnmegjbcgajaaW.PrintWords Go.Proofs.YtnjnmegjbcgajaaW.PrintLast Go.Proofs.YtnjnmegjbcgajaaW.PrintMore
attribute [local go_sem] max2_int min2_int max_two min_two max_three min_three max_four min_four   -- for this text's walks alone
set_option linter.unusedVariables false
set_option linter.unusedSimpArgs false
open Go.Proofs.YtnjnmegjbcgajaaW.PrintWords renaming blk_drewN → bN, blk_drew → bD, blk_alloc → bA, below_set → wS, below_alloc → wA, pw_below_drewN → wN, below_drew1 → wD, blk_below → bB, blk_far → bF, blk_cell → bC, blk_frozen → bZ
open List renaming setIfInBounds_toArray → lT, set_cons_zero → l0_, set_cons_succ → lS

-- NOT PRINTED: function 45 (slices_IndexFunc_int_int)

-- NOT PRINTED: function 42 (slices_ContainsFunc_int_int)

/-! ### hand_off: function 36 -/
/-- A handle that may not be. -/
def offP (n : Int) : Bool := decide (n < -1) || decide (12 ≤ n)
/-- The first handle that may not be, counted from i; -1 where there is none. -/
def offFrom : List Int → Int → Int
 | [], _ => -1
 | x :: r, i => if offP x = true then i else offFrom r (i + 1)
theorem off_clo (W : World) (n : Int) :
 Calls Try.prog 43 #[.int .i64 n] W fun e w' => e = .returned (.bool (offP n)) ∧ Drawn0 W w' := by
 unfold offP
 by_cases h1 : n < -1 <;> by_cases h2 : 12 ≤ n
 all_goals
  go_enter Try.func43, Try.ntmps43
  go_wp2
  all_goals first | (exfalso; omega) | (go_ret; exact ⟨by simp [h1, h2], Drawn0.refl _⟩) | (go_ret; exact ⟨by simp only [decide_eq_true h1, decide_eq_true h2, decide_eq_false h1, decide_eq_false h2]; rfl, Drawn0.refl _⟩) | (go_ret; exact ⟨by rw [decide_eq_false h1, decide_eq_false h2]; rfl, Drawn0.refl _⟩) | (go_ret; exact ⟨by rw [decide_eq_true h1]; rfl, Drawn0.refl _⟩) | (go_ret; exact ⟨by rw [decide_eq_false h1, decide_eq_true h2]; rfl, Drawn0.refl _⟩)
set_option maxHeartbeats 4000000 in
theorem off_idx (A : Option Addr) (l : List Int) (c : Nat) (w : World) (r : Int) (hr : Kd.C (Kd.int .i64) w A l.length l) (hc : l.length ≤ c) (hL : (l.length : Int) < 9223372036854775807) (hr_ : offFrom l 0 = r) :
 Calls Try.prog 45 #[.slice A l.length c, .func (.func 43) #[] #[]] w fun e w' => e = .returned (.int .i64 r) ∧ Drawn0 w w' := by
 have HR0 := Aside0.mk hr; have HP := Aside0.mk hr_; have LL := Aside0.mk hL; clear hr hc hr_ hL
 go_enter Try.func45, Try.ntmps45
 go_wp2
 go_loopg [5, 8] l.length (fun gk v5 v8 w' => ∃ kk : Nat, kk ≤ l.length ∧ l.length - kk ≤ gk ∧ v8 = .int .i64 kk ∧ Aside0 (offFrom (l.drop kk) kk = r) ∧ Drawn0 w w')
 case atStart => exact ⟨0, Nat.zero_le _, by omega, rfl, ⟨by simpa using HP.out⟩, Drawn0.refl _⟩
 case round =>
  obtain ⟨kk, hkk, hgk, rfl, HQ, nd0, rfl⟩ := hrel; clear HP
  by_cases hlt : kk < l.length
  ·
   have c3b0 : decide ((kk : Int) < (l.length : Int)) = true := decide_eq_true (by omega)
   have p124 : 0 ≤ (kk : Int) := by omega
   have q124 : (kk : Int) < (l.length : Int) := by omega
   obtain ⟨ad124, e124, hx124_0⟩ := Kd.at_int HR0.out kk p124 q124
   cases e124
   simp only [Int.toNat_natCast] at hx124_0; replace p124 := eq_true p124; replace q124 := eq_true q124
   have hd : l.drop kk = rd l kk :: l.drop (kk + 1) := by
    rw [List.drop_eq_getElem_cons hlt]; unfold rd; rw [Int.toNat_natCast, List.getD_eq_getElem?_getD, List.getElem?_eq_getElem hlt]; rfl
   have hq := HQ.out; rw [hd] at hq; simp only [offFrom] at hq; have hW : kk + 1 ≤ l.length := hlt
   have hcall := fun W => off_clo W (rd l kk)
   cases hn : offP (rd l kk) with
   | true =>
    rw [hn] at hq; simp only [if_true] at hq; simp only [hn] at hcall; subst hq; have HN := Aside0.mk hcall; clear hn hd hcall
    go_wp2_with (go_at_call 43; refine (HN.out _).mono ?_; rintro e w' ⟨rfl, nd1, rfl⟩)
    go_ret
    exact ⟨rfl, by repeat (first | exact Drawn0.refl _ | apply Drawn0.step)⟩
   | false =>
    rw [hn] at hq; simp only [Bool.false_eq_true, if_false] at hq; simp only [hn] at hcall; have HN := Aside0.mk hcall; have HQ := Aside0.mk hq; clear hn hd hq hcall
    go_wp2_with (go_at_call 43; refine (HN.out _).mono ?_; rintro e w' ⟨rfl, nd1, rfl⟩)
    go_roundg (l.length - (kk + 1))
    case measure => omega
    case rel =>
     have e_ : wrap64 ((kk : Int) + 1) = ((kk + 1 : Nat) : Int) := by have := LL.out; unfold wrap64; omega
     exact ⟨kk + 1, by omega, by omega, by rw [e_], ⟨by have := HQ.out; push_cast; exact this⟩, by repeat (first | exact Drawn0.refl _ | apply Drawn0.step)⟩
  ·
   have : kk = l.length := by omega
   subst this; have hq := HQ.out; rw [List.drop_length] at hq; simp only [offFrom] at hq; subst hq
   go_wp2
   go_ret
   exact ⟨rfl, by repeat (first | exact Drawn0.refl _ | apply Drawn0.step)⟩
set_option maxHeartbeats 4000000 in
theorem off_any (A : Option Addr) (l : List Int) (c : Nat) (w : World) (hr : Kd.C (Kd.int .i64) w A l.length l) (hc : l.length ≤ c) (hL : (l.length : Int) < 9223372036854775807) :
 Calls Try.prog 42 #[.slice A l.length c, .func (.func 43) #[] #[]] w fun e w' => e = .returned (.bool (decide (0 ≤ offFrom l 0))) ∧ Drawn0 w w' := by
 have hcon := off_idx A l c w _ hr hc hL rfl; generalize offFrom l 0 = r at hcon ⊢
 go_enter Try.func42, Try.ntmps42
 go_wp2_with (go_at_call 45; refine hcon.mono ?_; rintro e w' ⟨rfl, nd1, rfl⟩)
 go_ret
 exact ⟨rfl, by repeat (first | exact Drawn0.refl _ | apply Drawn0.step)⟩
set_option maxHeartbeats 4000000 in
theorem off_walk (A : Option Addr) (l : List Int) (c : Nat) (w : World) (hr : Kd.C (Kd.int .i64) w A l.length l) (hc : l.length ≤ c) :
 Calls Try.prog 36 #[.slice A l.length c] w fun e w' => e = .returned (.bool (decide (l.length ≠ 4) || decide (0 ≤ offFrom l 0))) ∧ Drawn0 w w' := by
 by_cases h4 : l.length = 4
 ·
  have hcon := off_any A l c w hr hc (by omega); generalize offFrom l 0 = r at hcon ⊢; have e4 : ((l.length : Int) != 4) = false := bne_eq_false_iff_eq.mpr (by omega); rw [show decide (l.length ≠ 4) = false from decide_eq_false (by omega), Bool.false_or]; clear h4
  go_enter Try.func36, Try.ntmps36
  go_wp2_with (go_at_call 42; refine hcon.mono ?_; rintro e w' ⟨rfl, nd1, rfl⟩)
  go_ret
  exact ⟨rfl, by repeat (first | exact Drawn0.refl _ | apply Drawn0.step)⟩
 ·
  have e4 : ((l.length : Int) != 4) = true := bne_iff_ne.mpr (by omega); rw [show decide (l.length ≠ 4) = true from decide_eq_true (by omega), Bool.true_or]
  go_enter Try.func36, Try.ntmps36
  go_wp2
  go_ret
  exact ⟨rfl, by repeat (first | exact Drawn0.refl _ | apply Drawn0.step)⟩

def hand_off.f (l0 : List Int) : Option (Bool) := some (decide (l0.length ≠ 4) || decide (0 ≤ offFrom l0 0))
theorem hand_off.calls (A0 : Option Addr) (c0 : Nat) (l0 : List Int) (r : Bool) (w : World) (hr0 : Kd.C (Kd.int .i64) w A0 l0.length l0) (hc0 : l0.length ≤ c0) (h : hand_off.f l0 = some r) :
 Calls Try.prog 36 #[.slice A0 l0.length c0] w fun e w' => e = .returned (.bool r) ∧ Below w.heap.size w w' := by
 obtain rfl := Option.some.inj h
 exact (off_walk A0 l0 c0 w hr0 hc0).mono fun e w' x => ⟨x.1, x.2.below⟩

/-! ### slices_Index_int_int: function 37 -/
def slices_Index_int_int.l0 : Nat → List Int → Int → Int → Int → Option (Int)
 | 0, _, _, _, _ => none
 | k + 1, x0, x1, x7, x8 => if x8 < x7 then (if 0 ≤ x8 then (if x8 < (x0.length : Int) then (if x1 = (rd x0 x8) then (some x8) else (slices_Index_int_int.l0 k x0 x1 x7 (wrap64 (x8 + 1)))) else (none)) else (none)) else (some (-1))
def slices_Index_int_int.f (k : Nat) (l0 : List Int) (a1 : Int) : Option (Int) := slices_Index_int_int.l0 k l0 a1 (l0.length : Int) 0
theorem slices_Index_int_int.mono_l : ∀ k, (∀ y0 y1 y2 y3, LeO (slices_Index_int_int.l0 k y0 y1 y2 y3) (slices_Index_int_int.l0 (k + 1) y0 y1 y2 y3))
 | 0 => fun _ _ _ _ r h => by simp [slices_Index_int_int.l0] at h
 | k + 1 => by
  have ih0 := slices_Index_int_int.mono_l k
  ·
   intro y0 y1 y2 y3
   unfold slices_Index_int_int.l0
   repeat' first
   | (with_reducible exact ih0 _ _ _ _)
   | (with_reducible exact LeO.refl _)
   | (with_reducible exact LeO.none _)
   | (with_reducible refine LeO.ite ?_ ?_)
   | (with_reducible refine LeO.bind ?_ (fun _ => ?_))
   | exact ih0 _ _ _ _
   | exact LeO.none _
   | refine LeO.ite ?_ ?_
   | refine LeO.bind ?_ (fun _ => ?_)
theorem slices_Index_int_int.mono : ∀ a0 a1 k, LeO (slices_Index_int_int.f k a0 a1) (slices_Index_int_int.f (k + 1) a0 a1) := by
 intro a0 a1 k; have ih0 := slices_Index_int_int.mono_l k
 unfold slices_Index_int_int.f
 repeat' first
  | (with_reducible exact ih0 _ _ _ _)
  | (with_reducible exact LeO.refl _)
  | (with_reducible exact LeO.none _)
  | (with_reducible refine LeO.ite ?_ ?_)
  | (with_reducible refine LeO.bind ?_ (fun _ => ?_))
  | exact ih0 _ _ _ _
  | exact LeO.none _
  | refine LeO.ite ?_ ?_
  | refine LeO.bind ?_ (fun _ => ?_)
set_option maxHeartbeats 8000000 in
set_option maxRecDepth 100000 in
theorem slices_Index_int_int.calls (k : Nat) (A0 : Option Addr) (c0 : Nat) (l0 : List Int) (a1 : Int) (r : Int) (w : World) (hr0 : Kd.C (Kd.int .i64) w A0 l0.length l0) (hc0 : l0.length ≤ c0) (h : slices_Index_int_int.f k l0 a1 = some r) :
 Calls Try.prog 37 #[.slice A0 l0.length c0, .int .i64 a1] w fun e w' => e = .returned (.int .i64 r) ∧ Drawn0 w w' := by
 have HR0 := Aside0.mk hr0; have HC0 := Aside0.mk hc0; clear hr0 hc0; have H : (slices_Index_int_int.l0 k l0 a1 (l0.length : Int) 0) = some r := h; clear h; have H' := Aside0.mk H; clear H
 go_enter Try.func37, Try.ntmps37
 go_wp2
 go_loopg [8] k (fun kq v8 w' => ∃ (x8_1 : Int), v8 = .int .i64 x8_1 ∧ Aside0 (slices_Index_int_int.l0 kq l0 a1 (l0.length : Int) x8_1 = some r) ∧ Aside0 (kq ≤ k) ∧ Drawn0 w w')
 case atStart => exact ⟨(0), (by first | rfl | (simp; done) | (simp [*]; done)), H', ⟨Nat.le_refl _⟩, by repeat (first | exact Drawn0.refl _ | apply Drawn0.step)⟩
 case round =>
  clear H'
  try clear p2
  obtain ⟨x8_1, rfl, HA, HK1, ⟨m1, rfl⟩⟩ := hrel
  cases gk with
  | zero => exact absurd HA.out (by simp [slices_Index_int_int.l0])
  | succ k1 =>
   have H := HA.out; clear HA; simp only [slices_Index_int_int.l0] at H
   by_cases c3 : x8_1 < (l0.length : Int)
   ·
    rw [if_pos c3] at H; have c3b0 : decide (x8_1 < (l0.length : Int)) = true := decide_eq_true c3; clear c3
    by_cases c4 : 0 ≤ x8_1
    ·
     rw [if_pos c4] at H; have c4b0 : decide (0 ≤ x8_1) = true := decide_eq_true c4; clear c4
     by_cases c5 : x8_1 < (l0.length : Int)
     ·
      rw [if_pos c5] at H; have c5b0 : decide (x8_1 < (l0.length : Int)) = true := decide_eq_true c5; clear c5
      by_cases c6 : a1 = (rd l0 x8_1)
      ·
       rw [if_pos c6] at H; have c6b0 : (a1 == (rd l0 x8_1)) = true := beq_iff_eq.mpr c6; have c6b1 : (a1 != (rd l0 x8_1)) = false := bne_eq_false_iff_eq.mpr c6; clear c6; obtain rfl := Option.some.inj H; have p101 : 0 ≤ (x8_1 : Int) := of_decide_eq_true (by first | (with_reducible assumption) | assumption); have q101 : x8_1 < (l0.length : Int) := of_decide_eq_true (by first | (with_reducible assumption) | assumption); obtain ⟨ad101, e101, hx101_0⟩ := Kd.at_int HR0.out x8_1 p101 q101
       cases e101
       replace p101 := eq_true p101; replace q101 := eq_true q101
       go_wp2
       go_ret
       exact ⟨by first | rfl | (simp; done) | (simp [*]; done), by repeat (first | exact Drawn0.refl _ | apply Drawn0.step)⟩
      ·
       rw [if_neg c6] at H; have c6b0 : (a1 == (rd l0 x8_1)) = false := beq_eq_false_iff_ne.mpr c6; have c6b1 : (a1 != (rd l0 x8_1)) = true := bne_iff_ne.mpr c6; have H' := Aside0.mk H; clear H; have p101 : 0 ≤ (x8_1 : Int) := of_decide_eq_true (by first | (with_reducible assumption) | assumption); have q101 : x8_1 < (l0.length : Int) := of_decide_eq_true (by first | (with_reducible assumption) | assumption); obtain ⟨ad101, e101, hx101_0⟩ := Kd.at_int HR0.out x8_1 p101 q101
       cases e101
       replace p101 := eq_true p101; replace q101 := eq_true q101
       go_wp2
       go_roundg k1
       case measure => have := HK1.out; omega
       case rel => exact ⟨(wrap64 (x8_1 + 1)), (by first | rfl | (simp; done) | (simp [*]; done)), H', ⟨by have := HK1.out; omega⟩, by repeat (first | exact Drawn0.refl _ | apply Drawn0.step)⟩
     ·
      rw [if_neg c5] at H; exact absurd H (by simp)
    ·
     rw [if_neg c4] at H; exact absurd H (by simp)
   ·
    rw [if_neg c3] at H; have c3b0 : decide (x8_1 < (l0.length : Int)) = false := decide_eq_false c3; clear c3; obtain rfl := Option.some.inj H
    go_wp2
    go_ret
    exact ⟨by first | rfl | (simp; done) | (simp [*]; done), by repeat (first | exact Drawn0.refl _ | apply Drawn0.step)⟩

/-! ### slices_Clone_int_int: function 38 -/
def slices_Clone_int_int.f (l0 : List Int) : Option (List Int) := if l0.length < 17592186044416 then some l0 else none
theorem slices_Clone_int_int.calls (A0 : Option Addr) (c0 : Nat) (l0 : List Int) (r : List Int) (w : World) (hr0 : Kd.C (Kd.int .i64) w A0 l0.length l0) (hc0 : l0.length ≤ c0) (h : slices_Clone_int_int.f l0 = some r) :
 Calls Try.prog 38 #[.slice A0 l0.length c0] w fun e w' => ∃ v0_ : Value, e = .returned (v0_) ∧ Kd.R (Kd.int .i64) 3 w' w.heap.size (fun _ => True) v0_ r ∧ Below w.heap.size w w' := by
 unfold slices_Clone_int_int.f at h
 by_cases hlim : l0.length < 17592186044416
 ·
  rw [if_pos hlim] at h; obtain rfl := Option.some.inj h; clear h
  cases A0 with
  | none =>
   have hl : l0 = [] := by
    cases l0 with
    | nil => rfl
    | cons x xs => obtain ⟨ad, he, _⟩ := hr0.2.2 (by simp); cases he
   subst hl; clear hr0 hlim; have HB := Aside0.mk (Below.refl w.heap.size w)
   have hnil : ∀ (W : World), (Go.binOp .eql 41 (.slice none 0 c0) (.slice none 0 0)).run Try.prog W = .ok (.bool true) W := fun W => Lib.run_eql_slice_nil W 41 3 none _ _ _ _ Try.underlying41
   go_enter Try.func38, Try.ntmps38
   go_wp2
   go_ret
   exact ⟨_, rfl, Kd.R_nil _ _ _ _ _, HB.out⟩
  | some ad0 =>
   have HR0 := Aside0.mk hr0; have LMc2 := Aside0.mk hlim; clear hr0 hlim; have HB := Aside0.mk (Below.refl w.heap.size w)
   have hnil : ∀ (W : World), (Go.binOp .eql 41 (.slice (some ad0) l0.length c0) (.slice none 0 0)).run Try.prog W = .ok (.bool false) W := fun W => Lib.run_eql_slice_nil W 41 3 (some ad0) _ _ _ _ Try.underlying41
   obtain ⟨y142, hy142⟩ : ∃ y_ : List (Int), y_ = [] := ⟨_, rfl⟩; have Ny142 := Aside0.mk hy142; clear hy142
   go_enter Try.func38, Try.ntmps38
   go_wp2_with (first | ((with_reducible refine gate_dst (N := 5) rfl ?_); refine Kd.R_lit (Kd.int .i64) _ 3 ?hg (N := 5) ?hd (xs := ([] : List (Int))) (inner := []) (ok := fun _ => True) (okp := fun _ => True) ?hr ?hp (fun _ hk => hk) trivial (Below.refl _ _) (Nat.le_refl _) (by simp) ?_; (case hd => rfl); (case hg => rfl); (case hr => first | (go_simp; done) | (go_simp; rfl)); (case hp => exact (Reps.none _ _)); intro v143 w3 ho4 hb hg_ hnew_; clear hg_ hnew_; (first | rw [← Ny142.out] at ho4 | (simp only [Int.reduceToNat] at ho4; rw [← Ny142.out] at ho4)); have n0_ := Aside0.mk (Kd.R_lower ho4 (below_size (by repeat (first | (with_reducible first | exact HB.out | apply wA | apply wN | apply wD) | exact HB.out)))); have n1_ := Aside0.mk (below_step (by repeat (first | (with_reducible first | exact HB.out | apply wA | apply wN | apply wD) | exact HB.out)) hb); clear HB; have HO144 := n0_; have HB := n1_; clear n0_ n1_; clear hb ho4) | ((with_reducible refine gate_builtin (b := .append) (xs := #[.tmp 5, .tmp 6]) rfl ?_); at_builtin; refine Kd.R_append_rows (Kd.int .i64) (w0 := w) w.heap.size rfl (.tmp 5) (.tmp 6) 41 3 (.int .i64 0) 8 rfl Try.underlying41 info3 rfl (by decide) (by omega) v143 y142 l0 _ _ _ (fun _ => True) (fun _ => False) rfl rfl ?aO ?aR (fun _ _ h => h) (fun _ h => h.elim) ?aF ?aB ?aS ?aL ?_; (case aR => repeat (first | exact (Kd.C_below HR0.out HB.out) | (with_reducible refine Kd.C_alloc ?_ _) | (with_reducible refine Kd.C_drewN ?_ _) | (with_reducible refine Kd.C_drew ?_))); (case aB => exact (by repeat (first | (with_reducible first | exact HB.out | apply wA | apply wN | apply wD) | exact HB.out))); (case aF => exact (fun _ _ => trivial)); (case aO => exact (by (with_reducible repeat (first | apply Kd.R_alloc | apply Kd.R_drewN | apply Kd.R_drew)); exact HO144.out)); (case aS => exact (below_size (by repeat (first | (with_reducible first | exact HB.out | apply wA | apply wN | apply wD) | exact HB.out)))); (case aL => have := LMc2.out; have hz := Ny142.out; subst hz; simp only [List.length_nil]; omega); intro v146 w5 ho hb hg hat; have hz := Ny142.out; rw [hz, List.nil_append] at ho; clear hz; have n0_ := Aside0.mk (hb); have n1_ := Aside0.mk (ho); clear HB; clear HO144; have HB := n0_; have HO147 := n1_; clear n0_ n1_; clear ho hb hg hat))
   go_ret
   exact ⟨_, rfl, by (with_reducible repeat (first | apply Kd.R_alloc | apply Kd.R_drewN | apply Kd.R_drew)); exact HO147.out, by repeat (first | (with_reducible first | exact HB.out | apply wA | apply wN | apply wD) | exact HB.out)⟩
 ·
  rw [if_neg hlim] at h
  cases h

/-! ### hand_Open: function 22 -/
def hand_Open.j0 : Nat → List Int → Int → Bool → Option (List Int × Int × Int)
 | 0, _, _, _ => none
 | k + 1, x0, x1, x18 => if x18 = true then (some (([] : List Int), 0, 1)) else ((slices_Index_int_int.f k x0 (-1)).bind fun t103 => (if t103 < 0 then (some (([] : List Int), 0, 15)) else ((slices_Clone_int_int.f x0).bind fun t104 => (if 0 ≤ t103 then (if t103 < (t104.length : Int) then (some ((t104.set (t103 : Int).toNat x1), t103, 0)) else (none)) else (none)))))
def hand_Open.f (k : Nat) (l0 : List Int) (a1 : Int) : Option (List Int × Int × Int) := (hand_off.f l0).bind fun t102 => (if t102 = true then (hand_Open.j0 k l0 a1 true) else (if a1 < 0 then (hand_Open.j0 k l0 a1 true) else (hand_Open.j0 k l0 a1 (decide (a1 ≥ 12)))))
theorem hand_Open.mono_l : ∀ k, (∀ y0 y1 y2, LeO (hand_Open.j0 k y0 y1 y2) (hand_Open.j0 (k + 1) y0 y1 y2))
 | 0 => fun _ _ _ r h => by simp [hand_Open.j0] at h
 | k + 1 => by
  have ih0 := hand_Open.mono_l k
  ·
   intro y0 y1 y2
   unfold hand_Open.j0
   repeat' first
   | (with_reducible exact ih0 _ _ _)
   | (with_reducible exact slices_Index_int_int.mono _ _ _)
   | (with_reducible exact LeO.refl _)
   | (with_reducible exact LeO.none _)
   | (with_reducible refine LeO.ite ?_ ?_)
   | (with_reducible refine LeO.bind ?_ (fun _ => ?_))
   | exact ih0 _ _ _
   | exact slices_Index_int_int.mono _ _ _
   | exact LeO.none _
   | refine LeO.ite ?_ ?_
   | refine LeO.bind ?_ (fun _ => ?_)
theorem hand_Open.mono : ∀ a0 a1 k, LeO (hand_Open.f k a0 a1) (hand_Open.f (k + 1) a0 a1) := by
 intro a0 a1 k; have ih0 := hand_Open.mono_l k
 unfold hand_Open.f
 repeat' first
  | (with_reducible exact ih0 _ _ _)
  | (with_reducible exact slices_Index_int_int.mono _ _ _)
  | (with_reducible exact LeO.refl _)
  | (with_reducible exact LeO.none _)
  | (with_reducible refine LeO.ite ?_ ?_)
  | (with_reducible refine LeO.bind ?_ (fun _ => ?_))
  | exact ih0 _ _ _
  | exact slices_Index_int_int.mono _ _ _
  | exact LeO.none _
  | refine LeO.ite ?_ ?_
  | refine LeO.bind ?_ (fun _ => ?_)
set_option maxHeartbeats 8000000 in
set_option maxRecDepth 100000 in
theorem hand_Open.calls (k : Nat) (A0 : Option Addr) (c0 : Nat) (l0 : List Int) (a1 : Int) (r1 : List Int) (r2 : Int) (r3 : Int) (w : World) (hr0 : Kd.C (Kd.int .i64) w A0 l0.length l0) (hc0 : l0.length ≤ c0) (h : hand_Open.f k l0 a1 = some (r1, r2, r3)) :
 Calls Try.prog 22 #[.slice A0 l0.length c0, .int .i64 a1] w fun e w' => ∃ v0_ : Value, e = .returned (.tuple #[v0_, .int .i64 r2, .int .i64 r3]) ∧ Kd.R (Kd.int .i64) 3 w' w.heap.size (fun _ => True) v0_ r1 ∧ Below w.heap.size w w' := by
 have HR0 := Aside0.mk hr0; have HC0 := Aside0.mk hc0; clear hr0 hc0; have HB := Aside0.mk (Below.refl w.heap.size w); have H : ((hand_off.f l0).bind fun t102 => (if t102 = true then (hand_Open.j0 k l0 a1 true) else (if a1 < 0 then (hand_Open.j0 k l0 a1 true) else (hand_Open.j0 k l0 a1 (decide (a1 ≥ 12)))))) = some (r1, r2, r3) := h; clear h; have HC3 := Aside0.mk H; clear H
 go_enter Try.func22, Try.ntmps22
 go_upto_region 1 with (fail)
 go_cut [18] (fun v18 wc => ∃ (kq : Nat) (x18_2 : Bool), v18 = .bool x18_2 ∧ Aside0 (hand_Open.j0 kq l0 a1 x18_2 = some (r1, r2, r3)) ∧ Aside0 (kq ≤ k) ∧ Aside0 (Below w.heap.size w wc))
 case first =>
  have H := HC3.out; clear HC3; replace H := Option.bind_eq_some_iff.mp H; obtain ⟨t102, A40, H⟩ := H; replace H : (if t102 = true then (hand_Open.j0 k l0 a1 true) else (if a1 < 0 then (hand_Open.j0 k l0 a1 true) else (hand_Open.j0 k l0 a1 (decide (a1 ≥ 12))))) = some (r1, r2, r3) := H; have A4 := Aside0.mk A40; clear A40
  by_cases c5 : t102 = true
  ·
   subst c5
   have H1 : (hand_Open.j0 k l0 a1 true) = some (r1, r2, r3) := by rw [if_pos rfl] at H; exact H
   clear H; have H := H1; clear H1; have H' := Aside0.mk H; clear H
   go_wp2_with (first | ((with_reducible refine gate_callee (f := 36) rfl ?_); refine goesL_ (some 10) rfl rfl Try.func36 (by kernel_rfl) rfl #[.slice A0 l0.length c0] rfl (by (try simp only [List.map_toArray, List.map_cons, List.map_nil]); first | done | rfl | (simp only [List.length_drop, List.length_take]; rfl)) ?_; (with_reducible refine (hand_off.calls _ _ l0 true _ ?side1 ?side2 A4.out).mono ?_); (case side1 => repeat (first | exact (Kd.C_below HR0.out HB.out) | (with_reducible refine Kd.C_alloc ?_ _) | (with_reducible refine Kd.C_drewN ?_ _) | (with_reducible refine Kd.C_drew ?_))); (case side2 => exact HC0.out); rintro e w6 ⟨rfl, hb⟩; refine ⟨_, rfl, ?_⟩; have n0_ := Aside0.mk (below_step (by repeat (first | (with_reducible first | exact HB.out | apply wA | apply wN | apply wD) | exact HB.out)) hb); clear HB; have HB := n0_; clear n0_; (try clear hb); (try clear hb2); (try clear hk); (try clear hi)))
   go_meet
   case rel => exact ⟨_, (true), (by first | rfl | (simp; done) | (simp [*]; done)), H', ⟨by first | omega | exact Nat.le_refl _⟩, ⟨by repeat (first | (with_reducible first | exact HB.out | apply wA | apply wN | apply wD) | exact HB.out)⟩⟩
  ·
   replace c5 := Bool.eq_false_iff.mpr c5; subst c5
   have H1 : (if a1 < 0 then (hand_Open.j0 k l0 a1 true) else (hand_Open.j0 k l0 a1 (decide (a1 ≥ 12)))) = some (r1, r2, r3) := by rw [if_neg (show ¬ (false = true) by decide)] at H; exact H
   clear H; have H := H1; clear H1
   by_cases c7 : a1 < 0
   ·
    rw [if_pos c7] at H; have c7b0 : decide (a1 < 0) = true := decide_eq_true c7; clear c7
    (first | rw [c7b0] | (simp only [i64_w, i32_w]; rw [c7b0]) | skip)
    have H' := Aside0.mk H; clear H
    go_wp2_with (first | ((with_reducible refine gate_callee (f := 36) rfl ?_); refine goesL_ (some 10) rfl rfl Try.func36 (by kernel_rfl) rfl #[.slice A0 l0.length c0] rfl (by (try simp only [List.map_toArray, List.map_cons, List.map_nil]); first | done | rfl | (simp only [List.length_drop, List.length_take]; rfl)) ?_; (with_reducible refine (hand_off.calls _ _ l0 false _ ?side1 ?side2 A4.out).mono ?_); (case side1 => repeat (first | exact (Kd.C_below HR0.out HB.out) | (with_reducible refine Kd.C_alloc ?_ _) | (with_reducible refine Kd.C_drewN ?_ _) | (with_reducible refine Kd.C_drew ?_))); (case side2 => exact HC0.out); rintro e w8 ⟨rfl, hb⟩; refine ⟨_, rfl, ?_⟩; have n0_ := Aside0.mk (below_step (by repeat (first | (with_reducible first | exact HB.out | apply wA | apply wN | apply wD) | exact HB.out)) hb); clear HB; have HB := n0_; clear n0_; (try clear hb); (try clear hb2); (try clear hk); (try clear hi)))
    go_meet
    case rel => exact ⟨_, (true), (by first | rfl | (simp; done) | (simp [*]; done)), H', ⟨by first | omega | exact Nat.le_refl _⟩, ⟨by repeat (first | (with_reducible first | exact HB.out | apply wA | apply wN | apply wD) | exact HB.out)⟩⟩
   ·
    rw [if_neg c7] at H; have c7b0 : decide (a1 < 0) = false := decide_eq_false c7; clear c7
    (first | rw [c7b0] | (simp only [i64_w, i32_w]; rw [c7b0]) | skip)
    have H' := Aside0.mk H; clear H
    go_wp2_with (first | ((with_reducible refine gate_callee (f := 36) rfl ?_); refine goesL_ (some 10) rfl rfl Try.func36 (by kernel_rfl) rfl #[.slice A0 l0.length c0] rfl (by (try simp only [List.map_toArray, List.map_cons, List.map_nil]); first | done | rfl | (simp only [List.length_drop, List.length_take]; rfl)) ?_; (with_reducible refine (hand_off.calls _ _ l0 false _ ?side1 ?side2 A4.out).mono ?_); (case side1 => repeat (first | exact (Kd.C_below HR0.out HB.out) | (with_reducible refine Kd.C_alloc ?_ _) | (with_reducible refine Kd.C_drewN ?_ _) | (with_reducible refine Kd.C_drew ?_))); (case side2 => exact HC0.out); rintro e w9 ⟨rfl, hb⟩; refine ⟨_, rfl, ?_⟩; have n0_ := Aside0.mk (below_step (by repeat (first | (with_reducible first | exact HB.out | apply wA | apply wN | apply wD) | exact HB.out)) hb); clear HB; have HB := n0_; clear n0_; (try clear hb); (try clear hb2); (try clear hk); (try clear hi)))
    go_meet
    case rel => exact ⟨_, (decide (a1 ≥ 12)), (by first | rfl | (simp; done) | (simp [*]; done)), H', ⟨by first | omega | exact Nat.le_refl _⟩, ⟨by repeat (first | (with_reducible first | exact HB.out | apply wA | apply wN | apply wD) | exact HB.out)⟩⟩
 case rest =>
  clear HC3
  try clear c2
  try clear p2
  try clear c3
  try clear c5
  try clear c7
  try clear c7b0
  obtain ⟨kq, x18_2, rfl, HA, HJ2, HB⟩ := hcut
  cases kq with
  | zero => exact absurd HA.out (by simp [hand_Open.j0])
  | succ kj2 =>
   have H := HA.out; clear HA; simp only [hand_Open.j0] at H
   by_cases c10 : x18_2 = true
   ·
    subst c10
    have H1 : (some (([] : List Int), 0, 1)) = some (r1, r2, r3) := by rw [if_pos rfl] at H; exact H
    clear H; have H := H1; clear H1; simp only [Option.some.injEq, Prod.mk.injEq] at H; obtain ⟨rfl, rfl, rfl⟩ := H
    go_wp2
    go_ret3
    exact ⟨_, by first | rfl | exact congrArg (fun b_ => Ending.returned (Value.bool b_)) HRET.out | (rw [HRET.out]) | (simp [errW_none, errW_some] <;> rfl) | (simp [*, errW_none, errW_some] <;> rfl), by first | exact Kd.R_nil _ _ _ _ _ | exact Kd.N_nil _ _ _ _ _ | exact Kd.V_nil _ _ _ _ _ | exact Kd.Q_nil _ _ _ _ _ | exact Kd.S_nil _ _ _ _ _, by repeat (first | (with_reducible first | exact HB.out | apply wA | apply wN | apply wD) | exact HB.out)⟩
   ·
    replace c10 := Bool.eq_false_iff.mpr c10; subst c10
    have H1 : ((slices_Index_int_int.f kj2 l0 (-1)).bind fun t103 => (if t103 < 0 then (some (([] : List Int), 0, 15)) else ((slices_Clone_int_int.f l0).bind fun t104 => (if 0 ≤ t103 then (if t103 < (t104.length : Int) then (some ((t104.set (t103 : Int).toNat a1), t103, 0)) else (none)) else (none))))) = some (r1, r2, r3) := by rw [if_neg (show ¬ (false = true) by decide)] at H; exact H
    clear H; have H := H1; clear H1; replace H := Option.bind_eq_some_iff.mp H; obtain ⟨t103, A110, H⟩ := H; replace H : (if t103 < 0 then (some (([] : List Int), 0, 15)) else ((slices_Clone_int_int.f l0).bind fun t104 => (if 0 ≤ t103 then (if t103 < (t104.length : Int) then (some ((t104.set (t103 : Int).toNat a1), t103, 0)) else (none)) else (none)))) = some (r1, r2, r3) := H; have A11 := Aside0.mk A110; clear A110
    by_cases c12 : t103 < 0
    ·
     rw [if_pos c12] at H; have c12b0 : decide (t103 < 0) = true := decide_eq_true c12; clear c12; simp only [Option.some.injEq, Prod.mk.injEq] at H; obtain ⟨rfl, rfl, rfl⟩ := H
     go_wp2_with (first | ((with_reducible refine gate_callee (f := 37) rfl ?_); refine goesL_ (some 20) rfl rfl Try.func37 (by kernel_rfl) rfl #[.slice A0 l0.length c0, .int .i64 (-1)] rfl (by (try simp only [List.map_toArray, List.map_cons, List.map_nil]); first | done | rfl | (simp only [List.length_drop, List.length_take]; rfl)) ?_; (with_reducible refine (slices_Index_int_int.calls kj2 _ _ l0 (-1) t103 _ ?side1 ?side2 A11.out).mono ?_); (case side1 => repeat (first | exact (Kd.C_below HR0.out HB.out) | (with_reducible refine Kd.C_alloc ?_ _) | (with_reducible refine Kd.C_drewN ?_ _) | (with_reducible refine Kd.C_drew ?_))); (case side2 => exact HC0.out); rintro e w' ⟨rfl, ⟨nd, rfl⟩⟩; refine ⟨_, rfl, ?_⟩))
     go_ret3
     exact ⟨_, by first | rfl | exact congrArg (fun b_ => Ending.returned (Value.bool b_)) HRET.out | (rw [HRET.out]) | (simp [errW_none, errW_some] <;> rfl) | (simp [*, errW_none, errW_some] <;> rfl), by first | exact Kd.R_nil _ _ _ _ _ | exact Kd.N_nil _ _ _ _ _ | exact Kd.V_nil _ _ _ _ _ | exact Kd.Q_nil _ _ _ _ _ | exact Kd.S_nil _ _ _ _ _, by repeat (first | (with_reducible first | exact HB.out | apply wA | apply wN | apply wD) | exact HB.out)⟩
    ·
     rw [if_neg c12] at H; have c12b0 : decide (t103 < 0) = false := decide_eq_false c12; clear c12; replace H := Option.bind_eq_some_iff.mp H; obtain ⟨t104, A130, H⟩ := H; replace H : (if 0 ≤ t103 then (if t103 < (t104.length : Int) then (some ((t104.set (t103 : Int).toNat a1), t103, 0)) else (none)) else (none)) = some (r1, r2, r3) := H; have A13 := Aside0.mk A130; clear A130
     by_cases c14 : 0 ≤ t103
     ·
      rw [if_pos c14] at H; have c14b0 : decide (0 ≤ t103) = true := decide_eq_true c14; clear c14
      by_cases c15 : t103 < (t104.length : Int)
      ·
       rw [if_pos c15] at H; have c15b0 : decide (t103 < (t104.length : Int)) = true := decide_eq_true c15; clear c15; obtain ⟨y107, hy107⟩ : ∃ y_ : List Int, y_ = (t104.set (t103 : Int).toNat a1) := ⟨_, rfl⟩
       replace H : (some (y107, t103, 0)) = some (r1, r2, r3) := by first | (rw [hy107]; with_reducible exact H) | (have H2_ := (Option.bind_some _ _).symm.trans H; rw [hy107]; with_reducible exact H2_) | (have H2_ := (Option.bind_some _ _).symm.trans H; with_reducible exact H2_) | with_reducible exact H | (rw [hy107]; exact H) | exact H
       have Ny107 := Aside0.mk hy107; clear hy107; simp only [Option.some.injEq, Prod.mk.injEq] at H; obtain ⟨rfl, rfl, rfl⟩ := H
       go_wp2_with (first | ((with_reducible refine gate_callee (f := 37) rfl ?_); refine goesL_ (some 20) rfl rfl Try.func37 (by kernel_rfl) rfl #[.slice A0 l0.length c0, .int .i64 (-1)] rfl (by (try simp only [List.map_toArray, List.map_cons, List.map_nil]); first | done | rfl | (simp only [List.length_drop, List.length_take]; rfl)) ?_; (with_reducible refine (slices_Index_int_int.calls kj2 _ _ l0 (-1) t103 _ ?side1 ?side2 A11.out).mono ?_); (case side1 => repeat (first | exact (Kd.C_below HR0.out HB.out) | (with_reducible refine Kd.C_alloc ?_ _) | (with_reducible refine Kd.C_drewN ?_ _) | (with_reducible refine Kd.C_drew ?_))); (case side2 => exact HC0.out); rintro e w' ⟨rfl, ⟨nd, rfl⟩⟩; refine ⟨_, rfl, ?_⟩; (try (rw [drewN_self wc]; generalize hq_ : World.drewN wc _ = wc; have n0_ : Aside0 (Below w.heap.size w wc) := ⟨by rw [← hq_]; exact (by repeat (first | (with_reducible first | exact HB.out | apply wA | apply wN | apply wD) | exact HB.out))⟩; clear HB hq_; have HB := n0_; clear n0_))) | ((with_reducible refine gate_callee (f := 38) rfl ?_); refine goesL_ (some 24) rfl rfl Try.func38 (by kernel_rfl) rfl #[.slice A0 l0.length c0] rfl (by (try simp only [List.map_toArray, List.map_cons, List.map_nil]); first | done | rfl | (simp only [List.length_drop, List.length_take]; rfl)) ?_; (with_reducible refine (slices_Clone_int_int.calls _ _ l0 t104 _ ?side1 ?side2 A13.out).mono ?_); (case side1 => repeat (first | exact (Kd.C_below HR0.out HB.out) | (with_reducible refine Kd.C_alloc ?_ _) | (with_reducible refine Kd.C_drewN ?_ _) | (with_reducible refine Kd.C_drew ?_))); (case side2 => exact HC0.out); rintro e w17 ⟨v105, rfl, ho0, hb⟩; refine ⟨_, rfl, ?_⟩; have n0_ := Aside0.mk (Kd.R_lower ho0 (below_size (by repeat (first | (with_reducible first | exact HB.out | apply wA | apply wN | apply wD) | exact HB.out)))); have n1_ := Aside0.mk (below_step (by repeat (first | (with_reducible first | exact HB.out | apply wA | apply wN | apply wD) | exact HB.out)) hb); clear HB; have HO106 := n0_; have HB := n1_; clear n0_ n1_; (try clear hb); (try clear hb2); (try clear hk); (try clear hi); (try clear ho0); have p16 : 0 ≤ (t103 : Int) := of_decide_eq_true (by first | (with_reducible assumption) | assumption); have q16 : (t103 : Int) < ((t104.length : Int) : Int) := of_decide_eq_true (by first | (with_reducible assumption) | assumption); obtain ⟨go16, co16, eo16, gb16, gl16, cl16, HG16⟩ := Kd.R_form HO106.out (by omega); (first | cases eo16 | (injection eo16 with ea_ en_ ec_; (first | subst ea_ | (injection ea_ with ea_; subst ea_)); subst ec_; clear en_)); have GB16 := Aside0.mk gb16; have GG16 := Aside0.mk HG16; clear gb16 gl16 HG16; obtain ⟨hx16_0, hf16_0⟩ := Kd.R_celln 0 HO106.out (t103 : Int) p16 q16; replace p16 := eq_true p16; replace q16 := eq_true q16; obtain ⟨hy18_, hz18_⟩ := Kd.R_celln 0 HO106.out (t103 : Int) (of_decide_eq_true (by first | (with_reducible assumption) | assumption)) (of_decide_eq_true (by first | (with_reducible assumption) | assumption)); have HP18 := Kd.R_putg HO106.out (t103 : Int) a1) | ((with_reducible refine gate_store (t := 3) (p := 28) rfl ?_); refine store_event (t := 3) (p := 28) (v := ?vo_w19) (w1 := (w17.setCell ⟨go16, (t103 : Int).toNat, none⟩ (.int .i64 a1))) ?hg ?ho ?hn ?hr ?_; (case ho => rfl); (case hg => rfl); (case hn => rfl); (case hr => first | (go_simp; done) | (go_simp; rfl)); intro w19 hw; have hg : w17.grownBy w19 (some go16) := (by rw [hw]; exact HP18.2); have hp_ : Kd.R (Kd.int .i64) 3 w19 w.heap.size (fun _ => True) (.slice (some ⟨go16, 0, none⟩) t104.length co16) y107 := (by rw [hw, Ny107.out]; exact HP18.1); clear HP18; have n0_ := Aside0.mk (hp_); have n1_ := Aside0.mk ((by rw [hw]; exact wS (HB.out) GB16.out : Below w.heap.size w w19)); clear HO106; clear HB; have HO106 := n0_; have HB := n1_; clear n0_ n1_; clear hg hw hp_))
       go_ret3
       exact ⟨_, by first | rfl | exact congrArg (fun b_ => Ending.returned (Value.bool b_)) HRET.out | (rw [HRET.out]) | (simp [errW_none, errW_some] <;> rfl) | (simp [*, errW_none, errW_some] <;> rfl), by (with_reducible repeat (first | apply Kd.R_alloc | apply Kd.R_drewN | apply Kd.R_drew)); exact HO106.out, by repeat (first | (with_reducible first | exact HB.out | apply wA | apply wN | apply wD) | exact HB.out)⟩
      ·
       rw [if_neg c15] at H; exact absurd H (by simp)
     ·
      rw [if_neg c14] at H; exact absurd H (by simp)

end Go.Proofs.Ytnjnmegjbcgajaa.PHand
