/- The Go functions that these laws reach, each as a Lean function with the same answers (a law itself where it answers true), and the proof that the code comes to them; conditions: those of each theorem. Laid by a program of this session over the print. -/
import Derived.Test.YtkigiehkckjlhaaZSpacePSpaceShort
import Derived.Test.YtkigiehkckjlhaaZSpacePSpacex0
import Derived.Test.YtkigiehkckjlhaaZSpacePSpacex16
import Derived.Test.YtkigiehkckjlhaaZSpacePSpacex23
namespace Go.Proofs.Ytkigiehkckjlhaa.PSpace
open Go.RowKit Go.Proofs.YtkigiehkckjlhaaW.PrintWords Go.Proofs.YtkigiehkckjlhaaW.PrintLast Go.Proofs.YtkigiehkckjlhaaW.PrintMore
attribute [local go_sem] max2_int min2_int max_two min_two max_three min_three max_four min_four   -- for this text's walks alone
set_option linter.unusedVariables false
set_option linter.unusedSimpArgs false
open Go.Proofs.YtkigiehkckjlhaaW.PrintWords renaming blk_drewN → bN, blk_drew → bD, blk_alloc → bA, below_set → wS, below_alloc → wA, pw_below_drewN → wN, below_drew1 → wD, blk_below → bB, blk_far → bF, blk_cell → bC, blk_frozen → bZ
open List renaming setIfInBounds_toArray → lT, set_cons_zero → l0_, set_cons_succ → lS
abbrev B25_0 : Array Bool := #[false, false, false, false, false, false, false, false, false, false, false, false, false, false, false]
abbrev B25_1 : Array Bool := B25_0.set! 2 true
abbrev B25_2 : Array Bool := B25_1.set! 4 true
abbrev B25_3 : Array Bool := B25_2.set! 7 true
abbrev B25_4 : Array Bool := B25_3.set! 8 true
abbrev B25_5 : Array Bool := B25_4.set! 9 true
abbrev B25_6 : Array Bool := B25_5.set! 12 true
abbrev B25_7 : Array Bool := B25_6.set! 0 true
abbrev B25_8 : Array Bool := B25_7.set! 3 true
abbrev B25_9 : Array Bool := B25_8.set! 5 true
abbrev B25_10 : Array Bool := B25_9.set! 6 true
abbrev B25_11 : Array Bool := B25_10.set! 1 true
abbrev B25_12 : Array Bool := B25_11.set! 10 true
abbrev B25_13 : Array Bool := B25_12.set! 11 true
abbrev B25_14 : Array Bool := B25_13.set! 13 true
abbrev B25_15 : Array Bool := B25_14.set! 14 true
abbrev B25_16 : Array Bool := #[false, false, false, false, false, false, false, false, false, false, false, false, false, false, false, false, false, false, false, false, false, false, false]
abbrev B25_17 : Array Bool := B25_16.set! 0 true
abbrev B25_18 : Array Bool := B25_17.set! 1 true
abbrev B25_19 : Array Bool := B25_18.set! 2 true
abbrev B25_20 : Array Bool := B25_19.set! 4 true
abbrev B25_21 : Array Bool := B25_20.set! 5 true
abbrev B25_22 : Array Bool := B25_21.set! 6 true
abbrev B25_23 : Array Bool := B25_22.set! 8 true
abbrev B25_24 : Array Bool := B25_23.set! 12 true
abbrev B25_25 : Array Bool := B25_24.set! 14 true
abbrev B25_26 : Array Bool := B25_25.set! 15 true
abbrev B25_27 : Array Bool := B25_26.set! 3 true
abbrev B25_28 : Array Bool := B25_27.set! 7 true
abbrev B25_29 : Array Bool := B25_28.set! 9 true
abbrev B25_30 : Array Bool := B25_29.set! 10 true
abbrev B25_31 : Array Bool := B25_30.set! 11 true
abbrev B25_32 : Array Bool := B25_31.set! 13 true
abbrev B25_33 : Array Bool := B25_32.set! 16 true
abbrev B25_34 : Array Bool := B25_33.set! 17 true
abbrev B25_35 : Array Bool := B25_34.set! 18 true
abbrev B25_36 : Array Bool := B25_35.set! 19 true
abbrev B25_37 : Array Bool := B25_36.set! 20 true
abbrev B25_38 : Array Bool := B25_37.set! 21 true
abbrev B25_39 : Array Bool := B25_38.set! 22 true
mutual
def file_Write.j0 : Nat → Int → Int → Int → List Int → Bool → List (S28) → Option ((List (S28)) × (List (S60)) × Int)
 | 0, _, _, _, _, _, _ => none
 | k + 1, x1, x2, x3, x4, x18, x275000 => if x18 = true then (none) else (if (x4.length : Int) = 0 then (none) else ((span_Fits.f x3 (x4.length : Int)).bind fun t280 => (if t280 = true then ((quota_Used.f k x275000).bind fun t281 => (if 0 ≤ x2 then (if x2 < (x275000.length : Int) then ((quota_More.f k ((rd_T28 x275000 x2).f0) ((rd_T28 x275000 x2).f1) ((rd_T28 x275000 x2).f2) ((rd_T28 x275000 x2).f3) ((rd_T28 x275000 x2).f4) x3 (x4.length : Int)).bind fun t283 => (if (wrap64 (t281 + t283)) > x1 then (some (([] : List (S28)), ([] : List (S60)), 13)) else ((dir_Copy.f k x275000).bind fun t284 => (if x2 < (t284.length : Int) then ((span_Pieces.f k x3 (x4.length : Int)).bind fun t291 => (file_Write.l0 k x2 x4 ([] : List (S60)) t291 (t291.length : Int) 0 (t284.set (x2 : Int).toNat (⟨(rd_T28 t284 x2).f0, (rd_T28 t284 x2).f1, mx ((rd_T28 t284 x2).f2) (wrap64 (x3 + (x4.length : Int))), (rd_T28 t284 x2).f3, (rd_T28 t284 x2).f4⟩ : S28)))) else (none))))) else (none)) else (none))) else (none))))
def file_Write.l0 : Nat → Int → List Int → List (S60) → List (S41) → Int → Int → List (S28) → Option ((List (S28)) × (List (S60)) × Int)
 | 0, _, _, _, _, _, _, _ => none
 | k + 1, x2, x4, x15, x78, x79, x80, x288000 => if x80 < x79 then (if 0 ≤ x80 then (if x80 < (x78.length : Int) then (if 0 ≤ x2 then (if x2 < (x288000.length : Int) then (if 0 ≤ ((rd_T41 x78 x80).f0) then (if ((rd_T41 x78 x80).f0) < (((rd_T28 x288000 x2).f3).length : Int) then (if 0 ≤ ((rd_T41 x78 x80).f2) then (if ((rd_T41 x78 x80).f2) ≤ (x4.length : Int) then ((slices_Clone_byte_byte.f (x4.take (((rd_T41 x78 x80).f2) : Int).toNat)).bind fun t303 => (if x15.length < 2199023255552 then (file_Write.l0 k x2 (x4.drop (((rd_T41 x78 x80).f2) : Int).toNat) (x15 ++ [(⟨x2, (rd_T41 x78 x80).f0, rd ((rd_T28 x288000 x2).f3) ((rd_T41 x78 x80).f0), 16, (rd_T41 x78 x80).f1, t303⟩ : S60)]) x78 x79 (wrap64 (x80 + 1)) x288000) else (none))) else (none)) else (none)) else (none)) else (none)) else (none)) else (none)) else (none)) else (none)) else (some (x288000, x15, 0))
end
def file_Write.f (k : Nat) (l0_0 : List (S28)) (a1 : Int) (a2 : Int) (a3 : Int) (l4 : List Int) : Option ((List (S28)) × (List (S60)) × Int) := (file_is.f k l0_0 a2).bind fun t276 => (if t276 = true then (file_Write.j0 k a1 a2 a3 l4 (decide (a3 < 0)) l0_0) else (none))
theorem file_Write.mono_l : ∀ k, (∀ y0 y1 y2 y3 y4 y5, LeO (file_Write.j0 k y0 y1 y2 y3 y4 y5) (file_Write.j0 (k + 1) y0 y1 y2 y3 y4 y5)) ∧ (∀ y0 y1 y2 y3 y4 y5 y6, LeO (file_Write.l0 k y0 y1 y2 y3 y4 y5 y6) (file_Write.l0 (k + 1) y0 y1 y2 y3 y4 y5 y6))
 | 0 => ⟨fun _ _ _ _ _ _ r h => by simp [file_Write.j0] at h, fun _ _ _ _ _ _ _ r h => by simp [file_Write.l0] at h⟩
 | k + 1 => by
  obtain ⟨ih0, ih1⟩ := file_Write.mono_l k; refine ⟨?_, ?_⟩
  ·
   intro y0 y1 y2 y3 y4 y5
   unfold file_Write.j0
   repeat' with_reducible first | apply ih0 | apply ih1 | apply dir_Copy.mono | apply file_is.mono | apply quota_More.mono | apply quota_Used.mono | apply span_Pieces.mono | exact LeO.refl _ | exact LeO.none _ | refine LeO.ite ?_ ?_ | refine LeO.bind ?_ (fun _ => ?_)
  ·
   intro y0 y1 y2 y3 y4 y5 y6
   unfold file_Write.l0
   repeat' with_reducible first | apply ih0 | apply ih1 | apply dir_Copy.mono | apply file_is.mono | apply quota_More.mono | apply quota_Used.mono | apply span_Pieces.mono | exact LeO.refl _ | exact LeO.none _ | refine LeO.ite ?_ ?_ | refine LeO.bind ?_ (fun _ => ?_)
theorem file_Write.mono : ∀ a0 a1 a2 a3 a4 k, LeO (file_Write.f k a0 a1 a2 a3 a4) (file_Write.f (k + 1) a0 a1 a2 a3 a4) := by
 intro a0 a1 a2 a3 a4 k; obtain ⟨ih0, ih1⟩ := file_Write.mono_l k
 unfold file_Write.f
 repeat' with_reducible first | apply ih0 | apply ih1 | apply dir_Copy.mono | apply file_is.mono | apply quota_More.mono | apply quota_Used.mono | apply span_Pieces.mono | exact LeO.refl _ | exact LeO.none _ | refine LeO.ite ?_ ?_ | refine LeO.bind ?_ (fun _ => ?_)
def file_Write.T7 : Bool × List (List Nat × List Nat) := (true, [([], []), ([0], [0]), ([], []), ([2], [2]), ([], []), ([3, 4], [3, 4]), ([5], [5]), ([], []), ([], []), ([8], [8]), ([6, 7, 9, 1], [6, 7, 9]), ([1, 10], [1, 10]), ([], []), ([11, 12], [11, 12]), ([13, 10], [13])])
def file_Write.B7 : List Nat := [0, 1, 0, 4, 0, 28, 60, 0, 0, 256, 1023, 2047, 0, 8191, 16383]
theorem file_Write.tab7 : rtab .any (opsOf Try.f34 7) = file_Write.T7 := by kernel_rfl
theorem file_Write.bits7 : waitsOk file_Write.T7.2 file_Write.B7 = true := by kernel_rfl
def file_Write.T16 : Bool × List (List Nat × List Nat) := (true, [([], []), ([], []), ([], []), ([2], [2]), ([], []), ([4], [4]), ([5], [5]), ([6], [6]), ([], []), ([8], [8]), ([7, 9], [7, 9]), ([10], [10]), ([], []), ([12], [12]), ([], []), ([], []), ([15], [15]), ([14, 16], [14, 16]), ([17], [17]), ([1, 3, 11, 13, 18], [1, 3, 11, 13, 18]), ([19], [19]), ([0, 20, 18], [0, 20]), ([21, 21, 0, 1, 2, 3, 4, 5, 6, 7, 8, 9, 10, 11, 12, 13, 14, 15, 16, 17, 18, 19, 20, 21], [0, 21])])
def file_Write.B16 : List Nat := [0, 0, 0, 4, 0, 16, 48, 112, 0, 256, 1008, 2032, 0, 4096, 0, 0, 32768, 114688, 245760, 524286, 1048574, 2097151, 4194303]
theorem file_Write.tab16 : rtab .any (opsOf Try.f34 16) = file_Write.T16 := by kernel_rfl
theorem file_Write.bits16 : waitsOk file_Write.T16.2 file_Write.B16 = true := by kernel_rfl
set_option maxHeartbeats 8000000 in
set_option maxRecDepth 100000 in
theorem file_Write.calls (k : Nat) (A0_0 : Option Addr) (c0_0 : Nat) (l0_0 : List (S28)) (a1 : Int) (a2 : Int) (a3 : Int) (P4_ : Nat → Prop) (A4 : Option Addr) (c4 : Nat) (l4 : List Int) (r1 : List (S28)) (r2 : List (S60)) (r3 : Int) (w : World) (hr0_0 : Kd.C k28 w A0_0 l0_0.length l0_0) (hc0_0 : l0_0.length ≤ c0_0) (hs4 : Kd.V (Kd.int .u8) 5 w w.heap.size (fun k_ => P4_ k_) (.slice A4 l4.length c4) l4) (h : file_Write.f k l0_0 a1 a2 a3 l4 = some (r1, r2, r3)) :
 Calls Try.prog 34 #[.agg #[.slice A0_0 l0_0.length c0_0], .int .i64 a1, .int .i64 a2, .int .i64 a3, .slice A4 l4.length c4] w fun e w' => ∃ v0_ v1_ : Value, e = .returned (.tuple #[.agg #[v0_], v1_, .int .i64 r3]) ∧ Kd.S k28 28 w' w.heap.size (fun k_ => (w.heap.size ≤ k_)) v0_ r1 ∧ Kd.S k60 60 w' w.heap.size (fun k_ => (w.heap.size ≤ k_)) v1_ r2 ∧ Below w.heap.size w w' := by
 have hu24 := Try.underlying24; have hu28 := Try.underlying28; have hu41 := Try.underlying41; have hu60 := Try.underlying60; have HR0_0 := Aside0.mk hr0_0; have HC0_0 := Aside0.mk hc0_0; clear hr0_0 hc0_0; have HO4 := Aside0.mk (show Kd.V (Kd.int .u8) 5 w w.heap.size (fun k_ => (P4_ k_ ∨ w.heap.size ≤ k_)) (.slice A4 l4.length c4) l4 from Kd.V_mono hs4 (fun k_ hk => .inl hk)); have HB := Aside0.mk (Below.refl w.heap.size w); have H : ((file_is.f k l0_0 a2).bind fun t276 => (if t276 = true then (file_Write.j0 k a1 a2 a3 l4 (decide (a3 < 0)) l0_0) else (none))) = some (r1, r2, r3) := h; clear h; have HC6 := Aside0.mk H; clear H
 go_enter Try.func34, Try.ntmps34
 go_upto_region 1 with (first | ((with_reducible refine gate_dst (N := 5) rfl ?_); refine bxE 24 (cs := #[.slice A0_0 l0_0.length c0_0]) ?_; intro gb274 hg w7 hbox hb; replace HO4 := Aside0.mk (Kd.V_below (Kd.V_elderB (mV HO4) gb274 (Nat.le_of_eq hg.symm)) hb); have BK274 := Aside0.mk hbox; have GW274 := kG HB hg; have GE274 := kG HB hg; replace HB := kH HB hb; clear hb hbox hg) | ((with_reducible refine gate_dst (N := 10) rfl ?_); refine bxE 24 (cs := #[.slice none 0 0]) ?_; intro gb275 hg w8 hbox hb; replace HO4 := Aside0.mk (Kd.V_below (Kd.V_elderB (mV HO4) gb275 (Nat.le_of_eq hg.symm)) hb); have BK275 := Aside0.mk hbox; have GW275 := kG HB hg; have GE275 := kG HB hg; replace HB := kH HB hb; have NB274_275 := kL BK274 hg; have NB275_274 := kQ BK274 hg; replace BK274 := kB BK274 hb; clear hb hbox hg))
 (try simp only [Act.put, lT, l0_, lS])
 go_cut [18] (fun v18 wc => ∃ (kq : Nat) (x18_5 : Bool), v18 = .bool x18_5 ∧ Aside0 (file_Write.j0 kq a1 a2 a3 l4 x18_5 l0_0 = some (r1, r2, r3)) ∧ Aside0 (kq ≤ k) ∧ Aside0 (Kd.V (Kd.int .u8) 5 wc w.heap.size (fun k_ => (P4_ k_ ∨ w.heap.size ≤ k_) ∧ k_ ≠ gb274 ∧ k_ ≠ gb275) (.slice A4 l4.length c4) l4) ∧ Aside0 (wc.heap[gb274]? = some (.cells #[(.slice A0_0 l0_0.length c0_0)] 24 (0, 0))) ∧ Aside0 (wc.heap[gb275]? = some (.cells #[(.slice none 0 0)] 24 (0, 0))) ∧ Aside0 (Below w.heap.size w wc))
 case first =>
  have H := HC6.out; clear HC6; replace H := Option.bind_eq_some_iff.mp H; obtain ⟨t276, A90, H⟩ := H; have A9 := Aside0.mk A90; clear A90
  by_cases c10 : t276 = true
  ·
   subst c10
   have H1 : (file_Write.j0 k a1 a2 a3 l4 (decide (a3 < 0)) l0_0) = some (r1, r2, r3) := by rw [if_pos rfl] at H; exact H
   clear H; have H := H1; clear H1; have H' := Aside0.mk H; clear H; have hnb11 := NB274_275.out; have hnc11 := NB275_274.out; obtain ⟨hcz12_0, hfz12_0⟩ := cY0 BK274
   go_wp2_with (first | ((with_reducible refine gate_callee (f := 56) rfl ?_); refine goesK (some 21) Try.func56 #[.agg #[.slice A0_0 l0_0.length c0_0], .int .i64 a2] ?_; (with_reducible refine (file_is.calls k _ _ l0_0 a2 true _ ?side1 ?side2 A9.out).mono ?_); (case side1 => exact mC HR0_0 HB); (case side2 => exact HC0_0.out); rintro e w13 ⟨rfl, hb⟩; refine ⟨_, rfl, ?_⟩; replace HO4 := kV HO4 hb; replace BK274 := kB BK274 hb; replace BK275 := kB BK275 hb; replace HB := kH HB hb; (try clear hb); (try clear hk)))
   go_meet
   case rel => exact ⟨_, (decide (a3 < 0)), sI, H', ⟨by first | omega | exact Nat.le_refl _⟩, ⟨by (with_reducible repeat (first | apply Kd.V_alloc | apply Kd.V_drewN | apply Kd.V_drew)); exact Kd.V_mono HO4.out (fun _ hk => by first | exact ⟨hk.1.1, ⟨hk.1.2, hk.2⟩⟩ | (go_split_ands; and_intros <;> assumption))⟩, ⟨mB BK274⟩, ⟨mB BK275⟩, ⟨mH HB⟩⟩
  ·
   replace c10 := Bool.eq_false_iff.mpr c10; subst c10
   have H1 : (none) = some (r1, r2, r3) := by rw [if_neg (show ¬ (false = true) by decide)] at H; exact H
   clear H; have H := H1; clear H1; exact absurd H (by simp)
 case rest =>
  clear HC6
  (try clear c4)
  obtain ⟨kq, x18_5, rfl, HA, HJ5, HO_4, BK274, BK275, HB⟩ := hcut
  cases kq with
  | zero => exact absurd HA.out (by simp [file_Write.j0])
  | succ kj5 =>
   have H := HA.out; clear HA; simp only [file_Write.j0] at H
   by_cases c14 : x18_5 = true
   ·
    subst c14
    have H1 : (none) = some (r1, r2, r3) := by rw [if_pos rfl] at H; exact H
    clear H; have H := H1; clear H1; exact absurd H (by simp)
   ·
    replace c14 := Bool.eq_false_iff.mpr c14; subst c14
    have H1 : (if (l4.length : Int) = 0 then (none) else ((span_Fits.f a3 (l4.length : Int)).bind fun t280 => (if t280 = true then ((quota_Used.f kj5 l0_0).bind fun t281 => (if 0 ≤ a2 then (if a2 < (l0_0.length : Int) then ((quota_More.f kj5 ((rd_T28 l0_0 a2).f0) ((rd_T28 l0_0 a2).f1) ((rd_T28 l0_0 a2).f2) ((rd_T28 l0_0 a2).f3) ((rd_T28 l0_0 a2).f4) a3 (l4.length : Int)).bind fun t283 => (if (wrap64 (t281 + t283)) > a1 then (some (([] : List (S28)), ([] : List (S60)), 13)) else ((dir_Copy.f kj5 l0_0).bind fun t284 => (if a2 < (t284.length : Int) then ((span_Pieces.f kj5 a3 (l4.length : Int)).bind fun t291 => (file_Write.l0 kj5 a2 l4 ([] : List (S60)) t291 (t291.length : Int) 0 (t284.set (a2 : Int).toNat (⟨(rd_T28 t284 a2).f0, (rd_T28 t284 a2).f1, mx ((rd_T28 t284 a2).f2) (wrap64 (a3 + (l4.length : Int))), (rd_T28 t284 a2).f3, (rd_T28 t284 a2).f4⟩ : S28)))) else (none))))) else (none)) else (none))) else (none)))) = some (r1, r2, r3) := by rw [if_neg (show ¬ (false = true) by decide)] at H; exact H
    clear H; have H := H1; clear H1
    replace H := nQ H; obtain ⟨c15, H⟩ := H; obtain ⟨c15b0, c15b1⟩ := eN c15
    have c15b2 : ¬ (l4 = []) := fun h_ => c15 (by rw [h_]; rfl)
    replace H := Option.bind_eq_some_iff.mp H; obtain ⟨t280, A160, H⟩ := H; have A16 := Aside0.mk A160; clear A160
    by_cases c17 : t280 = true
    ·
     subst c17
     have H1 : ((quota_Used.f kj5 l0_0).bind fun t281 => (if 0 ≤ a2 then (if a2 < (l0_0.length : Int) then ((quota_More.f kj5 ((rd_T28 l0_0 a2).f0) ((rd_T28 l0_0 a2).f1) ((rd_T28 l0_0 a2).f2) ((rd_T28 l0_0 a2).f3) ((rd_T28 l0_0 a2).f4) a3 (l4.length : Int)).bind fun t283 => (if (wrap64 (t281 + t283)) > a1 then (some (([] : List (S28)), ([] : List (S60)), 13)) else ((dir_Copy.f kj5 l0_0).bind fun t284 => (if a2 < (t284.length : Int) then ((span_Pieces.f kj5 a3 (l4.length : Int)).bind fun t291 => (file_Write.l0 kj5 a2 l4 ([] : List (S60)) t291 (t291.length : Int) 0 (t284.set (a2 : Int).toNat (⟨(rd_T28 t284 a2).f0, (rd_T28 t284 a2).f1, mx ((rd_T28 t284 a2).f2) (wrap64 (a3 + (l4.length : Int))), (rd_T28 t284 a2).f3, (rd_T28 t284 a2).f4⟩ : S28)))) else (none))))) else (none)) else (none))) = some (r1, r2, r3) := by rw [if_pos rfl] at H; exact H
     clear H; have H := H1; clear H1; replace H := Option.bind_eq_some_iff.mp H; obtain ⟨t281, A180, H⟩ := H; have A18 := Aside0.mk A180; clear A180
     replace H := nP H; obtain ⟨c19, H⟩ := H; have c19b0 := decide_eq_true c19; clear c19
     replace H := nP H; obtain ⟨c20, H⟩ := H; have c20b0 := decide_eq_true c20; clear c20; replace H := Option.bind_eq_some_iff.mp H; obtain ⟨t283, A210, H⟩ := H; have A21 := Aside0.mk A210; clear A210
     by_cases c22 : (wrap64 (t281 + t283)) > a1
     ·
      rw [if_pos c22] at H; have c22b0 : decide (a1 < (wrap64 (t281 + t283))) = true := decide_eq_true c22; clear c22; simp only [Option.some.injEq, Prod.mk.injEq] at H; obtain ⟨rfl, rfl, rfl⟩ := H
      try go_wp2_with (first | ((with_reducible refine gate_callee (f := 58) rfl ?_); refine goesK (some 38) Try.func58 #[.int .i64 a3, .int .i64 (l4.length : Int)] ?_; (with_reducible refine (span_Fits.calls a3 (l4.length : Int) true _ A16.out).mono ?_); rintro e w' ⟨rfl, ⟨nd, rfl⟩⟩; refine ⟨_, rfl, ?_⟩; (try (rw [drewN_self wc]; generalize hq_ : World.drewN wc _ = wc; have n0_ : Aside0 (Kd.V (Kd.int .u8) 5 wc w.heap.size (fun k_ => (P4_ k_ ∨ w.heap.size ≤ k_) ∧ k_ ≠ gb274 ∧ k_ ≠ gb275) (.slice A4 l4.length c4) l4) := ⟨by rw [← hq_]; exact (mV HO_4)⟩; have n1_ : Aside0 (wc.heap[gb274]? = some (.cells #[.slice A0_0 l0_0.length c0_0] 24 (0, 0))) := ⟨by rw [← hq_]; exact (mB BK274)⟩; have n2_ : Aside0 (wc.heap[gb275]? = some (.cells #[.slice none 0 0] 24 (0, 0))) := ⟨by rw [← hq_]; exact (mB BK275)⟩; have n3_ : Aside0 (Below w.heap.size w wc) := ⟨by rw [← hq_]; exact (mH HB)⟩; clear HO_4 BK274 BK275 HB hq_; have HO_4 := n0_; have BK274 := n1_; have BK275 := n2_; have HB := n3_; clear n0_ n1_ n2_ n3_))))
      replace HO_4 := Aside0.mk (Kd.V_drew HO_4.out); replace BK274 := Aside0.mk (bD BK274.out); replace BK275 := Aside0.mk (bD BK275.out); replace HB := Aside0.mk (wD HB.out); have p282 : 0 ≤ (a2 : Int) := dT; have q282 : a2 < (l0_0.length : Int) := dT; obtain ⟨ad282, A282_3, c282_3, A282_4, c282_4, e282, hx282_0, hx282_1, hx282_2, hx282_3, hx282_4, hl282_3, hi282_3, hl282_4, hi282_4⟩ := at_T28 HR0_0.out a2 p282 q282; have hw282_4 := hx282_4; have hw282_3 := hx282_3; have hw282_2 := hx282_2; have hw282_1 := hx282_1; have hw282_0 := hx282_0
      cases e282
      replace hx282_0 := xC HB hx282_0; replace hx282_1 := xC HB hx282_1; replace hx282_2 := xC HB hx282_2; replace hx282_3 := xC HB hx282_3; replace hx282_4 := xC HB hx282_4; have HR282_3 := Aside0.mk hi282_3; have HC282_3 := Aside0.mk hl282_3; clear hi282_3 hl282_3; have HR282_4 := Aside0.mk hi282_4; have HC282_4 := Aside0.mk hl282_4; clear hi282_4 hl282_4; replace p282 := eq_true p282; replace q282 := eq_true q282; refine start_ (n := 15) (S := fun w' => w'.cell? ⟨gb274, 0, none⟩ = some (.slice (some ad282) l0_0.length c0_0) ∧ w'.cell? (ad282.add ((a2).toNat * 5)) = some (.int .i64 ((rd_T28 l0_0 a2).f0)) ∧ w'.cell? ⟨(ad282.add ((a2).toNat * 5)).block, (ad282.add ((a2).toNat * 5)).off + 1, none⟩ = some (.int .i64 ((rd_T28 l0_0 a2).f1)) ∧ w'.cell? ⟨(ad282.add ((a2).toNat * 5)).block, (ad282.add ((a2).toNat * 5)).off + 2, none⟩ = some (.int .i64 ((rd_T28 l0_0 a2).f2)) ∧ w'.cell? ⟨(ad282.add ((a2).toNat * 5)).block, (ad282.add ((a2).toNat * 5)).off + 3, none⟩ = some (.slice A282_3 ((rd_T28 l0_0 a2).f3).length c282_3) ∧ w'.cell? ⟨(ad282.add ((a2).toNat * 5)).block, (ad282.add ((a2).toNat * 5)).off + 4, none⟩ = some (.slice A282_4 ((rd_T28 l0_0 a2).f4).length c282_4)) (ds := []) B25_0 (by kernel_rfl) rfl rfl ⟨(bC BK274.out 0).trans rfl, (xC HB hw282_0), (xC HB hw282_1), (xC HB hw282_2), (xC HB hw282_3), (xC HB hw282_4)⟩ (fun hHeld => ?_); refine with_tabW file_Write.tab7 file_Write.bits7 (fun HT_ HW_ => ?_); generalize wc.drew = w23 at HO_4 BK274 BK275 HB HR282_3 HR282_4 hx282_0 hx282_1 hx282_2 hx282_3 hx282_4 hHeld ⊢; refine pure_ (i := 2) (N := some 44) (v := ?_) (a' := ?_) B25_1 rfl rfl (any_of HT_.out (by kernel_rfl)) (fun _ _ _ h => h) (Or.inl ⟨by rfl, ?_⟩) ?_ ?_; rotate_left
      ·
       intro w'; go_simp; with_reducible rfl
      rotate_left
      ·
       simp only [Act.put, lT, l0_, lS, i64_w, i32_w]; rfl
      refine pureE 4 (some 46) B25_2 (any_of HT_.out (by kernel_rfl)) ?_
      refine pureE 7 (some 49) B25_3 (any_of HT_.out (by kernel_rfl)) ?_
      refine pureE 8 (some 50) B25_4 (any_of HT_.out (by kernel_rfl)) ?_
      refine pureE 9 (some 51) B25_5 (any_of HT_.out (by kernel_rfl)) ?_
      refine pureE 12 (some 54) B25_6 (any_of HT_.out (by kernel_rfl)) ?_
      refine take_ (i := 0) (N := some 42) (v := ?_) (a' := ?_) B25_7 rfl rfl (take_ofW HT_.out HW_.out (by kernel_rfl)) (fun _ _ _ h => h) (Or.inl ⟨by rfl, ?_⟩) hHeld ?_ ?_; rotate_left
      ·
       rintro w' ⟨s0, s1, s2, s3, s4, s5⟩; go_simp; with_reducible rfl
      rotate_left
      ·
       simp only [Act.put, lT, l0_, lS, i64_w, i32_w]; rfl
      refine take_ (i := 3) (N := some 45) (v := ?_) (a' := ?_) B25_8 rfl rfl (take_ofW HT_.out HW_.out (by kernel_rfl)) (fun _ _ _ h => h) (Or.inl ⟨by rfl, ?_⟩) hHeld ?_ ?_; rotate_left
      ·
       rintro w' ⟨s0, s1, s2, s3, s4, s5⟩; go_simp; with_reducible rfl
      rotate_left
      ·
       simp only [Act.put, lT, l0_, lS, i64_w, i32_w]; rfl
      refine pureE 5 (some 47) B25_9 (any_of HT_.out (by kernel_rfl)) ?_
      refine take_ (i := 6) (N := some 48) (v := ?_) (a' := ?_) B25_10 rfl rfl (take_ofW HT_.out HW_.out (by kernel_rfl)) (fun _ _ _ h => h) (Or.inl ⟨by rfl, ?_⟩) hHeld ?_ ?_; rotate_left
      ·
       rintro w' ⟨s0, s1, s2, s3, s4, s5⟩; go_simp; with_reducible rfl
      rotate_left
      ·
       simp only [Act.put, lT, l0_, lS, i64_w, i32_w]; rfl
      refine one_ (i := 1) (N := some 43) B25_11 rfl rfl (one_of HT_.out (by kernel_rfl)) (by decide) (fun K hK => ?_); refine goes_ Try.func16 (by kernel_rfl) rfl #[.agg #[.slice (some ad282) l0_0.length c0_0]] (by rfl) rfl rfl (by (try simp only [List.map_toArray, List.map_cons, List.map_nil]); first | done | rfl | (simp only [List.length_drop, List.length_take]; rfl)) ?_
      with_reducible refine (quota_Used.calls kj5 _ _ l0_0 t281 _ ?side1 ?side2 A18.out).mono ?_
      (case side1 => exact mC HR0_0 HB)
      (case side2 => exact HC0_0.out)
      rintro e w24 ⟨rfl, hb⟩; refine ⟨_, rfl, ?_⟩; replace HO_4 := kV HO_4 hb; replace BK274 := kB BK274 hb; replace BK275 := kB BK275 hb; replace HB := kH HB hb
      (try clear hb); (try clear hk)
      refine hK.out _ _ ⟨(bC BK274.out 0).trans rfl, (xC HB hw282_0), (xC HB hw282_1), (xC HB hw282_2), (xC HB hw282_3), (xC HB hw282_4)⟩ (fun hHeld => ?_); clear hK K; refine norm_ (a' := ?_) ?_ ?_; rotate_left
      ·
       show Act.put _ (some 43) _ = _
       simp only [Act.put, lT, l0_, lS, i64_w, i32_w]; rfl
      refine one_ (i := 10) (N := some 52) B25_12 rfl rfl (one_of HT_.out (by kernel_rfl)) (by decide) (fun K hK => ?_); refine goes_ Try.func22 (by kernel_rfl) rfl #[.agg #[.int .i64 ((rd_T28 l0_0 a2).f0), .int .i64 ((rd_T28 l0_0 a2).f1), .int .i64 ((rd_T28 l0_0 a2).f2), .slice A282_3 ((rd_T28 l0_0 a2).f3).length c282_3, .slice A282_4 ((rd_T28 l0_0 a2).f4).length c282_4], .int .i64 a3, .int .i64 (l4.length : Int)] (by rfl) rfl rfl (by (try simp only [List.map_toArray, List.map_cons, List.map_nil]); first | done | rfl | (simp only [List.length_drop, List.length_take]; rfl)) ?_
      with_reducible refine (quota_More.calls kj5 ((rd_T28 l0_0 a2).f0) ((rd_T28 l0_0 a2).f1) ((rd_T28 l0_0 a2).f2) _ _ ((rd_T28 l0_0 a2).f3) _ _ ((rd_T28 l0_0 a2).f4) a3 (l4.length : Int) t283 _ ?side1 ?side2 ?side3 ?side4 A21.out).mono ?_
      (case side1 => exact mC HR282_3 HB)
      (case side2 => exact HC282_3.out)
      (case side3 => exact mC HR282_4 HB)
      (case side4 => exact HC282_4.out)
      rintro e w25 ⟨rfl, hb⟩; refine ⟨_, rfl, ?_⟩; replace HO_4 := kV HO_4 hb; replace BK274 := kB BK274 hb; replace BK275 := kB BK275 hb; replace HB := kH HB hb
      (try clear hb); (try clear hk)
      refine hK.out _ _ ⟨(bC BK274.out 0).trans rfl, (xC HB hw282_0), (xC HB hw282_1), (xC HB hw282_2), (xC HB hw282_3), (xC HB hw282_4)⟩ (fun hHeld => ?_); clear hK K; refine norm_ (a' := ?_) ?_ ?_; rotate_left
      ·
       show Act.put _ (some 52) _ = _
       simp only [Act.put, lT, l0_, lS, i64_w, i32_w]; rfl
      refine pureE 11 (some 53) B25_13 (any_of HT_.out (by kernel_rfl)) ?_
      refine pureE 13 (some 55) B25_14 (any_of HT_.out (by kernel_rfl)) ?_
      refine pureE 14 (some 41) B25_15 (any_of HT_.out (by kernel_rfl)) ?_
      refine done_ (done_of HT_.out (by kernel_rfl)) ?_; have hnb26 := NB275_274.out; have hnc26 := NB274_275.out; obtain ⟨hcz27_0, hfz27_0⟩ := cY0 BK275
      try go_wp2
      refine bodyPost_ret (results_ctt rfl _ _ gb275 24 #[.slice none 0 0] (0, 0) _ rfl (pP BK275) Try.underlying24 rfl (by kernel_rfl)) rfl ?_
      exact ⟨_, _, rT, by first | exact Kd.S_nil _ _ _ _ _ | exact Kd.N_nil _ _ _ _ _ | exact Kd.V_nil _ _ _ _ _ | exact Kd.Q_nil _ _ _ _ _ | exact Kd.R_nil _ _ _ _ _, by first | exact Kd.S_nil _ _ _ _ _ | exact Kd.N_nil _ _ _ _ _ | exact Kd.V_nil _ _ _ _ _ | exact Kd.Q_nil _ _ _ _ _ | exact Kd.R_nil _ _ _ _ _, mH HB⟩
     ·
      rw [if_neg c22] at H; have c22b0 : decide (a1 < (wrap64 (t281 + t283))) = false := decide_eq_false c22; clear c22; replace H := Option.bind_eq_some_iff.mp H; obtain ⟨t284, A280, H⟩ := H; have A28 := Aside0.mk A280; clear A280
      replace H := nP H; obtain ⟨c29, H⟩ := H; have c29b0 := decide_eq_true c29; clear c29; obtain ⟨ji30, hji30⟩ : ∃ j_ : Int, (mx ((rd_T28 t284 a2).f2) (wrap64 (a3 + (l4.length : Int)))) = j_ := ⟨_, rfl⟩
      replace H : ((span_Pieces.f kj5 a3 (l4.length : Int)).bind fun t291 => (file_Write.l0 kj5 a2 l4 ([] : List (S60)) t291 (t291.length : Int) 0 (t284.set (a2 : Int).toNat (⟨(rd_T28 t284 a2).f0, (rd_T28 t284 a2).f1, ji30, (rd_T28 t284 a2).f3, (rd_T28 t284 a2).f4⟩ : S28)))) = some (r1, r2, r3) := by first | (rw [hji30] at H; exact H) | (simp only [hji30] at H ⊢; exact H)
      (try rw [hji30] at A16)
      (try rw [hji30] at A18)
      (try rw [hji30] at A21)
      (try rw [hji30] at A28)
      have hji30_ : (if ((rd_T28 t284 a2).f2) < (wrap64 (a3 + (l4.length : Int))) then (wrap64 (a3 + (l4.length : Int))) else ((rd_T28 t284 a2).f2)) = ji30 := hji30; obtain ⟨y290, hy290⟩ : ∃ y_ : List (S28), y_ = (t284.set (a2 : Int).toNat (⟨(rd_T28 t284 a2).f0, (rd_T28 t284 a2).f1, ji30, (rd_T28 t284 a2).f3, (rd_T28 t284 a2).f4⟩ : S28)) := ⟨_, rfl⟩
      replace H : ((span_Pieces.f kj5 a3 (l4.length : Int)).bind fun t291 => (file_Write.l0 kj5 a2 l4 ([] : List (S60)) t291 (t291.length : Int) 0 y290)) = some (r1, r2, r3) := rH H hy290
      have Ny290 := Aside0.mk hy290; clear hy290; replace H := Option.bind_eq_some_iff.mp H; obtain ⟨t291, A320, H⟩ := H; have A32 := Aside0.mk A320; clear A320; have H' := Aside0.mk H; clear H
      try go_wp2_with (first | ((with_reducible refine gate_callee (f := 58) rfl ?_); refine goesK (some 38) Try.func58 #[.int .i64 a3, .int .i64 (l4.length : Int)] ?_; (with_reducible refine (span_Fits.calls a3 (l4.length : Int) true _ A16.out).mono ?_); rintro e w' ⟨rfl, ⟨nd, rfl⟩⟩; refine ⟨_, rfl, ?_⟩; (try (rw [drewN_self wc]; generalize hq_ : World.drewN wc _ = wc; have n0_ : Aside0 (Kd.V (Kd.int .u8) 5 wc w.heap.size (fun k_ => (P4_ k_ ∨ w.heap.size ≤ k_) ∧ k_ ≠ gb274 ∧ k_ ≠ gb275) (.slice A4 l4.length c4) l4) := ⟨by rw [← hq_]; exact (mV HO_4)⟩; have n1_ : Aside0 (wc.heap[gb274]? = some (.cells #[.slice A0_0 l0_0.length c0_0] 24 (0, 0))) := ⟨by rw [← hq_]; exact (mB BK274)⟩; have n2_ : Aside0 (wc.heap[gb275]? = some (.cells #[.slice none 0 0] 24 (0, 0))) := ⟨by rw [← hq_]; exact (mB BK275)⟩; have n3_ : Aside0 (Below w.heap.size w wc) := ⟨by rw [← hq_]; exact (mH HB)⟩; clear HO_4 BK274 BK275 HB hq_; have HO_4 := n0_; have BK274 := n1_; have BK275 := n2_; have HB := n3_; clear n0_ n1_ n2_ n3_))))
      replace HO_4 := Aside0.mk (Kd.V_drew HO_4.out); replace BK274 := Aside0.mk (bD BK274.out); replace BK275 := Aside0.mk (bD BK275.out); replace HB := Aside0.mk (wD HB.out); have p282 : 0 ≤ (a2 : Int) := dT; have q282 : a2 < (l0_0.length : Int) := dT; obtain ⟨ad282, A282_3, c282_3, A282_4, c282_4, e282, hx282_0, hx282_1, hx282_2, hx282_3, hx282_4, hl282_3, hi282_3, hl282_4, hi282_4⟩ := at_T28 HR0_0.out a2 p282 q282; have hw282_4 := hx282_4; have hw282_3 := hx282_3; have hw282_2 := hx282_2; have hw282_1 := hx282_1; have hw282_0 := hx282_0
      cases e282
      replace hx282_0 := xC HB hx282_0; replace hx282_1 := xC HB hx282_1; replace hx282_2 := xC HB hx282_2; replace hx282_3 := xC HB hx282_3; replace hx282_4 := xC HB hx282_4; have HR282_3 := Aside0.mk hi282_3; have HC282_3 := Aside0.mk hl282_3; clear hi282_3 hl282_3; have HR282_4 := Aside0.mk hi282_4; have HC282_4 := Aside0.mk hl282_4; clear hi282_4 hl282_4; replace p282 := eq_true p282; replace q282 := eq_true q282; refine start_ (n := 15) (S := fun w' => w'.cell? ⟨gb274, 0, none⟩ = some (.slice (some ad282) l0_0.length c0_0) ∧ w'.cell? (ad282.add ((a2).toNat * 5)) = some (.int .i64 ((rd_T28 l0_0 a2).f0)) ∧ w'.cell? ⟨(ad282.add ((a2).toNat * 5)).block, (ad282.add ((a2).toNat * 5)).off + 1, none⟩ = some (.int .i64 ((rd_T28 l0_0 a2).f1)) ∧ w'.cell? ⟨(ad282.add ((a2).toNat * 5)).block, (ad282.add ((a2).toNat * 5)).off + 2, none⟩ = some (.int .i64 ((rd_T28 l0_0 a2).f2)) ∧ w'.cell? ⟨(ad282.add ((a2).toNat * 5)).block, (ad282.add ((a2).toNat * 5)).off + 3, none⟩ = some (.slice A282_3 ((rd_T28 l0_0 a2).f3).length c282_3) ∧ w'.cell? ⟨(ad282.add ((a2).toNat * 5)).block, (ad282.add ((a2).toNat * 5)).off + 4, none⟩ = some (.slice A282_4 ((rd_T28 l0_0 a2).f4).length c282_4)) (ds := []) B25_0 (by kernel_rfl) rfl rfl ⟨(bC BK274.out 0).trans rfl, (xC HB hw282_0), (xC HB hw282_1), (xC HB hw282_2), (xC HB hw282_3), (xC HB hw282_4)⟩ (fun hHeld => ?_); refine with_tabW file_Write.tab7 file_Write.bits7 (fun HT_ HW_ => ?_); generalize wc.drew = w33 at HO_4 BK274 BK275 HB HR282_3 HR282_4 hx282_0 hx282_1 hx282_2 hx282_3 hx282_4 hHeld ⊢; refine pure_ (i := 2) (N := some 44) (v := ?_) (a' := ?_) B25_1 rfl rfl (any_of HT_.out (by kernel_rfl)) (fun _ _ _ h => h) (Or.inl ⟨by rfl, ?_⟩) ?_ ?_; rotate_left
      ·
       intro w'; go_simp; with_reducible rfl
      rotate_left
      ·
       simp only [Act.put, lT, l0_, lS, i64_w, i32_w]; rfl
      refine pureE 4 (some 46) B25_2 (any_of HT_.out (by kernel_rfl)) ?_
      refine pureE 7 (some 49) B25_3 (any_of HT_.out (by kernel_rfl)) ?_
      refine pureE 8 (some 50) B25_4 (any_of HT_.out (by kernel_rfl)) ?_
      refine pureE 9 (some 51) B25_5 (any_of HT_.out (by kernel_rfl)) ?_
      refine pureE 12 (some 54) B25_6 (any_of HT_.out (by kernel_rfl)) ?_
      refine take_ (i := 0) (N := some 42) (v := ?_) (a' := ?_) B25_7 rfl rfl (take_ofW HT_.out HW_.out (by kernel_rfl)) (fun _ _ _ h => h) (Or.inl ⟨by rfl, ?_⟩) hHeld ?_ ?_; rotate_left
      ·
       rintro w' ⟨s0, s1, s2, s3, s4, s5⟩; go_simp; with_reducible rfl
      rotate_left
      ·
       simp only [Act.put, lT, l0_, lS, i64_w, i32_w]; rfl
      refine take_ (i := 3) (N := some 45) (v := ?_) (a' := ?_) B25_8 rfl rfl (take_ofW HT_.out HW_.out (by kernel_rfl)) (fun _ _ _ h => h) (Or.inl ⟨by rfl, ?_⟩) hHeld ?_ ?_; rotate_left
      ·
       rintro w' ⟨s0, s1, s2, s3, s4, s5⟩; go_simp; with_reducible rfl
      rotate_left
      ·
       simp only [Act.put, lT, l0_, lS, i64_w, i32_w]; rfl
      refine pureE 5 (some 47) B25_9 (any_of HT_.out (by kernel_rfl)) ?_
      refine take_ (i := 6) (N := some 48) (v := ?_) (a' := ?_) B25_10 rfl rfl (take_ofW HT_.out HW_.out (by kernel_rfl)) (fun _ _ _ h => h) (Or.inl ⟨by rfl, ?_⟩) hHeld ?_ ?_; rotate_left
      ·
       rintro w' ⟨s0, s1, s2, s3, s4, s5⟩; go_simp; with_reducible rfl
      rotate_left
      ·
       simp only [Act.put, lT, l0_, lS, i64_w, i32_w]; rfl
      refine one_ (i := 1) (N := some 43) B25_11 rfl rfl (one_of HT_.out (by kernel_rfl)) (by decide) (fun K hK => ?_); refine goes_ Try.func16 (by kernel_rfl) rfl #[.agg #[.slice (some ad282) l0_0.length c0_0]] (by rfl) rfl rfl (by (try simp only [List.map_toArray, List.map_cons, List.map_nil]); first | done | rfl | (simp only [List.length_drop, List.length_take]; rfl)) ?_
      with_reducible refine (quota_Used.calls kj5 _ _ l0_0 t281 _ ?side1 ?side2 A18.out).mono ?_
      (case side1 => exact mC HR0_0 HB)
      (case side2 => exact HC0_0.out)
      rintro e w34 ⟨rfl, hb⟩; refine ⟨_, rfl, ?_⟩; replace HO_4 := kV HO_4 hb; replace BK274 := kB BK274 hb; replace BK275 := kB BK275 hb; replace HB := kH HB hb
      (try clear hb); (try clear hk)
      refine hK.out _ _ ⟨(bC BK274.out 0).trans rfl, (xC HB hw282_0), (xC HB hw282_1), (xC HB hw282_2), (xC HB hw282_3), (xC HB hw282_4)⟩ (fun hHeld => ?_); clear hK K; refine norm_ (a' := ?_) ?_ ?_; rotate_left
      ·
       show Act.put _ (some 43) _ = _
       simp only [Act.put, lT, l0_, lS, i64_w, i32_w]; rfl
      refine one_ (i := 10) (N := some 52) B25_12 rfl rfl (one_of HT_.out (by kernel_rfl)) (by decide) (fun K hK => ?_); refine goes_ Try.func22 (by kernel_rfl) rfl #[.agg #[.int .i64 ((rd_T28 l0_0 a2).f0), .int .i64 ((rd_T28 l0_0 a2).f1), .int .i64 ((rd_T28 l0_0 a2).f2), .slice A282_3 ((rd_T28 l0_0 a2).f3).length c282_3, .slice A282_4 ((rd_T28 l0_0 a2).f4).length c282_4], .int .i64 a3, .int .i64 (l4.length : Int)] (by rfl) rfl rfl (by (try simp only [List.map_toArray, List.map_cons, List.map_nil]); first | done | rfl | (simp only [List.length_drop, List.length_take]; rfl)) ?_
      with_reducible refine (quota_More.calls kj5 ((rd_T28 l0_0 a2).f0) ((rd_T28 l0_0 a2).f1) ((rd_T28 l0_0 a2).f2) _ _ ((rd_T28 l0_0 a2).f3) _ _ ((rd_T28 l0_0 a2).f4) a3 (l4.length : Int) t283 _ ?side1 ?side2 ?side3 ?side4 A21.out).mono ?_
      (case side1 => exact mC HR282_3 HB)
      (case side2 => exact HC282_3.out)
      (case side3 => exact mC HR282_4 HB)
      (case side4 => exact HC282_4.out)
      rintro e w35 ⟨rfl, hb⟩; refine ⟨_, rfl, ?_⟩; replace HO_4 := kV HO_4 hb; replace BK274 := kB BK274 hb; replace BK275 := kB BK275 hb; replace HB := kH HB hb
      (try clear hb); (try clear hk)
      refine hK.out _ _ ⟨(bC BK274.out 0).trans rfl, (xC HB hw282_0), (xC HB hw282_1), (xC HB hw282_2), (xC HB hw282_3), (xC HB hw282_4)⟩ (fun hHeld => ?_); clear hK K; refine norm_ (a' := ?_) ?_ ?_; rotate_left
      ·
       show Act.put _ (some 52) _ = _
       simp only [Act.put, lT, l0_, lS, i64_w, i32_w]; rfl
      refine pureE 11 (some 53) B25_13 (any_of HT_.out (by kernel_rfl)) ?_
      refine pureE 13 (some 55) B25_14 (any_of HT_.out (by kernel_rfl)) ?_
      refine pureE 14 (some 41) B25_15 (any_of HT_.out (by kernel_rfl)) ?_
      refine done_ (done_of HT_.out (by kernel_rfl)) ?_; have hnb36 := NB274_275.out; have hnc36 := NB275_274.out; obtain ⟨hcz37_0, hfz37_0⟩ := cY0 BK274
      try go_wp2_with (first | ((with_reducible refine gate_callee (f := 57) rfl ?_); refine goesK (some 58) Try.func57 #[.agg #[.slice (some ad282) l0_0.length c0_0]] ?_; (with_reducible refine (dir_Copy.calls kj5 _ _ l0_0 t284 _ ?side1 ?side2 A28.out).mono ?_); (case side1 => exact mC HR0_0 HB); (case side2 => exact HC0_0.out); rintro e w38 ⟨v285, rfl, ho0, hb⟩; refine ⟨_, rfl, ?_⟩; replace HO_4 := Aside0.mk (Kd.V_elder' (mV HO_4) (Kd.S_base ho0) hb); have HO286 := Aside0.mk (Kd.S_lower (Kd.S_newM (M := fun k_ => (w.heap.size ≤ k_)) ho0 (below_size (mH HB)) (fun k_ h_ => h_)) (below_size (mH HB))); replace BK274 := kB BK274 hb; replace BK275 := kB BK275 hb; replace HB := kH HB hb; (try clear hb); (try clear hk); (try clear ho0)) | ((with_reducible refine gate_dst (N := 13) rfl ?_); refine bxE 24 (cs := #[.slice none 0 0]) ?_; intro gb287 hg w39 hbox hb; replace HO_4 := Aside0.mk (Kd.V_below (Kd.V_elderB (mV HO_4) gb287 (Nat.le_of_eq hg.symm)) hb); replace HO286 := kS HO286 hb; have BK287 := Aside0.mk hbox; have GW287 := kG HB hg; have GE287 := kG HB hg; replace HB := kH HB hb; have NB274_287 := kL BK274 hg; have NB287_274 := kQ BK274 hg; replace BK274 := kB BK274 hb; have NB275_287 := kL BK275 hg; have NB287_275 := kQ BK275 hg; replace BK275 := kB BK275 hb; clear hb hbox hg; obtain ⟨Ao40, co40, eo40⟩ := Kd.S_slice HO286.out; subst eo40; have hnb41 := NB287_274.out; have hnc41 := NB274_287.out; have hnb42 := NB287_275.out; have hnc42 := NB275_287.out; obtain ⟨hcz43_0, hfz43_0⟩ := cY0 BK287) | ((with_reducible refine gate_store (t := 24) (p := 13) rfl ?_); refine store_event (t := 24) (p := 13) (v := ?vo_w44) (w1 := (w39.setCell ⟨gb287, 0, none⟩ (.slice Ao40 t284.length co40))) ?hg ?ho ?hn ?hr ?_; (case ho => rfl); (case hg => rfl); (case hn => rfl); (case hr => first | (go_simp; done) | (go_simp; rfl)); intro w44 hw; have n0_ : Aside0 (Kd.V (Kd.int .u8) 5 w44 w.heap.size (fun k_ => (P4_ k_ ∨ w.heap.size ≤ k_) ∧ some k_ ≠ (.slice Ao40 t284.length co40 : Value).ownBlock ∧ k_ ≠ gb274 ∧ k_ ≠ gb275 ∧ k_ ≠ gb287) (.slice A4 l4.length c4) l4) := ⟨(by rw [hw]; exact (fV HO_4 (fun _ hk => by first | exact ⟨hk.1.1.1, ⟨hk.1.2, ⟨hk.1.1.2.1, ⟨hk.1.1.2.2, hk.2⟩⟩⟩⟩ | (go_split_ands; and_intros <;> assumption))))⟩; have n1_ : Aside0 (Kd.S k28 28 w44 w.heap.size (fun k_ => (w.heap.size ≤ k_)) (.slice Ao40 t284.length co40) t284) := ⟨(by rw [hw]; exact (fS ⟨Kd.S_types HO286.out BK287.out (by decide)⟩ (fun _ hk => hk.1.1)))⟩; have n2_ : Aside0 (w44.heap[gb274]? = some (.cells #[.slice (some ad282) l0_0.length c0_0] 24 (0, 0))) := ⟨(by rw [hw]; exact (mF BK274))⟩; have n3_ : Aside0 (w44.heap[gb275]? = some (.cells #[.slice none 0 0] 24 (0, 0))) := ⟨(by rw [hw]; exact (mF BK275))⟩; have n4_ : Aside0 (w44.heap[gb287]? = some (.cells #[.slice Ao40 t284.length co40] 24 (0, 0))) := ⟨(by rw [hw]; exact (pP BK287))⟩; have n5_ : Aside0 (Below w.heap.size w w44) := ⟨(by rw [hw]; exact (mH HB))⟩; clear hw; clear HO_4; clear HO286; clear BK274; clear BK275; clear BK287; clear HB; have HO_4 := n0_; have HO286 := n1_; have BK274 := n2_; have BK275 := n3_; have BK287 := n4_; have HB := n5_; clear n0_ n1_ n2_ n3_ n4_ n5_; obtain ⟨hcz45_0, hfz45_0⟩ := cY0 BK287; have p288 : 0 ≤ (a2 : Int) := dT; have q288 : a2 < (t284.length : Int) := dT; obtain ⟨ad288, A288_3, c288_3, A288_4, c288_4, e288, hx288_0, hx288_1, hx288_2, hx288_3, hx288_4, hl288_3, hi288_3, hl288_4, hi288_4⟩ := at_T28 (Kd.S_reads' HO286.out).2.2 a2 p288 q288; cases e288; obtain ⟨ce288, hce288, hMe288, hcc288⟩ := Kd.S_get HO286.out z28 a2 p288 (by first | exact q288 | exact dT | (have e_ := (Kd.S_reads' HO286.out).1; omega)); obtain ⟨ve288_3, ve288_4, rfl, ge288_3, ge288_4⟩ := k28_openM hMe288; have hv288_3 := hcc288 3 _ rfl; rw [add_field _ _ 3 (by omega)] at hv288_3; replace hv288_3 := Option.some.inj (hv288_3.symm.trans hx288_3); rw [hv288_3] at ge288_3; have HL288_3 := Aside0.mk (show Kd.R (Kd.int .i64) 3 _ _ _ _ ((rd_T28 t284 a2).f3) from ge288_3); clear hv288_3 ge288_3; have hv288_4 := hcc288 4 _ rfl; rw [add_field _ _ 4 (by omega)] at hv288_4; replace hv288_4 := Option.some.inj (hv288_4.symm.trans hx288_4); rw [hv288_4] at ge288_4; have HL288_4 := Aside0.mk (show Kd.R k78 78 _ _ _ _ ((rd_T28 t284 a2).f4) from ge288_4); clear hv288_4 ge288_4; clear hcc288 hce288; have HR288_3 := Aside0.mk hi288_3; have HC288_3 := Aside0.mk hl288_3; clear hi288_3 hl288_3; have HR288_4 := Aside0.mk hi288_4; have HC288_4 := Aside0.mk hl288_4; clear hi288_4 hl288_4; replace p288 := eq_true p288; replace q288 := eq_true q288; have p289 : 0 ≤ (a2 : Int) := dT; have q289 : a2 < (t284.length : Int) := dT; obtain ⟨ad289, A289_3, c289_3, A289_4, c289_4, e289, hx289_0, hx289_1, hx289_2, hx289_3, hx289_4, hl289_3, hi289_3, hl289_4, hi289_4⟩ := at_T28 (Kd.S_reads' HO286.out).2.2 a2 p289 q289; obtain rfl : ad288 = ad289 := (by injection e289); obtain ⟨ce289, hce289, hMe289, hcc289⟩ := Kd.S_get HO286.out z28 a2 p289 (by first | exact q289 | exact dT | (have e_ := (Kd.S_reads' HO286.out).1; omega)); obtain ⟨ve289_3, ve289_4, rfl, ge289_3, ge289_4⟩ := k28_openM hMe289; have hv289_3 := hcc289 3 _ rfl; rw [add_field _ _ 3 (by omega)] at hv289_3; replace hv289_3 := Option.some.inj (hv289_3.symm.trans hx289_3); rw [hv289_3] at ge289_3; have HL289_3 := Aside0.mk (show Kd.R (Kd.int .i64) 3 _ _ _ _ ((rd_T28 t284 a2).f3) from ge289_3); clear hv289_3 ge289_3; have hv289_4 := hcc289 4 _ rfl; rw [add_field _ _ 4 (by omega)] at hv289_4; replace hv289_4 := Option.some.inj (hv289_4.symm.trans hx289_4); rw [hv289_4] at ge289_4; have HL289_4 := Aside0.mk (show Kd.R k78 78 _ _ _ _ ((rd_T28 t284 a2).f4) from ge289_4); clear hv289_4 ge289_4; clear hcc289 hce289; have HR289_3 := Aside0.mk hi289_3; have HC289_3 := Aside0.mk hl289_3; clear hi289_3 hl289_3; have HR289_4 := Aside0.mk hi289_4; have HC289_4 := Aside0.mk hl289_4; clear hi289_4 hl289_4; replace p289 := eq_true p289; replace q289 := eq_true q289; have ea_ := Option.some.inj (hx288_3.symm.trans hx289_3); injection ea_ with ea_ en_ ec_; subst ea_; subst ec_; clear en_; have ea_ := Option.some.inj (hx288_4.symm.trans hx289_4); injection ea_ with ea_ en_ ec_; subst ea_; subst ec_; clear en_; have p31 : 0 ≤ (a2 : Int) := dT; have q31 : (a2 : Int) < ((t284.length : Int) : Int) := dT; obtain ⟨go31, co31, eo31, gb31, gl31, cl31, HG31⟩ := Kd.S_form HO286.out (by omega); (first | cases eo31 | (injection eo31 with ea_ en_ ec_; (first | subst ea_ | (injection ea_ with ea_; subst ea_)); subst ec_; clear en_)); have GB31 := Aside0.mk gb31; have GG31 := Aside0.mk HG31; clear gb31 gl31 HG31; (first | simp only [add_plain] at hx288_0 | skip); (first | simp only [add_plain] at hx288_1 | skip); (first | simp only [add_plain] at hx288_2 | skip); (first | simp only [add_plain] at hx288_3 | skip); (first | simp only [add_plain] at hx288_4 | skip); (first | simp only [add_plain] at hx289_0 | skip); (first | simp only [add_plain] at hx289_1 | skip); (first | simp only [add_plain] at hx289_2 | skip); (first | simp only [add_plain] at hx289_3 | skip); (first | simp only [add_plain] at hx289_4 | skip); obtain ⟨_, ce31, hcl31, hM31, hcc31, hfr31, _, _⟩ := Kd.S_elem HO286.out z28 (a2 : Int) p31 q31; obtain ⟨ve31_3, ve31_4, rfl, ge31_3, ge31_4⟩ := k28_openM hM31; have hx31_0 : w44.cell? ⟨go31, (a2 : Int).toNat * 5, none⟩ = some (.int .i64 ((rd_T28 t284 a2).f0)) := hcc31 0 _ rfl; have hx31_1 : w44.cell? ⟨go31, (a2 : Int).toNat * 5 + 1, none⟩ = some (.int .i64 ((rd_T28 t284 a2).f1)) := hcc31 1 _ rfl; have hx31_2 : w44.cell? ⟨go31, (a2 : Int).toNat * 5 + 2, none⟩ = some (.int .i64 ((rd_T28 t284 a2).f2)) := hcc31 2 _ rfl; have hx31_3 : w44.cell? ⟨go31, (a2 : Int).toNat * 5 + 3, none⟩ = some (ve31_3) := hcc31 3 _ rfl; have hx31_4 : w44.cell? ⟨go31, (a2 : Int).toNat * 5 + 4, none⟩ = some (ve31_4) := hcc31 4 _ rfl; have hf31_0 : w44.frozen? ⟨go31, (a2 : Int).toNat * 5, none⟩ = false := hfr31 0; have hf31_1 : w44.frozen? ⟨go31, (a2 : Int).toNat * 5 + 1, none⟩ = false := hfr31 1; have hf31_2 : w44.frozen? ⟨go31, (a2 : Int).toNat * 5 + 2, none⟩ = false := hfr31 2; have hf31_3 : w44.frozen? ⟨go31, (a2 : Int).toNat * 5 + 3, none⟩ = false := hfr31 3; have hf31_4 : w44.frozen? ⟨go31, (a2 : Int).toNat * 5 + 4, none⟩ = false := hfr31 4; clear hcl31 hcc31 hfr31 hM31; replace p31 := eq_true p31; replace q31 := eq_true q31; have HX46 := Aside0.mk (show Kd.S k28 28 w44 w.heap.size (fun k_ => ((fun k_ => (w.heap.size ≤ k_))) k_ ∧ ¬ ((fun _ => False)) k_) (.slice (some ⟨go31, 0, none⟩) t284.length co40) t284 from (by (with_reducible repeat (first | apply Kd.S_alloc | apply Kd.S_drewN | apply Kd.S_drew)); exact Kd.S_mono HO286.out (fun k_ hk => ⟨hk, fun e_ => e_⟩))); obtain ⟨oki46, ce46, hcl46, hM46, hcc46, hfr46, hoki46, hH46⟩ := Kd.S_elem HX46.out z28 (a2 : Int) (dT) (by have h_ : (a2 : Int) < ((t284.length : Int) : Int) := dT; first | exact h_ | (have e_ := (Kd.S_reads' HO286.out).1; omega) | simpa using h_); obtain ⟨ve46_3, ve46_4, rfl, ge46_3, ge46_4⟩ := k28_openM hM46; have HP46 := Kd.S_seg hH46 (dT) (by have h_ : (a2 : Int) < ((t284.length : Int) : Int) := dT; first | exact h_ | (have e_ := (Kd.S_reads' HO286.out).1; omega) | simpa using h_) (seg := [.int .i64 ji30]) (j := 2) (show 3 ≤ 5 from by decide) (x' := (⟨(rd_T28 t284 a2).f0, (rd_T28 t284 a2).f1, ji30, (rd_T28 t284 a2).f3, (rd_T28 t284 a2).f4⟩ : S28)) (k28_mkM _ _ _ (⟨(rd_T28 t284 a2).f0, (rd_T28 t284 a2).f1, ji30, (rd_T28 t284 a2).f3, (rd_T28 t284 a2).f4⟩ : S28) (Kd.R_mono ge46_3 (fun _ h_ => Or.inl h_)) (Kd.R_mono ge46_4 (fun _ h_ => Or.inl h_))) (fun _ hk => hk) (fun k_ hk_ => hk_.elim); have hx46_2 := hcc46 2 _ rfl; (try simp only [show (k28).sz = 5 from rfl, Nat.mul_one, Nat.add_zero] at hx46_2); have hf46_2 := hfr46 2; (try simp only [show (k28).sz = 5 from rfl, Nat.mul_one, Nat.add_zero] at hf46_2); clear hcl46 hcc46 hfr46 hM46 hoki46 hH46) | ((with_reducible refine gate_store (t := 3) (p := 74) rfl ?_); refine store_event (t := 3) (p := 74) (v := ?vo_w47) (w1 := (w44.setCell ⟨go31, (a2 : Int).toNat * 5 + 2, none⟩ (.int .i64 ji30))) ?hg ?ho ?hn ?hr ?_; (case ho => rfl); (case hg => rfl); (case hn => rfl); (case hr => first | (go_simp; done) | (go_simp; rfl)); intro w47 hw; have hg : w44.grownBy w47 (some go31) := (by rw [hw]; exact HP46.2); have hp_ : Kd.S k28 28 w47 w.heap.size (fun k_ => (w.heap.size ≤ k_)) (.slice (some ⟨go31, 0, none⟩) t284.length co40) y290 := (by rw [hw, Ny290.out]; exact HP46.1); clear HP46; replace HO_4 := Aside0.mk (Kd.V_afterv (v := (.slice (some ⟨go31, 0, none⟩) t284.length co40)) (v1 := (.slice (some ⟨go31, 0, none⟩) t284.length co40)) (ok := (fun k_ => (P4_ k_ ∨ w.heap.size ≤ k_) ∧ k_ ≠ gb274 ∧ k_ ≠ gb275 ∧ k_ ≠ gb287)) (by (with_reducible repeat (first | apply Kd.V_alloc | apply Kd.V_drewN | apply Kd.V_drew)); exact Kd.V_mono HO_4.out (fun _ hk => by first | exact ⟨⟨hk.1, ⟨hk.2.2.1, ⟨hk.2.2.2.1, hk.2.2.2.2⟩⟩⟩, hk.2.1⟩ | (go_split_ands; and_intros <;> assumption))) hg (.inl rfl)); replace BK274 := Aside0.mk (blk_grown (g := gb274) (o := .cells #[.slice (some ad282) l0_0.length c0_0] 24 (0, 0)) (mB BK274) hg (Kd.S_ne HO286.out BK274.out (by decide))); replace BK275 := Aside0.mk (blk_grown (g := gb275) (o := .cells #[.slice none 0 0] 24 (0, 0)) (mB BK275) hg (Kd.S_ne HO286.out BK275.out (by decide))); replace BK287 := Aside0.mk (blk_grown (g := gb287) (o := .cells #[.slice (some ⟨go31, 0, none⟩) t284.length co40] 24 (0, 0)) (mB BK287) hg (Kd.S_ne HO286.out BK287.out (by decide))); replace HO286 := Aside0.mk (hp_); replace HL288_3 := Aside0.mk (Kd.R_after (v := (.slice (some ⟨go31, 0, none⟩) t284.length co40)) (v1 := (.slice (some ⟨go31, 0, none⟩) t284.length co40)) (ok := (fun k_ => (w.heap.size ≤ k_))) (mR HL288_3) hg (.inl rfl)); replace HL288_4 := Aside0.mk (Kd.R_after (v := (.slice (some ⟨go31, 0, none⟩) t284.length co40)) (v1 := (.slice (some ⟨go31, 0, none⟩) t284.length co40)) (ok := (fun k_ => (w.heap.size ≤ k_))) (mR HL288_4) hg (.inl rfl)); replace HL289_3 := Aside0.mk (Kd.R_after (v := (.slice (some ⟨go31, 0, none⟩) t284.length co40)) (v1 := (.slice (some ⟨go31, 0, none⟩) t284.length co40)) (ok := (fun k_ => (w.heap.size ≤ k_))) (mR HL289_3) hg (.inl rfl)); replace HL289_4 := Aside0.mk (Kd.R_after (v := (.slice (some ⟨go31, 0, none⟩) t284.length co40)) (v1 := (.slice (some ⟨go31, 0, none⟩) t284.length co40)) (ok := (fun k_ => (w.heap.size ≤ k_))) (mR HL289_4) hg (.inl rfl)); replace HB := Aside0.mk ((by rw [hw]; exact wS (HB.out) GB31.out : Below w.heap.size w w47)); clear hg hw hp_) | ((with_reducible refine gate_callee (f := 49) rfl ?_); refine goesK (some 78) Try.func49 #[.int .i64 a3, .int .i64 (l4.length : Int)] ?_; (with_reducible refine (span_Pieces.calls kj5 a3 (l4.length : Int) t291 _ A32.out).mono ?_); rintro e w48 ⟨v292, rfl, ho0, hb⟩; refine ⟨_, rfl, ?_⟩; replace HO_4 := Aside0.mk (Kd.V_elder' (mV HO_4) (Kd.R_base ho0) hb); replace HO286 := kS HO286 hb; replace HL288_3 := kR HL288_3 hb; replace HL288_4 := kR HL288_4 hb; replace HL289_3 := kR HL289_3 hb; replace HL289_4 := kR HL289_4 hb; have HO293 := Aside0.mk (Kd.R_lower (Kd.R_newM (M := fun k_ => (w.heap.size ≤ k_)) ho0 (below_size (mH HB)) (fun k_ h_ => h_)) (below_size (mH HB))); replace BK274 := kB BK274 hb; replace BK275 := kB BK275 hb; replace BK287 := kB BK287 hb; replace HB := kH HB hb; (try clear hb); (try clear hk); (try clear ho0); obtain ⟨Ao49, co49, eo49⟩ := Kd.R_slice HO293.out; subst eo49))
      go_loopg [4, 15, 80] kj5 (fun kq v4 v15 v80 w' => ∃ (x4_2 : List Int) (x15_2 : List (S60)) (x80_2 : Int), v80 = .int .i64 x80_2 ∧ Aside0 (file_Write.l0 kq a2 x4_2 x15_2 t291 (t291.length : Int) x80_2 y290 = some (r1, r2, r3)) ∧ Aside0 (kq ≤ kj5) ∧ Aside0 (Kd.V (Kd.int .u8) 5 w' w.heap.size (fun k_ => (P4_ k_ ∨ w.heap.size ≤ k_) ∧ some k_ ≠ (v15 : Value).ownBlock ∧ some k_ ≠ ((.slice Ao49 t291.length co49) : Value).ownBlock ∧ some k_ ≠ ((.slice (some ⟨go31, 0, none⟩) t284.length co40) : Value).ownBlock ∧ k_ ≠ gb274 ∧ k_ ≠ gb275 ∧ k_ ≠ gb287) v4 x4_2) ∧ Aside0 (Kd.S k60 60 w' w.heap.size (fun k_ => (w.heap.size ≤ k_)) v15 x15_2) ∧ Aside0 (Kd.R k41 41 w' w.heap.size (fun k_ => (w.heap.size ≤ k_)) (.slice Ao49 t291.length co49) t291) ∧ Aside0 (Kd.S k28 28 w' w.heap.size (fun k_ => (w.heap.size ≤ k_)) (.slice (some ⟨go31, 0, none⟩) t284.length co40) y290) ∧ Aside0 (w'.heap[gb274]? = some (.cells #[(.slice (some ad282) l0_0.length c0_0)] 24 (0, 0))) ∧ Aside0 (w'.heap[gb275]? = some (.cells #[(.slice none 0 0)] 24 (0, 0))) ∧ Aside0 (w'.heap[gb287]? = some (.cells #[(.slice (some ⟨go31, 0, none⟩) t284.length co40)] 24 (0, 0))) ∧ Aside0 (Below w.heap.size w w'))
      case atStart => exact ⟨(l4), (([] : List (S60))), (0), sI, H', ⟨Nat.le_refl _⟩, ⟨by (with_reducible repeat (first | apply Kd.V_alloc | apply Kd.V_drewN | apply Kd.V_drew)); exact Kd.V_mono HO_4.out (fun _ hk => ⟨hk.1.1.1, ⟨(by simp [Value.ownBlock]), ⟨hk.2, ⟨hk.1.2, ⟨hk.1.1.2.1, ⟨hk.1.1.2.2.1, hk.1.1.2.2.2⟩⟩⟩⟩⟩⟩)⟩, ⟨by first | exact Kd.S_nil _ _ _ _ _ | exact Kd.N_nil _ _ _ _ _ | exact Kd.V_nil _ _ _ _ _ | exact Kd.Q_nil _ _ _ _ _ | exact Kd.R_nil _ _ _ _ _⟩, ⟨by (with_reducible repeat (first | apply Kd.R_alloc | apply Kd.R_drewN | apply Kd.R_drew)); exact Kd.R_mono HO293.out (fun _ hk => hk.1)⟩, ⟨mS HO286⟩, ⟨mB BK274⟩, ⟨mB BK275⟩, ⟨mB BK287⟩, ⟨mH HB⟩⟩
      case round =>
       clear H'
       (try clear c4); (try clear c14); (try clear c15); (try clear c15b0); (try clear c15b1); (try clear c15b2); (try clear c17); (try clear c19); (try clear c19b0); (try clear c20); (try clear c20b0); (try clear c22); (try clear c22b0); (try clear c29); (try clear c29b0); (try clear p31); (try clear q31); (try clear hcz37_0); (try clear hcz43_0); (try clear hcz45_0); (try clear hfz37_0); (try clear hfz43_0); (try clear hfz45_0); (try clear hx282_0); (try clear hx282_1); (try clear hx282_2); (try clear hx282_3); (try clear hx282_4); (try clear hx288_0); (try clear hx288_1); (try clear hx288_2); (try clear hx288_3); (try clear hx288_4); (try clear hx289_0); (try clear hx289_1); (try clear hx289_2); (try clear hx289_3); (try clear hx289_4); (try clear hx31_0); (try clear hx31_1); (try clear hx31_2); (try clear hx31_3); (try clear hx31_4); (try clear hx46_2); (try clear p282); (try clear p288); (try clear p289); (try clear p31); (try clear q282); (try clear q288); (try clear q289); (try clear q31)
       obtain ⟨x4_2, x15_2, x80_2, rfl, HA, HK2, HO_4, HO_15, HO_78, HO_288000, BK274, BK275, BK287, HB⟩ := hrel; have hl288000_2 := (Kd.S_reads' HO_288000.out).1; rw [hl288000_2] at HO_288000
       (try simp only [hl288000_2])
       (try simp only [hl288000_2] at BK274)
       (try simp only [hl288000_2] at BK275)
       (try simp only [hl288000_2] at BK287)
       (try simp only [hl288000_2] at HO_4)
       (try simp only [hl288000_2] at HO_15)
       (try simp only [hl288000_2] at HO_78)
       cases gk with
       | zero => exact absurd HA.out (by simp [file_Write.l0])
       | succ k2 =>
        have H := HA.out; clear HA; simp only [file_Write.l0] at H
        by_cases c50 : x80_2 < (t291.length : Int)
        ·
         rw [if_pos c50] at H; have c50b0 := decide_eq_true c50; clear c50
         replace H := nP H; obtain ⟨c51, H⟩ := H; have c51b0 := decide_eq_true c51; clear c51
         replace H := nP H; obtain ⟨c52, H⟩ := H; have c52b0 := decide_eq_true c52; clear c52
         replace H := nP H; obtain ⟨c53, H⟩ := H; have c53b0 := decide_eq_true c53; clear c53
         replace H := nP H; obtain ⟨c54, H⟩ := H; have c54b0 := decide_eq_true c54; clear c54
         replace H := nP H; obtain ⟨c55, H⟩ := H; have c55b0 := decide_eq_true c55; clear c55
         replace H := nP H; obtain ⟨c56, H⟩ := H; have c56b0 := decide_eq_true c56; clear c56
         replace H := nP H; obtain ⟨c57, H⟩ := H; have c57b0 := eq_true c57; have c57b1 := decide_eq_true c57; clear c57
         replace H := nP H; obtain ⟨c58, H⟩ := H; have c58b0 := eq_true c58; have c58b1 := decide_eq_true c58; clear c58; obtain ⟨y298, hy298⟩ : ∃ y_ : List Int, y_ = (x4_2.take (((rd_T41 t291 x80_2).f2) : Int).toNat) := ⟨_, rfl⟩
         replace H : ((slices_Clone_byte_byte.f y298).bind fun t303 => (if x15_2.length < 2199023255552 then (file_Write.l0 k2 a2 (x4_2.drop (((rd_T41 t291 x80_2).f2) : Int).toNat) (x15_2 ++ [(⟨a2, (rd_T41 t291 x80_2).f0, rd ((rd_T28 y290 a2).f3) ((rd_T41 t291 x80_2).f0), 16, (rd_T41 t291 x80_2).f1, t303⟩ : S60)]) t291 (t291.length : Int) (wrap64 (x80_2 + 1)) y290) else (none))) = some (r1, r2, r3) := rH H hy298
         have Ny298 := Aside0.mk hy298; clear hy298; replace H := Option.bind_eq_some_iff.mp H; obtain ⟨t303, A590, H⟩ := H; have A59 := Aside0.mk A590; clear A590
         replace H := nP H; obtain ⟨c60, H⟩ := H; have LMc60 := Aside0.mk c60; clear c60; obtain ⟨y306, hy306⟩ : ∃ y_ : List (S60), y_ = (x15_2 ++ [(⟨a2, (rd_T41 t291 x80_2).f0, rd ((rd_T28 y290 a2).f3) ((rd_T41 t291 x80_2).f0), 16, (rd_T41 t291 x80_2).f1, t303⟩ : S60)]) := ⟨_, rfl⟩
         replace H : (file_Write.l0 k2 a2 (x4_2.drop (((rd_T41 t291 x80_2).f2) : Int).toNat) y306 t291 (t291.length : Int) (wrap64 (x80_2 + 1)) y290) = some (r1, r2, r3) := rH H hy306
         have Ny306 := Aside0.mk hy306; clear hy306; have c61b0 := eq_true (dT : 0 ≤ ((rd_T41 t291 x80_2).f2)); have c62b0 := eq_true (dT : ((rd_T41 t291 x80_2).f2) ≤ (x4_2.length : Int)); obtain ⟨y309, hy309⟩ : ∃ y_ : List Int, y_ = (x4_2.drop (((rd_T41 t291 x80_2).f2) : Int).toNat) := ⟨_, rfl⟩
         replace H : (file_Write.l0 k2 a2 y309 y306 t291 (t291.length : Int) (wrap64 (x80_2 + 1)) y290) = some (r1, r2, r3) := rH H hy309
         have Ny309 := Aside0.mk hy309; clear hy309; have H' := Aside0.mk H; clear H; have p294 : 0 ≤ (x80_2 : Int) := dT; have q294 : x80_2 < (t291.length : Int) := dT; obtain ⟨ad294, e294, hx294_0, hx294_1, hx294_2⟩ := at_T41 (Kd.R_reads' HO_78.out).2.2 x80_2 p294 q294
         cases e294
         replace p294 := eq_true p294; replace q294 := eq_true q294
         try go_wp2_with (first | ((with_reducible refine gate_dst (N := 17) rfl ?_); refine bxE 41 (cs := #[.int .i64 0, .int .i64 0, .int .i64 0]) ?_; intro gb295 hg w63 hbox hb; replace HO_4 := Aside0.mk (Kd.V_below (Kd.V_elderB (mV HO_4) gb295 (Nat.le_of_eq hg.symm)) hb); replace HO_15 := kS HO_15 hb; replace HO_78 := Aside0.mk (Kd.R_below (Kd.R_elderB (mR HO_78) gb295 (Nat.le_of_eq hg.symm)) hb); replace HO_288000 := kS HO_288000 hb; have BK295 := Aside0.mk hbox; have GW295 := kG HB hg; have GE295 := kG HB hg; replace HB := kH HB hb; have NB274_295 := kL BK274 hg; have NB295_274 := kQ BK274 hg; replace BK274 := kB BK274 hb; have NB275_295 := kL BK275 hg; have NB295_275 := kQ BK275 hg; replace BK275 := kB BK275 hb; have NB287_295 := kL BK287 hg; have NB295_287 := kQ BK287 hg; replace BK287 := kB BK287 hb; clear hb hbox hg; have hnb64 := NB295_274.out; have hnc64 := NB274_295.out; have hnb65 := NB295_275.out; have hnc65 := NB275_295.out; have hnb66 := NB295_287.out; have hnc66 := NB287_295.out; obtain ⟨hcz67_0, hfz67_0⟩ := cY0 BK295; obtain ⟨hcz67_1, hfz67_1⟩ := cY1 BK295; obtain ⟨hcz67_2, hfz67_2⟩ := cY2 BK295))
         obtain ⟨w68, hw_, n_⟩ : ∃ W_, ((w63.setCell ⟨gb295, 0, none⟩ (.int .i64 ((rd_T41 t291 x80_2).f0))).setCell ⟨gb295, 1, none⟩ (.int .i64 ((rd_T41 t291 x80_2).f1))).setCell ⟨gb295, 2, none⟩ (.int .i64 ((rd_T41 t291 x80_2).f2)) = W_ ∧ Aside0 (Kd.V (Kd.int .u8) 5 W_ w.heap.size (fun k_ => (P4_ k_ ∨ w.heap.size ≤ k_) ∧ some k_ ≠ (u15 : Value).ownBlock ∧ some k_ ≠ (.slice (some ad294) t291.length co49 : Value).ownBlock ∧ some k_ ≠ (.slice (some ⟨go31, 0, none⟩) y290.length co40 : Value).ownBlock ∧ k_ ≠ gb274 ∧ k_ ≠ gb275 ∧ k_ ≠ gb287 ∧ k_ ≠ gb295) u4 x4_2) ∧ Aside0 (Kd.S k60 60 W_ w.heap.size (fun k_ => (w.heap.size ≤ k_)) u15 x15_2) ∧ Aside0 (Kd.R k41 41 W_ w.heap.size (fun k_ => (w.heap.size ≤ k_) ∧ k_ ≠ gb295) (.slice (some ad294) t291.length co49) t291) ∧ Aside0 (Kd.S k28 28 W_ w.heap.size (fun k_ => (w.heap.size ≤ k_)) (.slice (some ⟨go31, 0, none⟩) y290.length co40) y290) ∧ Aside0 (W_.heap[gb274]? = some (.cells #[.slice (some ad282) l0_0.length c0_0] 24 (0, 0))) ∧ Aside0 (W_.heap[gb275]? = some (.cells #[.slice none 0 0] 24 (0, 0))) ∧ Aside0 (W_.heap[gb287]? = some (.cells #[.slice (some ⟨go31, 0, none⟩) y290.length co40] 24 (0, 0))) ∧ Aside0 (W_.heap[gb295]? = some (.cells #[.int .i64 ((rd_T41 t291 x80_2).f0), .int .i64 ((rd_T41 t291 x80_2).f1), .int .i64 ((rd_T41 t291 x80_2).f2)] 41 (0, 0))) ∧ Aside0 (Below w.heap.size w W_) := ⟨_, rfl, ⟨fV HO_4 (fun _ hk => by first | exact ⟨hk.1.1, ⟨hk.1.2.1, ⟨hk.1.2.2.1, ⟨hk.1.2.2.2.1, ⟨hk.1.2.2.2.2.1, ⟨hk.1.2.2.2.2.2.1, ⟨hk.1.2.2.2.2.2.2, hk.2⟩⟩⟩⟩⟩⟩⟩ | (go_split_ands; and_intros <;> assumption))⟩, ⟨fS ⟨Kd.S_types HO_15.out BK295.out (by decide)⟩⟩, ⟨fR HO_78 (fun _ hk => by first | exact ⟨hk.1, hk.2⟩ | (go_split_ands; and_intros <;> assumption))⟩, ⟨fS ⟨Kd.S_types HO_288000.out BK295.out (by decide)⟩⟩, ⟨mF BK274⟩, ⟨mF BK275⟩, ⟨mF BK287⟩, ⟨pP BK295⟩, ⟨mH HB⟩⟩
         (try clear HO_4); (try clear HO_15); (try clear HO_78); (try clear HO_288000); (try clear BK274); (try clear BK275); (try clear BK287); (try clear BK295); (try clear HB); rewrite [hw_]; clear hw_; obtain ⟨HO_4, HO_15, HO_78, HO_288000, BK274, BK275, BK287, BK295, HB⟩ := n_; replace HO_4 := Aside0.mk (Kd.V_drew HO_4.out); replace HO_15 := Aside0.mk (Kd.S_drew HO_15.out); replace HO_78 := Aside0.mk (Kd.R_drew HO_78.out); replace HO_288000 := Aside0.mk (Kd.S_drew HO_288000.out); replace BK274 := Aside0.mk (bD BK274.out); replace BK275 := Aside0.mk (bD BK275.out); replace BK287 := Aside0.mk (bD BK287.out); replace BK295 := Aside0.mk (bD BK295.out); replace HB := Aside0.mk (wD HB.out); have p296 : 0 ≤ (a2 : Int) := dT; have q296 : a2 < (y290.length : Int) := dT; obtain ⟨ad296, A296_3, c296_3, A296_4, c296_4, e296, hx296_0, hx296_1, hx296_2, hx296_3, hx296_4, hl296_3, hi296_3, hl296_4, hi296_4⟩ := at_T28 (Kd.S_reads' HO_288000.out).2.2 a2 p296 q296; obtain rfl : (⟨go31, 0, none⟩ : Addr) = ad296 := (by injection e296); obtain ⟨ce296, hce296, hMe296, hcc296⟩ := Kd.S_get HO_288000.out z28 a2 p296 (by first | exact q296 | exact dT | (have e_ := (Kd.S_reads' HO_288000.out).1; omega))
         obtain ⟨ve296_3, ve296_4, rfl, ge296_3, ge296_4⟩ := k28_openM hMe296; have hv296_3 := hcc296 3 _ rfl; rw [add_field _ _ 3 (by omega)] at hv296_3; replace hv296_3 := Option.some.inj (hv296_3.symm.trans hx296_3); rw [hv296_3] at ge296_3; have HL296_3 := Aside0.mk (show Kd.R (Kd.int .i64) 3 _ _ _ _ ((rd_T28 y290 a2).f3) from ge296_3); clear hv296_3 ge296_3; have hv296_4 := hcc296 4 _ rfl; rw [add_field _ _ 4 (by omega)] at hv296_4; replace hv296_4 := Option.some.inj (hv296_4.symm.trans hx296_4); rw [hv296_4] at ge296_4; have HL296_4 := Aside0.mk (show Kd.R k78 78 _ _ _ _ ((rd_T28 y290 a2).f4) from ge296_4); clear hv296_4 ge296_4; clear hcc296 hce296
         (first | simp only [add_plain] at hx296_0 | simp only [add_at] at hx296_0 | simp only [Addr.add, Nat.zero_add] at hx296_0 | skip)
         (first | simp only [add_plain] at hx296_1 | simp only [add_at] at hx296_1 | simp only [Addr.add, Nat.zero_add] at hx296_1 | skip)
         (first | simp only [add_plain] at hx296_2 | simp only [add_at] at hx296_2 | simp only [Addr.add, Nat.zero_add] at hx296_2 | skip)
         (first | simp only [add_plain] at hx296_3 | simp only [add_at] at hx296_3 | simp only [Addr.add, Nat.zero_add] at hx296_3 | skip)
         (first | simp only [add_plain] at hx296_4 | simp only [add_at] at hx296_4 | simp only [Addr.add, Nat.zero_add] at hx296_4 | skip)
         have HR296_3 := Aside0.mk hi296_3; have HC296_3 := Aside0.mk hl296_3; clear hi296_3 hl296_3; have HR296_4 := Aside0.mk hi296_4; have HC296_4 := Aside0.mk hl296_4; clear hi296_4 hl296_4; replace p296 := eq_true p296; replace q296 := eq_true q296; have p297 : 0 ≤ (((rd_T41 t291 x80_2).f0) : Int) := dT; have q297 : ((rd_T41 t291 x80_2).f0) < (((rd_T28 y290 a2).f3).length : Int) := dT; obtain ⟨ad297, e297, hx297_0⟩ := Kd.at_int (by repeat (first | (with_reducible exact HR296_3.out) | (with_reducible refine Kd.C_alloc ?_ _) | (with_reducible refine Kd.C_drewN ?_ _) | (with_reducible refine Kd.C_drew ?_) | exact HR296_3.out)) ((rd_T41 t291 x80_2).f0) p297 q297
         cases e297
         replace p297 := eq_true p297; replace q297 := eq_true q297; obtain ⟨Ao71, co71, eo71⟩ := Kd.V_slice HO_4.out
         (first | subst eo71 | (injection eo71 with f1_ f2_ f3_; have f4_ := f1_.symm; have f5_ := f3_.symm; clear f1_ f2_ f3_; subst f4_; subst f5_))
         have q70 : (((rd_T41 t291 x80_2).f2) : Int) ≤ ((x4_2.length : Int) : Int) := dT; obtain ⟨i070, hi070, _, hsz70, _⟩ := info_parts info5; have hroom70 : x4_2.length ≤ co71 := (Kd.V_reads' HO_4.out).2.1; have hC70 : Kd.F (Kd.int .u8) _ _ Ao71 x4_2.length x4_2 := (Kd.V_at (base := w.heap.size) HO_4.out).2.2; have hcut70 := cut_to (P := Try.prog) 50 5 .i64 Try.underlying50 hi070 Ao71 x4_2.length co71 ((rd_T41 t291 x80_2).f2) (dT) q70 hroom70; have hr70 := Kd.F_take (m := (((rd_T41 t291 x80_2).f2) : Int).toNat) hC70 (by omega); have hy70 : y298.length = (((rd_T41 t291 x80_2).f2) : Int).toNat := (by rw [Ny298.out, List.length_take]; omega)
         rw [← Ny298.out] at hr70; rw [← hy70] at hcut70; have HO302 := Aside0.mk (show Kd.V (Kd.int .u8) 5 _ w.heap.size _ (.slice Ao71 y298.length co71) y298 from Kd.V_mk (by omega) hr70); have HC302 := Aside0.mk (show y298.length ≤ co71 from by omega); clear hr70 hC70 hroom70 hi070 hsz70; have KY70 := Aside0.mk hy70; clear hy70; replace q70 := eq_true q70; refine start_ (n := 23) (S := fun w' => w'.cell? ⟨gb295, 0, none⟩ = some (.int .i64 ((rd_T41 t291 x80_2).f0)) ∧ w'.cell? ⟨gb295, 1, none⟩ = some (.int .i64 ((rd_T41 t291 x80_2).f1)) ∧ w'.cell? ⟨gb295, 2, none⟩ = some (.int .i64 ((rd_T41 t291 x80_2).f2)) ∧ w'.cell? ⟨go31, (a2).toNat * 5, none⟩ = some (.int .i64 ((rd_T28 y290 a2).f0)) ∧ w'.cell? ⟨go31, (a2).toNat * 5 + 1, none⟩ = some (.int .i64 ((rd_T28 y290 a2).f1)) ∧ w'.cell? ⟨go31, (a2).toNat * 5 + 2, none⟩ = some (.int .i64 ((rd_T28 y290 a2).f2)) ∧ w'.cell? ⟨go31, (a2).toNat * 5 + 3, none⟩ = some (.slice (some ad297) ((rd_T28 y290 a2).f3).length c296_3) ∧ w'.cell? ⟨go31, (a2).toNat * 5 + 4, none⟩ = some (.slice A296_4 ((rd_T28 y290 a2).f4).length c296_4) ∧ w'.cell? (ad297.add (((rd_T41 t291 x80_2).f0)).toNat) = some (.int .i64 (rd ((rd_T28 y290 a2).f3) ((rd_T41 t291 x80_2).f0)))) (ds := [20, 21]) B25_16 (by kernel_rfl) rfl rfl ⟨(bC BK295.out 0).trans rfl, (bC BK295.out 1).trans rfl, (bC BK295.out 2).trans rfl, hx296_0, hx296_1, hx296_2, hx296_3, hx296_4, hx297_0⟩ (fun hHeld => ?_); refine with_tabW file_Write.tab16 file_Write.bits16 (fun HT_ HW_ => ?_); generalize w68.drew = w69 at HO_4 HO_15 HO_78 HO_288000 BK274 BK275 BK287 BK295 HB HL296_3 HL296_4 HO302 HR296_3 HR296_4 hx296_0 hx296_1 hx296_2 hx296_3 hx296_4 hx297_0 hHeld ⊢; refine pure_ (i := 0) (N := some 84) (v := ?_) (a' := ?_) B25_17 rfl rfl (any_of HT_.out (by kernel_rfl)) (fun _ _ _ h => h) (Or.inl ⟨by rfl, ?_⟩) ?_ ?_; rotate_left
         ·
          intro w'; go_simp; with_reducible rfl
         rotate_left
         ·
          simp only [Act.put, lT, l0_, lS, i64_w, i32_w]; rfl
         refine pureE 1 (some 85) B25_18 (any_of HT_.out (by kernel_rfl)) ?_
         refine pureE 2 (some 86) B25_19 (any_of HT_.out (by kernel_rfl)) ?_
         refine pureE 4 (some 88) B25_20 (any_of HT_.out (by kernel_rfl)) ?_
         refine pureE 5 (some 89) B25_21 (any_of HT_.out (by kernel_rfl)) ?_
         refine pureE 6 (some 90) B25_22 (any_of HT_.out (by kernel_rfl)) ?_
         refine pureE 8 (some 92) B25_23 (any_of HT_.out (by kernel_rfl)) ?_
         refine pureE 12 (some 96) B25_24 (any_of HT_.out (by kernel_rfl)) ?_
         refine pureE 14 (some 98) B25_25 (any_of HT_.out (by kernel_rfl)) ?_
         refine pureE 15 (some 99) B25_26 (any_of HT_.out (by kernel_rfl)) ?_
         refine take_ (i := 3) (N := some 87) (v := ?_) (a' := ?_) B25_27 rfl rfl (take_ofW HT_.out HW_.out (by kernel_rfl)) (fun _ _ _ h => h) (Or.inl ⟨by rfl, ?_⟩) hHeld ?_ ?_; rotate_left
         ·
          rintro w' ⟨s0, s1, s2, s3, s4, s5, s6, s7, s8⟩; go_simp; with_reducible rfl
         rotate_left
         ·
          simp only [Act.put, lT, l0_, lS, i64_w, i32_w]; rfl
         refine take_ (i := 7) (N := some 91) (v := ?_) (a' := ?_) B25_28 rfl rfl (take_ofW HT_.out HW_.out (by kernel_rfl)) (fun _ _ _ h => h) (Or.inl ⟨by rfl, ?_⟩) hHeld ?_ ?_; rotate_left
         ·
          rintro w' ⟨s0, s1, s2, s3, s4, s5, s6, s7, s8⟩; go_simp; with_reducible rfl
         rotate_left
         ·
          simp only [Act.put, lT, l0_, lS, i64_w, i32_w]; rfl
         refine take_ (i := 9) (N := some 93) (v := ?_) (a' := ?_) B25_29 rfl rfl (take_ofW HT_.out HW_.out (by kernel_rfl)) (fun _ _ _ h => h) (Or.inl ⟨by rfl, ?_⟩) hHeld ?_ ?_; rotate_left
         ·
          rintro w' ⟨s0, s1, s2, s3, s4, s5, s6, s7, s8⟩; go_simp; with_reducible rfl
         rotate_left
         ·
          simp only [Act.put, lT, l0_, lS, i64_w, i32_w]; rfl
         refine pureE 10 (some 94) B25_30 (any_of HT_.out (by kernel_rfl)) ?_
         refine take_ (i := 11) (N := some 95) (v := ?_) (a' := ?_) B25_31 rfl rfl (take_ofW HT_.out HW_.out (by kernel_rfl)) (fun _ _ _ h => h) (Or.inl ⟨by rfl, ?_⟩) hHeld ?_ ?_; rotate_left
         ·
          rintro w' ⟨s0, s1, s2, s3, s4, s5, s6, s7, s8⟩; go_simp; with_reducible rfl
         rotate_left
         ·
          simp only [Act.put, lT, l0_, lS, i64_w, i32_w]; rfl
         refine take_ (i := 13) (N := some 97) (v := ?_) (a' := ?_) B25_32 rfl rfl (take_ofW HT_.out HW_.out (by kernel_rfl)) (fun _ _ _ h => h) (Or.inl ⟨by rfl, ?_⟩) hHeld ?_ ?_; rotate_left
         ·
          rintro w' ⟨s0, s1, s2, s3, s4, s5, s6, s7, s8⟩; go_simp; with_reducible rfl
         rotate_left
         ·
          simp only [Act.put, lT, l0_, lS, i64_w, i32_w]; rfl
         refine take_ (i := 16) (N := some 100) (v := ?_) (a' := ?_) B25_33 rfl rfl (take_ofW HT_.out HW_.out (by kernel_rfl)) (fun _ _ _ h => h) (Or.inl ⟨by rfl, ?_⟩) hHeld ?_ ?_; rotate_left
         ·
          rintro w' ⟨s0, s1, s2, s3, s4, s5, s6, s7, s8⟩; go_simp; with_reducible rfl
         rotate_left
         ·
          simp only [Act.put, lT, l0_, lS, i64_w, i32_w]; rfl
         refine pureE 17 (some 101) B25_34 (any_of HT_.out (by kernel_rfl)) ?_
         refine one_ (i := 18) (N := some 102) B25_35 rfl rfl (one_of HT_.out (by kernel_rfl)) (by decide) (fun K hK => ?_); refine goes_ Try.func59 (by kernel_rfl) rfl #[.slice Ao71 y298.length co71] (by rfl) rfl rfl (by (try simp only [List.map_toArray, List.map_cons, List.map_nil]); first | done | rfl | (simp only [List.length_drop, List.length_take]; rfl)) ?_
         with_reducible refine (slices_Clone_byte_byte.calls _ _ y298 t303 _ ?side1 ?side2 A59.out).mono ?_
         (case side1 => repeat (first | exact (Kd.V_reads' HO302.out).2.2 | (with_reducible refine Kd.C_alloc ?_ _) | (with_reducible refine Kd.C_drewN ?_ _) | (with_reducible refine Kd.C_drew ?_)))
         (case side2 => exact (Kd.V_reads' HO302.out).2.1)
         rintro e w72 ⟨v304, rfl, ho0, hb⟩; have HS3_ := (hb.cell (World.block_lt_of_cell? _ _ (hHeld.2.2.2.1))).trans (hHeld.2.2.2.1); have HS4_ := (hb.cell (World.block_lt_of_cell? _ _ (hHeld.2.2.2.2.1))).trans (hHeld.2.2.2.2.1); have HS5_ := (hb.cell (World.block_lt_of_cell? _ _ (hHeld.2.2.2.2.2.1))).trans (hHeld.2.2.2.2.2.1); have HS6_ := (hb.cell (World.block_lt_of_cell? _ _ (hHeld.2.2.2.2.2.2.1))).trans (hHeld.2.2.2.2.2.2.1); have HS7_ := (hb.cell (World.block_lt_of_cell? _ _ (hHeld.2.2.2.2.2.2.2.1))).trans (hHeld.2.2.2.2.2.2.2.1); have HS8_ := (hb.cell (World.block_lt_of_cell? _ _ (hHeld.2.2.2.2.2.2.2.2))).trans (hHeld.2.2.2.2.2.2.2.2); refine ⟨_, rfl, ?_⟩; replace HO_4 := Aside0.mk (Kd.V_elder' (mV HO_4) (Kd.R_base ho0) hb); replace HO_15 := Aside0.mk (Kd.S_elder' (mS HO_15) (Kd.R_base ho0) hb); replace HO_78 := kR HO_78 hb; replace HO_288000 := kS HO_288000 hb; replace HL296_3 := kR HL296_3 hb; replace HL296_4 := kR HL296_4 hb; replace HO302 := Aside0.mk (Kd.V_elder' (mV HO302) (Kd.R_base ho0) hb); have HO305 := Aside0.mk (Kd.R_lower (Kd.R_newM (M := fun k_ => (w.heap.size ≤ k_)) ho0 (below_size (mH HB)) (fun k_ h_ => h_)) (below_size (mH HB))); replace BK274 := kB BK274 hb; replace BK275 := kB BK275 hb; replace BK287 := kB BK287 hb; replace BK295 := kB BK295 hb; replace HR296_3 := Aside0.mk (Kd.C_below (by repeat (first | (with_reducible exact HR296_3.out) | (with_reducible refine Kd.C_alloc ?_ _) | (with_reducible refine Kd.C_drewN ?_ _) | (with_reducible refine Kd.C_drew ?_) | exact HR296_3.out)) hb); replace HR296_4 := Aside0.mk (Kd.C_below (by repeat (first | (with_reducible exact HR296_4.out) | (with_reducible refine Kd.C_alloc ?_ _) | (with_reducible refine Kd.C_drewN ?_ _) | (with_reducible refine Kd.C_drew ?_) | exact HR296_4.out)) hb); replace HB := kH HB hb
         (try clear hb); (try clear hk); (try clear ho0)
         obtain ⟨Ao73, co73, eo73⟩ := Kd.R_slice HO305.out
         (first | subst eo73 | (injection eo73 with f1_ f2_ f3_; have f4_ := f1_.symm; have f5_ := f3_.symm; clear f1_ f2_ f3_; subst f4_; subst f5_))
         refine hK.out _ _ ⟨(bC BK295.out 0).trans rfl, (bC BK295.out 1).trans rfl, (bC BK295.out 2).trans rfl, HS3_, HS4_, HS5_, HS6_, HS7_, HS8_⟩ (fun hHeld => ?_); clear hK K; refine norm_ (a' := ?_) ?_ ?_; rotate_left
         ·
          show Act.put _ (some 102) _ = _
          simp only [Act.put, lT, l0_, lS, i64_w, i32_w]; rfl
         refine pureE 19 (some 103) B25_36 (any_of HT_.out (by kernel_rfl)) ?_
         refine last_ (i := 20) (N := some 104) B25_37 rfl rfl (one_of HT_.out (by kernel_rfl)) (by decide) (fun K hK => ?_); refine value_ (w1 := ?_) (v := ?_) (by rfl) rfl ?_ ?_; rotate_left 2
         ·
          go_simp
          constructor
          ·
           rfl
          ·
           rfl
         refine hK.out _ _ ?_; clear hK K; refine norm_ (a' := ?_) ?_ ?_; rotate_left
         ·
          show Act.put _ (some 104) _ = _
          simp only [Act.put, lT, l0_, lS, i64_w, i32_w]; rfl
         refine last_ (i := 21) (N := some 105) B25_38 rfl rfl (one_of HT_.out (by kernel_rfl)) (by decide) (fun K hK => ?_); refine Kd.S_append_step k60 (w0 := w) w.heap.size (by rfl) (.tmp 84) (.tmp 104) 51 60 (.agg #[(.int .i64 0), (.int .i64 0), (.int .i64 0), (.int .i64 0), (.int .i64 0), (.slice none 0 0)]) 64 rfl Try.underlying51 info60 rfl (by decide) (by omega) u15 x15_2 (⟨a2, (rd_T41 t291 x80_2).f0, rd ((rd_T28 y290 a2).f3) ((rd_T41 t291 x80_2).f0), 16, (rd_T41 t291 x80_2).f1, t303⟩ : S60) [.int .i64 a2, .int .i64 ((rd_T41 t291 x80_2).f0), .int .i64 (rd ((rd_T28 y290 a2).f3) ((rd_T41 t291 x80_2).f0)), .int .i64 16, .int .i64 ((rd_T41 t291 x80_2).f1), .slice Ao73 t303.length co73] (fun k_ => (w.heap.size ≤ k_)) (fun k_ => some k_ = (.slice Ao73 t303.length co73 : Value).ownBlock) rfl rfl ?aP (fun k_ hk_ => ((Kd.R_mono (ok' := fun k_ => ((fun k_ => (w.heap.size ≤ k_))) k_ ∧ some k_ ≠ (u15 : Value).ownBlock) (Kd.R_apart' (HO305.out) (Kd.S_typed HO_15.out) (by decide)) (fun k_ hk => by first | exact ⟨hk.1.1, hk.2⟩ | (go_split_ands; and_intros <;> assumption)))).1 k_ hk_.symm) ?aF ?aO ?aB ?aS ?aL ?_
         (case aP => exact k60_mkM _ _ _ (⟨a2, (rd_T41 t291 x80_2).f0, rd ((rd_T28 y290 a2).f3) ((rd_T41 t291 x80_2).f0), 16, (rd_T41 t291 x80_2).f1, t303⟩ : S60) (Kd.R_mono (Kd.R_tight rfl (Kd.R_mono (ok' := fun k_ => ((fun k_ => (w.heap.size ≤ k_))) k_ ∧ some k_ ≠ (u15 : Value).ownBlock) (Kd.R_apart' (HO305.out) (Kd.S_typed HO_15.out) (by decide)) (fun k_ hk => by first | exact ⟨hk.1.1, hk.2⟩ | (go_split_ands; and_intros <;> assumption)))) (fun _ h_ => h_)))
         (case aB => exact (mH HB))
         (case aF => exact (fun k_ hk => (Nat.le_trans (below_size (mH HB)) hk)))
         (case aO => exact (by (with_reducible repeat (first | apply Kd.S_alloc | apply Kd.S_drewN | apply Kd.S_drew)); exact Kd.S_mono HO_15.out (fun k_ hk => ⟨hk.1, fun e_ => hk.2 e_⟩)))
         (case aS => exact (below_size (mH HB)))
         (case aL => have := LMc60.out; omega)
         intro v307 w74 ho hb hg hat; rw [← Ny306.out] at ho; replace HO_4 := Aside0.mk (Kd.V_afterv (ok := (fun k_ => (P4_ k_ ∨ w.heap.size ≤ k_) ∧ some k_ ≠ (.slice (some ad294) t291.length co49 : Value).ownBlock ∧ some k_ ≠ (.slice (some ⟨go31, 0, none⟩) y290.length co40 : Value).ownBlock ∧ some k_ ≠ (.slice Ao73 t303.length co73 : Value).ownBlock ∧ k_ ≠ gb274 ∧ k_ ≠ gb275 ∧ k_ ≠ gb287 ∧ k_ ≠ gb295)) (by (with_reducible repeat (first | apply Kd.V_alloc | apply Kd.V_drewN | apply Kd.V_drew)); exact Kd.V_mono HO_4.out (fun _ hk => by first | exact ⟨⟨hk.1.1, ⟨hk.1.2.2.1, ⟨hk.1.2.2.2.1, ⟨hk.2, ⟨hk.1.2.2.2.2.1, ⟨hk.1.2.2.2.2.2.1, ⟨hk.1.2.2.2.2.2.2.1, hk.1.2.2.2.2.2.2.2⟩⟩⟩⟩⟩⟩⟩, hk.1.2.1⟩ | (go_split_ands; and_intros <;> assumption))) hg hat); replace HO_78 := Aside0.mk (Kd.R_over' (mR HO_78) (Kd.S_typed (mS HO_15)) (by decide) hg); replace HO_288000 := Aside0.mk (Kd.S_over' (mS HO_288000) (Kd.S_typed (mS HO_15)) (by decide) hg); replace BK274 := Aside0.mk (blk_grown (g := gb274) (o := .cells #[.slice (some ad282) l0_0.length c0_0] 24 (0, 0)) (mB BK274) hg (Kd.S_ne HO_15.out BK274.out (by decide))); replace BK275 := Aside0.mk (blk_grown (g := gb275) (o := .cells #[.slice none 0 0] 24 (0, 0)) (mB BK275) hg (Kd.S_ne HO_15.out BK275.out (by decide))); replace BK287 := Aside0.mk (blk_grown (g := gb287) (o := .cells #[.slice (some ⟨go31, 0, none⟩) y290.length co40] 24 (0, 0)) (mB BK287) hg (Kd.S_ne HO_15.out BK287.out (by decide))); replace BK295 := Aside0.mk (blk_grown (g := gb295) (o := .cells #[.int .i64 ((rd_T41 t291 x80_2).f0), .int .i64 ((rd_T41 t291 x80_2).f1), .int .i64 ((rd_T41 t291 x80_2).f2)] 41 (0, 0)) (mB BK295) hg (Kd.S_ne HO_15.out BK295.out (by decide))); replace HL296_3 := Aside0.mk (Kd.R_over' (mR HL296_3) (Kd.S_typed (mS HO_15)) (by decide) hg); replace HL296_4 := Aside0.mk (Kd.R_over' (mR HL296_4) (Kd.S_typed (mS HO_15)) (by decide) hg); replace HO302 := Aside0.mk (Kd.V_afterv (ok := (fun k_ => (P4_ k_ ∨ w.heap.size ≤ k_) ∧ some k_ ≠ (.slice (some ad294) t291.length co49 : Value).ownBlock ∧ some k_ ≠ (.slice (some ⟨go31, 0, none⟩) y290.length co40 : Value).ownBlock ∧ some k_ ≠ (.slice Ao73 t303.length co73 : Value).ownBlock ∧ k_ ≠ gb274 ∧ k_ ≠ gb275 ∧ k_ ≠ gb287 ∧ k_ ≠ gb295)) (by (with_reducible repeat (first | apply Kd.V_alloc | apply Kd.V_drewN | apply Kd.V_drew)); exact Kd.V_mono HO302.out (fun _ hk => by first | exact ⟨⟨hk.1.1, ⟨hk.1.2.2.1, ⟨hk.1.2.2.2.1, ⟨hk.2, ⟨hk.1.2.2.2.2.1, ⟨hk.1.2.2.2.2.2.1, ⟨hk.1.2.2.2.2.2.2.1, hk.1.2.2.2.2.2.2.2⟩⟩⟩⟩⟩⟩⟩, hk.1.2.1⟩ | (go_split_ands; and_intros <;> assumption))) hg hat); replace HB := Aside0.mk (hb); have HO308 := Aside0.mk (ho); clear HO_15 HO305; clear ho hb hg hat; refine hK.out _ _ ?_; clear hK K; refine norm_ (a' := ?_) ?_ ?_; rotate_left
         ·
          show Act.put _ (some 105) _ = _
          simp only [Act.put, lT, l0_, lS, i64_w, i32_w]; rfl
         refine pureE 22 (some 15) B25_39 (any_of HT_.out (by kernel_rfl)) ?_
         refine done_ (done_of HT_.out (by kernel_rfl)) ?_; obtain ⟨hcz75_0, hfz75_0⟩ := cY0 BK295; obtain ⟨hcz75_1, hfz75_1⟩ := cY1 BK295; obtain ⟨hcz75_2, hfz75_2⟩ := cY2 BK295; have q76 : (((rd_T41 t291 x80_2).f2) : Int) ≤ ((x4_2.length : Int) : Int) := dT; obtain ⟨i076, hi076, _, hsz76, _⟩ := info_parts info5; have hroom76 : x4_2.length ≤ co71 := (Kd.V_reads' HO_4.out).2.1; have hC76 : Kd.F (Kd.int .u8) _ _ Ao71 x4_2.length x4_2 := (Kd.V_at (base := w.heap.size) HO_4.out).2.2; have q076 : (0 : Int) ≤ (((rd_T41 t291 x80_2).f2) : Int) := dT; have hcut76 := cut_from (P := Try.prog) 50 5 .i64 Try.underlying50 hi076 1 hsz76 Ao71 x4_2.length co71 ((rd_T41 t291 x80_2).f2) q076 q76; have hr76 := Kd.F_cut (m := (((rd_T41 t291 x80_2).f2) : Int).toNat) (c := co71) hC76 (by omega) hroom76; obtain ⟨A76, hA76⟩ : ∃ A1, A1 = (if co71 = (((rd_T41 t291 x80_2).f2) : Int).toNat then Ao71 else (Ao71 : Option Addr).map (·.add ((((rd_T41 t291 x80_2).f2) : Int).toNat * 1))) := ⟨_, rfl⟩; obtain ⟨c76, hc76⟩ : ∃ c1, c1 = co71 - (((rd_T41 t291 x80_2).f2) : Int).toNat := ⟨_, rfl⟩; have hy76 : y309.length = x4_2.length - (((rd_T41 t291 x80_2).f2) : Int).toNat := (by rw [Ny309.out, List.length_drop] <;> omega); rw [show (x4_2).drop (((rd_T41 t291 x80_2).f2) : Int).toNat = y309 from Ny309.out.symm] at hr76; replace hr76 : Kd.F (Kd.int .u8) _ _ A76 y309.length y309 := (by rw [hA76]; exact hr76)
         rw [← hy76, ← hA76, ← hc76] at hcut76; have HO313 := Aside0.mk (show Kd.V (Kd.int .u8) 5 _ w.heap.size _ (.slice A76 y309.length c76) y309 from Kd.V_mk (by rw [hy76, hc76]; exact Nat.sub_le_sub_right hroom76 _) hr76)
         have HC313 := Aside0.mk (show y309.length ≤ c76 from by rw [hy76, hc76]; exact Nat.sub_le_sub_right hroom76 _)
         clear hr76 hC76 hroom76 hi076 hsz76 hc76; have KY76 := Aside0.mk hy76; have KA76 := Aside0.mk hA76; clear hy76 hA76; replace q76 := eq_true q76
         try go_wp2
         (try simp only [← hl288000_2])
         go_roundg k2
         case measure => have := HJ5.out; have := HK2.out; omega
         case rel => exact ⟨(y309), (y306), (wrap64 (x80_2 + 1)), sI, H', ⟨oM HJ5 HK2⟩, ⟨by (try simp only [hl288000_2]); (with_reducible repeat (first | apply Kd.V_alloc | apply Kd.V_drewN | apply Kd.V_drew)); exact Kd.V_mono HO313.out (fun _ hk => by first | exact ⟨hk.1.1, ⟨hk.2, ⟨hk.1.2.1, ⟨hk.1.2.2.1, ⟨hk.1.2.2.2.2.1, ⟨hk.1.2.2.2.2.2.1, hk.1.2.2.2.2.2.2.1⟩⟩⟩⟩⟩⟩ | (go_split_ands; and_intros <;> assumption))⟩, ⟨by (try simp only [hl288000_2]); (with_reducible repeat (first | apply Kd.S_alloc | apply Kd.S_drewN | apply Kd.S_drew)); exact HO308.out⟩, ⟨by (try simp only [hl288000_2]); (with_reducible repeat (first | apply Kd.R_alloc | apply Kd.R_drewN | apply Kd.R_drew)); exact Kd.R_mono HO_78.out (fun _ hk => hk.1)⟩, ⟨by (try simp only [hl288000_2]); (with_reducible repeat (first | apply Kd.S_alloc | apply Kd.S_drewN | apply Kd.S_drew)); exact HO_288000.out⟩, ⟨by (try simp only [hl288000_2]); (with_reducible repeat (first | refine bN ?_ _ | refine bD ?_ | refine bA ?_ _)); exact BK274.out⟩, ⟨by (try simp only [hl288000_2]); (with_reducible repeat (first | refine bN ?_ _ | refine bD ?_ | refine bA ?_ _)); exact BK275.out⟩, ⟨by (try simp only [hl288000_2]); (with_reducible repeat (first | refine bN ?_ _ | refine bD ?_ | refine bA ?_ _)); exact BK287.out⟩, ⟨mH HB⟩⟩
        ·
         rw [if_neg c50] at H; have c50b0 := decide_eq_false c50; clear c50; simp only [Option.some.injEq, Prod.mk.injEq] at H; obtain ⟨rfl, rfl, rfl⟩ := H; have hnb77 := NB287_274.out; have hnc77 := NB274_287.out; have hnb78 := NB287_275.out; have hnc78 := NB275_287.out; obtain ⟨hcz79_0, hfz79_0⟩ := cY0 BK287; have hnb80 := NB275_274.out; have hnc80 := NB274_275.out; obtain ⟨hcz81_0, hfz81_0⟩ := cY0 BK275
         go_wp2
         refine bodyPost_ret (results_ctt rfl _ _ gb275 24 #[.slice (some ⟨go31, 0, none⟩) y290.length co40] (0, 0) _ rfl (pP BK275) Try.underlying24 rfl (by kernel_rfl)) rfl ?_
         exact ⟨_, _, by first | rfl | exact congrArg (fun b_ => Ending.returned (Value.bool b_)) HRET.out | (rw [HRET.out]) | (simp [errW_none, errW_some] <;> rfl) | (simp only [← hji30]; first | rfl | (simp [errW_none, errW_some] <;> rfl)) | (simp [*, errW_none, errW_some] <;> rfl), fS ⟨Kd.S_types HO_288000.out BK275.out (by decide)⟩, fS ⟨Kd.S_types HO_15.out BK275.out (by decide)⟩, mH HB⟩
    ·
     replace c17 := Bool.eq_false_iff.mpr c17; subst c17
     have H1 : (none) = some (r1, r2, r3) := by rw [if_neg (show ¬ (false = true) by decide)] at H; exact H
     clear H; have H := H1; clear H1; exact absurd H (by simp)
end Go.Proofs.Ytkigiehkckjlhaa.PSpace
