/- The Go functions that these laws reach, each as a Lean function with the same answers (a law itself where it answers true), and the proof that the code comes to them; conditions: those of each theorem. Laid by a program of this session over the print. -/
import Derived.Test.YtkigiehkckjlhaaZGrowsPGrowsShort
import Derived.Test.YtkigiehkckjlhaaZGrowsPGrowsx0
import Derived.Test.YtkigiehkckjlhaaZGrowsPGrowsx14
import Derived.Test.YtkigiehkckjlhaaZGrowsPGrowsx21
namespace Go.Proofs.Ytkigiehkckjlhaa.PGrows
open Go.RowKit Go.Proofs.YtkigiehkckjlhaaW.PrintWords Go.Proofs.YtkigiehkckjlhaaW.PrintLast Go.Proofs.YtkigiehkckjlhaaW.PrintMore
attribute [local go_sem] max2_int min2_int max_two min_two max_three min_three max_four min_four   -- for this text's walks alone
set_option linter.unusedVariables false
set_option linter.unusedSimpArgs false
open Go.Proofs.YtkigiehkckjlhaaW.PrintWords renaming blk_drewN → bN, blk_drew → bD, blk_alloc → bA, below_set → wS, below_alloc → wA, pw_below_drewN → wN, below_drew1 → wD, blk_below → bB, blk_far → bF, blk_cell → bC, blk_frozen → bZ
open List renaming setIfInBounds_toArray → lT, set_cons_zero → l0_, set_cons_succ → lS
abbrev B23_0 : Array Bool := #[false, false, false, false, false, false, false, false, false, false, false, false, false, false, false]
abbrev B23_1 : Array Bool := B23_0.set! 2 true
abbrev B23_2 : Array Bool := B23_1.set! 4 true
abbrev B23_3 : Array Bool := B23_2.set! 7 true
abbrev B23_4 : Array Bool := B23_3.set! 8 true
abbrev B23_5 : Array Bool := B23_4.set! 9 true
abbrev B23_6 : Array Bool := B23_5.set! 12 true
abbrev B23_7 : Array Bool := B23_6.set! 0 true
abbrev B23_8 : Array Bool := B23_7.set! 3 true
abbrev B23_9 : Array Bool := B23_8.set! 5 true
abbrev B23_10 : Array Bool := B23_9.set! 6 true
abbrev B23_11 : Array Bool := B23_10.set! 1 true
abbrev B23_12 : Array Bool := B23_11.set! 10 true
abbrev B23_13 : Array Bool := B23_12.set! 11 true
abbrev B23_14 : Array Bool := B23_13.set! 13 true
abbrev B23_15 : Array Bool := B23_14.set! 14 true
abbrev B23_16 : Array Bool := #[false, false, false, false, false, false, false, false, false, false, false, false, false, false, false, false, false, false, false, false, false, false, false]
abbrev B23_17 : Array Bool := B23_16.set! 0 true
abbrev B23_18 : Array Bool := B23_17.set! 1 true
abbrev B23_19 : Array Bool := B23_18.set! 2 true
abbrev B23_20 : Array Bool := B23_19.set! 4 true
abbrev B23_21 : Array Bool := B23_20.set! 5 true
abbrev B23_22 : Array Bool := B23_21.set! 6 true
abbrev B23_23 : Array Bool := B23_22.set! 8 true
abbrev B23_24 : Array Bool := B23_23.set! 12 true
abbrev B23_25 : Array Bool := B23_24.set! 14 true
abbrev B23_26 : Array Bool := B23_25.set! 15 true
abbrev B23_27 : Array Bool := B23_26.set! 3 true
abbrev B23_28 : Array Bool := B23_27.set! 7 true
abbrev B23_29 : Array Bool := B23_28.set! 9 true
abbrev B23_30 : Array Bool := B23_29.set! 10 true
abbrev B23_31 : Array Bool := B23_30.set! 11 true
abbrev B23_32 : Array Bool := B23_31.set! 13 true
abbrev B23_33 : Array Bool := B23_32.set! 16 true
abbrev B23_34 : Array Bool := B23_33.set! 17 true
abbrev B23_35 : Array Bool := B23_34.set! 18 true
abbrev B23_36 : Array Bool := B23_35.set! 19 true
abbrev B23_37 : Array Bool := B23_36.set! 20 true
abbrev B23_38 : Array Bool := B23_37.set! 21 true
abbrev B23_39 : Array Bool := B23_38.set! 22 true
mutual
def file_Write.j0 : Nat → Int → Int → Int → List Int → Bool → List (S28) → Option ((List (S28)) × (List (S60)) × Int)
 | 0, _, _, _, _, _, _ => none
 | k + 1, x1, x2, x3, x4, x18, x251000 => if x18 = true then (none) else (if (x4.length : Int) = 0 then ((dir_Copy.f k x251000).bind fun t253 => (some (t253, ([] : List (S60)), 0))) else ((span_Fits.f x3 (x4.length : Int)).bind fun t256 => (if t256 = true then ((quota_Used.f k x251000).bind fun t257 => (if 0 ≤ x2 then (if x2 < (x251000.length : Int) then ((quota_More.f k ((rd_T28 x251000 x2).f0) ((rd_T28 x251000 x2).f1) ((rd_T28 x251000 x2).f2) ((rd_T28 x251000 x2).f3) ((rd_T28 x251000 x2).f4) x3 (x4.length : Int)).bind fun t259 => (if (wrap64 (t257 + t259)) > x1 then (some (([] : List (S28)), ([] : List (S60)), 13)) else ((dir_Copy.f k x251000).bind fun t260 => (if x2 < (t260.length : Int) then ((span_Pieces.f k x3 (x4.length : Int)).bind fun t267 => (file_Write.l0 k x2 x4 ([] : List (S60)) t267 (t267.length : Int) 0 (t260.set (x2 : Int).toNat (⟨(rd_T28 t260 x2).f0, (rd_T28 t260 x2).f1, mx ((rd_T28 t260 x2).f2) (wrap64 (x3 + (x4.length : Int))), (rd_T28 t260 x2).f3, (rd_T28 t260 x2).f4⟩ : S28)))) else (none))))) else (none)) else (none))) else (some (([] : List (S28)), ([] : List (S60)), 16)))))
def file_Write.l0 : Nat → Int → List Int → List (S60) → List (S41) → Int → Int → List (S28) → Option ((List (S28)) × (List (S60)) × Int)
 | 0, _, _, _, _, _, _, _ => none
 | k + 1, x2, x4, x15, x78, x79, x80, x264000 => if x80 < x79 then (if 0 ≤ x80 then (if x80 < (x78.length : Int) then (if 0 ≤ x2 then (if x2 < (x264000.length : Int) then (if 0 ≤ ((rd_T41 x78 x80).f0) then (if ((rd_T41 x78 x80).f0) < (((rd_T28 x264000 x2).f3).length : Int) then (if 0 ≤ ((rd_T41 x78 x80).f2) then (if ((rd_T41 x78 x80).f2) ≤ (x4.length : Int) then ((slices_Clone_byte_byte.f (x4.take (((rd_T41 x78 x80).f2) : Int).toNat)).bind fun t279 => (if x15.length < 2199023255552 then (file_Write.l0 k x2 (x4.drop (((rd_T41 x78 x80).f2) : Int).toNat) (x15 ++ [(⟨x2, (rd_T41 x78 x80).f0, rd ((rd_T28 x264000 x2).f3) ((rd_T41 x78 x80).f0), 16, (rd_T41 x78 x80).f1, t279⟩ : S60)]) x78 x79 (wrap64 (x80 + 1)) x264000) else (none))) else (none)) else (none)) else (none)) else (none)) else (none)) else (none)) else (none)) else (none)) else (some (x264000, x15, 0))
end
def file_Write.f (k : Nat) (l0_0 : List (S28)) (a1 : Int) (a2 : Int) (a3 : Int) (l4 : List Int) : Option ((List (S28)) × (List (S60)) × Int) := (file_is.f k l0_0 a2).bind fun t252 => (if t252 = true then (file_Write.j0 k a1 a2 a3 l4 (decide (a3 < 0)) l0_0) else (none))
theorem file_Write.mono_l : ∀ k, (∀ y0 y1 y2 y3 y4 y5, LeO (file_Write.j0 k y0 y1 y2 y3 y4 y5) (file_Write.j0 (k + 1) y0 y1 y2 y3 y4 y5)) ∧ (∀ y0 y1 y2 y3 y4 y5 y6, LeO (file_Write.l0 k y0 y1 y2 y3 y4 y5 y6) (file_Write.l0 (k + 1) y0 y1 y2 y3 y4 y5 y6))
 | 0 => ⟨fun _ _ _ _ _ _ r h => by simp [file_Write.j0] at h, fun _ _ _ _ _ _ _ r h => by simp [file_Write.l0] at h⟩
 | k + 1 => by
  obtain ⟨ih0, ih1⟩ := file_Write.mono_l k; refine ⟨?_, ?_⟩
  ·
   intro y0 y1 y2 y3 y4 y5
   unfold file_Write.j0
   repeat' with_reducible first | apply ih0 | apply ih1 | apply dir_Copy.mono | apply file_is.mono | apply quota_More.mono | apply quota_Used.mono | apply span_Pieces.mono | exact LeO.refl _ | exact LeO.none _ | refine LeO.ite ?_ ?_ | refine LeO.bind ?_ (fun _ => ?_)
  ·
   intro y0 y1 y2 y3 y4 y5 y6
   unfold file_Write.l0
   repeat' with_reducible first | apply ih0 | apply ih1 | apply dir_Copy.mono | apply file_is.mono | apply quota_More.mono | apply quota_Used.mono | apply span_Pieces.mono | exact LeO.refl _ | exact LeO.none _ | refine LeO.ite ?_ ?_ | refine LeO.bind ?_ (fun _ => ?_)
theorem file_Write.mono : ∀ a0 a1 a2 a3 a4 k, LeO (file_Write.f k a0 a1 a2 a3 a4) (file_Write.f (k + 1) a0 a1 a2 a3 a4) := by
 intro a0 a1 a2 a3 a4 k; obtain ⟨ih0, ih1⟩ := file_Write.mono_l k
 unfold file_Write.f
 repeat' with_reducible first | apply ih0 | apply ih1 | apply dir_Copy.mono | apply file_is.mono | apply quota_More.mono | apply quota_Used.mono | apply span_Pieces.mono | exact LeO.refl _ | exact LeO.none _ | refine LeO.ite ?_ ?_ | refine LeO.bind ?_ (fun _ => ?_)
def file_Write.T7 : Bool × List (List Nat × List Nat) := (true, [([], []), ([0], [0]), ([], []), ([2], [2]), ([], []), ([3, 4], [3, 4]), ([5], [5]), ([], []), ([], []), ([8], [8]), ([6, 7, 9, 1], [6, 7, 9]), ([1, 10], [1, 10]), ([], []), ([11, 12], [11, 12]), ([13, 10], [13])])
def file_Write.B7 : List Nat := [0, 1, 0, 4, 0, 28, 60, 0, 0, 256, 1023, 2047, 0, 8191, 16383]
theorem file_Write.tab7 : rtab .any (opsOf Try.f34 7) = file_Write.T7 := by kernel_rfl
theorem file_Write.bits7 : waitsOk file_Write.T7.2 file_Write.B7 = true := by kernel_rfl
def file_Write.T16 : Bool × List (List Nat × List Nat) := (true, [([], []), ([], []), ([], []), ([2], [2]), ([], []), ([4], [4]), ([5], [5]), ([6], [6]), ([], []), ([8], [8]), ([7, 9], [7, 9]), ([10], [10]), ([], []), ([12], [12]), ([], []), ([], []), ([15], [15]), ([14, 16], [14, 16]), ([17], [17]), ([1, 3, 11, 13, 18], [1, 3, 11, 13, 18]), ([19], [19]), ([0, 20, 18], [0, 20]), ([21, 21, 0, 1, 2, 3, 4, 5, 6, 7, 8, 9, 10, 11, 12, 13, 14, 15, 16, 17, 18, 19, 20, 21], [0, 21])])
def file_Write.B16 : List Nat := [0, 0, 0, 4, 0, 16, 48, 112, 0, 256, 1008, 2032, 0, 4096, 0, 0, 32768, 114688, 245760, 524286, 1048574, 2097151, 4194303]
theorem file_Write.tab16 : rtab .any (opsOf Try.f34 16) = file_Write.T16 := by kernel_rfl
theorem file_Write.bits16 : waitsOk file_Write.T16.2 file_Write.B16 = true := by kernel_rfl
set_option maxHeartbeats 8000000 in
set_option maxRecDepth 100000 in
theorem file_Write.calls (k : Nat) (A0_0 : Option Addr) (c0_0 : Nat) (l0_0 : List (S28)) (a1 : Int) (a2 : Int) (a3 : Int) (P4_ : Nat → Prop) (A4 : Option Addr) (c4 : Nat) (l4 : List Int) (r1 : List (S28)) (r2 : List (S60)) (r3 : Int) (w : World) (hr0_0 : Kd.C k28 w A0_0 l0_0.length l0_0) (hc0_0 : l0_0.length ≤ c0_0) (hs4 : Kd.V (Kd.int .u8) 5 w w.heap.size (fun k_ => P4_ k_) (.slice A4 l4.length c4) l4) (h : file_Write.f k l0_0 a1 a2 a3 l4 = some (r1, r2, r3)) :
 Calls Try.prog 34 #[.agg #[.slice A0_0 l0_0.length c0_0], .int .i64 a1, .int .i64 a2, .int .i64 a3, .slice A4 l4.length c4] w fun e w' => ∃ v0_ v1_ : Value, e = .returned (.tuple #[.agg #[v0_], v1_, .int .i64 r3]) ∧ Kd.S k28 28 w' w.heap.size (fun k_ => (w.heap.size ≤ k_)) v0_ r1 ∧ Kd.S k60 60 w' w.heap.size (fun k_ => (w.heap.size ≤ k_)) v1_ r2 ∧ Below w.heap.size w w' := by
 have hu24 := Try.underlying24; have hu28 := Try.underlying28; have hu41 := Try.underlying41; have hu60 := Try.underlying60; have HR0_0 := Aside0.mk hr0_0; have HC0_0 := Aside0.mk hc0_0; clear hr0_0 hc0_0; have HO4 := Aside0.mk (show Kd.V (Kd.int .u8) 5 w w.heap.size (fun k_ => (P4_ k_ ∨ w.heap.size ≤ k_)) (.slice A4 l4.length c4) l4 from Kd.V_mono hs4 (fun k_ hk => .inl hk)); have HB := Aside0.mk (Below.refl w.heap.size w); have H : ((file_is.f k l0_0 a2).bind fun t252 => (if t252 = true then (file_Write.j0 k a1 a2 a3 l4 (decide (a3 < 0)) l0_0) else (none))) = some (r1, r2, r3) := h; clear h; have HC6 := Aside0.mk H; clear H
 go_enter Try.func34, Try.ntmps34
 go_upto_region 1 with (first | ((with_reducible refine gate_dst (N := 5) rfl ?_); refine bxE 24 (cs := #[.slice A0_0 l0_0.length c0_0]) ?_; intro gb250 hg w7 hbox hb; replace HO4 := Aside0.mk (Kd.V_below (Kd.V_elderB (mV HO4) gb250 (Nat.le_of_eq hg.symm)) hb); have BK250 := Aside0.mk hbox; have GW250 := kG HB hg; have GE250 := kG HB hg; replace HB := kH HB hb; clear hb hbox hg) | ((with_reducible refine gate_dst (N := 10) rfl ?_); refine bxE 24 (cs := #[.slice none 0 0]) ?_; intro gb251 hg w8 hbox hb; replace HO4 := Aside0.mk (Kd.V_below (Kd.V_elderB (mV HO4) gb251 (Nat.le_of_eq hg.symm)) hb); have BK251 := Aside0.mk hbox; have GW251 := kG HB hg; have GE251 := kG HB hg; replace HB := kH HB hb; have NB250_251 := kL BK250 hg; have NB251_250 := kQ BK250 hg; replace BK250 := kB BK250 hb; clear hb hbox hg))
 (try simp only [Act.put, lT, l0_, lS])
 go_cut [18] (fun v18 wc => ∃ (kq : Nat) (x18_5 : Bool), v18 = .bool x18_5 ∧ Aside0 (file_Write.j0 kq a1 a2 a3 l4 x18_5 l0_0 = some (r1, r2, r3)) ∧ Aside0 (kq ≤ k) ∧ Aside0 (Kd.V (Kd.int .u8) 5 wc w.heap.size (fun k_ => (P4_ k_ ∨ w.heap.size ≤ k_) ∧ k_ ≠ gb250 ∧ k_ ≠ gb251) (.slice A4 l4.length c4) l4) ∧ Aside0 (wc.heap[gb250]? = some (.cells #[(.slice A0_0 l0_0.length c0_0)] 24 (0, 0))) ∧ Aside0 (wc.heap[gb251]? = some (.cells #[(.slice none 0 0)] 24 (0, 0))) ∧ Aside0 (Below w.heap.size w wc))
 case first =>
  have H := HC6.out; clear HC6; replace H := Option.bind_eq_some_iff.mp H; obtain ⟨t252, A90, H⟩ := H; have A9 := Aside0.mk A90; clear A90
  by_cases c10 : t252 = true
  ·
   subst c10
   have H1 : (file_Write.j0 k a1 a2 a3 l4 (decide (a3 < 0)) l0_0) = some (r1, r2, r3) := by rw [if_pos rfl] at H; exact H
   clear H; have H := H1; clear H1; have H' := Aside0.mk H; clear H; have hnb11 := NB250_251.out; have hnc11 := NB251_250.out; obtain ⟨hcz12_0, hfz12_0⟩ := cY0 BK250
   go_wp2_with (first | ((with_reducible refine gate_callee (f := 56) rfl ?_); refine goesK (some 21) Try.func56 #[.agg #[.slice A0_0 l0_0.length c0_0], .int .i64 a2] ?_; (with_reducible refine (file_is.calls k _ _ l0_0 a2 true _ ?side1 ?side2 A9.out).mono ?_); (case side1 => exact mC HR0_0 HB); (case side2 => exact HC0_0.out); rintro e w13 ⟨rfl, hb⟩; refine ⟨_, rfl, ?_⟩; replace HO4 := kV HO4 hb; replace BK250 := kB BK250 hb; replace BK251 := kB BK251 hb; replace HB := kH HB hb; (try clear hb); (try clear hk)))
   go_meet
   case rel => exact ⟨_, (decide (a3 < 0)), sI, H', ⟨by first | omega | exact Nat.le_refl _⟩, ⟨by (with_reducible repeat (first | apply Kd.V_alloc | apply Kd.V_drewN | apply Kd.V_drew)); exact Kd.V_mono HO4.out (fun _ hk => by first | exact ⟨hk.1.1, ⟨hk.1.2, hk.2⟩⟩ | (go_split_ands; and_intros <;> assumption))⟩, ⟨mB BK250⟩, ⟨mB BK251⟩, ⟨mH HB⟩⟩
  ·
   replace c10 := Bool.eq_false_iff.mpr c10; subst c10
   have H1 : (none) = some (r1, r2, r3) := by rw [if_neg (show ¬ (false = true) by decide)] at H; exact H
   clear H; have H := H1; clear H1; exact absurd H (by simp)
 case rest =>
  clear HC6
  (try clear c4)
  obtain ⟨kq, x18_5, rfl, HA, HJ5, HO_4, BK250, BK251, HB⟩ := hcut
  cases kq with
  | zero => exact absurd HA.out (by simp [file_Write.j0])
  | succ kj5 =>
   have H := HA.out; clear HA; simp only [file_Write.j0] at H
   by_cases c14 : x18_5 = true
   ·
    subst c14
    have H1 : (none) = some (r1, r2, r3) := by rw [if_pos rfl] at H; exact H
    clear H; have H := H1; clear H1; exact absurd H (by simp)
   ·
    replace c14 := Bool.eq_false_iff.mpr c14; subst c14
    have H1 : (if (l4.length : Int) = 0 then ((dir_Copy.f kj5 l0_0).bind fun t253 => (some (t253, ([] : List (S60)), 0))) else ((span_Fits.f a3 (l4.length : Int)).bind fun t256 => (if t256 = true then ((quota_Used.f kj5 l0_0).bind fun t257 => (if 0 ≤ a2 then (if a2 < (l0_0.length : Int) then ((quota_More.f kj5 ((rd_T28 l0_0 a2).f0) ((rd_T28 l0_0 a2).f1) ((rd_T28 l0_0 a2).f2) ((rd_T28 l0_0 a2).f3) ((rd_T28 l0_0 a2).f4) a3 (l4.length : Int)).bind fun t259 => (if (wrap64 (t257 + t259)) > a1 then (some (([] : List (S28)), ([] : List (S60)), 13)) else ((dir_Copy.f kj5 l0_0).bind fun t260 => (if a2 < (t260.length : Int) then ((span_Pieces.f kj5 a3 (l4.length : Int)).bind fun t267 => (file_Write.l0 kj5 a2 l4 ([] : List (S60)) t267 (t267.length : Int) 0 (t260.set (a2 : Int).toNat (⟨(rd_T28 t260 a2).f0, (rd_T28 t260 a2).f1, mx ((rd_T28 t260 a2).f2) (wrap64 (a3 + (l4.length : Int))), (rd_T28 t260 a2).f3, (rd_T28 t260 a2).f4⟩ : S28)))) else (none))))) else (none)) else (none))) else (some (([] : List (S28)), ([] : List (S60)), 16))))) = some (r1, r2, r3) := by rw [if_neg (show ¬ (false = true) by decide)] at H; exact H
    clear H; have H := H1; clear H1
    by_cases c15 : (l4.length : Int) = 0
    ·
     rw [if_pos c15] at H; obtain ⟨c15b0, c15b1⟩ := eP c15; clear c15; replace H := Option.bind_eq_some_iff.mp H; obtain ⟨t253, A160, H⟩ := H; have A16 := Aside0.mk A160; clear A160; simp only [Option.some.injEq, Prod.mk.injEq] at H; obtain ⟨rfl, rfl, rfl⟩ := H; have hnb17 := NB250_251.out; have hnc17 := NB251_250.out; obtain ⟨hcz18_0, hfz18_0⟩ := cY0 BK250
     go_wp2_with (first | ((with_reducible refine gate_callee (f := 57) rfl ?_); refine goesK (some 33) Try.func57 #[.agg #[.slice A0_0 l0_0.length c0_0]] ?_; (with_reducible refine (dir_Copy.calls kj5 _ _ l0_0 t253 _ ?side1 ?side2 A16.out).mono ?_); (case side1 => exact mC HR0_0 HB); (case side2 => exact HC0_0.out); rintro e w19 ⟨v254, rfl, ho0, hb⟩; refine ⟨_, rfl, ?_⟩; replace HO_4 := Aside0.mk (Kd.V_elder' (mV HO_4) (Kd.S_base ho0) hb); have HO255 := Aside0.mk (Kd.S_lower (Kd.S_newM (M := fun k_ => (w.heap.size ≤ k_)) ho0 (below_size (mH HB)) (fun k_ h_ => h_)) (below_size (mH HB))); replace BK250 := kB BK250 hb; replace BK251 := kB BK251 hb; replace HB := kH HB hb; (try clear hb); (try clear hk); (try clear ho0); obtain ⟨Ao20, co20, eo20⟩ := Kd.S_slice HO255.out; subst eo20; obtain ⟨hcz21_0, hfz21_0⟩ := cY0 BK251))
     refine bodyPost_ret (results_ctt rfl _ _ gb251 24 #[.slice Ao20 t253.length co20] (0, 0) _ rfl (pP BK251) Try.underlying24 rfl (by kernel_rfl)) rfl ?_
     exact ⟨_, _, rT, fS ⟨Kd.S_types HO255.out BK251.out (by decide)⟩ (fun _ hk => hk.1.1), by first | exact Kd.S_nil _ _ _ _ _ | exact Kd.N_nil _ _ _ _ _ | exact Kd.V_nil _ _ _ _ _ | exact Kd.Q_nil _ _ _ _ _ | exact Kd.R_nil _ _ _ _ _, mH HB⟩
    ·
     rw [if_neg c15] at H; obtain ⟨c15b0, c15b1⟩ := eN c15
     have c15b2 : ¬ (l4 = []) := fun h_ => c15 (by rw [h_]; rfl)
     replace H := Option.bind_eq_some_iff.mp H; obtain ⟨t256, A220, H⟩ := H; have A22 := Aside0.mk A220; clear A220
     by_cases c23 : t256 = true
     ·
      subst c23
      have H1 : ((quota_Used.f kj5 l0_0).bind fun t257 => (if 0 ≤ a2 then (if a2 < (l0_0.length : Int) then ((quota_More.f kj5 ((rd_T28 l0_0 a2).f0) ((rd_T28 l0_0 a2).f1) ((rd_T28 l0_0 a2).f2) ((rd_T28 l0_0 a2).f3) ((rd_T28 l0_0 a2).f4) a3 (l4.length : Int)).bind fun t259 => (if (wrap64 (t257 + t259)) > a1 then (some (([] : List (S28)), ([] : List (S60)), 13)) else ((dir_Copy.f kj5 l0_0).bind fun t260 => (if a2 < (t260.length : Int) then ((span_Pieces.f kj5 a3 (l4.length : Int)).bind fun t267 => (file_Write.l0 kj5 a2 l4 ([] : List (S60)) t267 (t267.length : Int) 0 (t260.set (a2 : Int).toNat (⟨(rd_T28 t260 a2).f0, (rd_T28 t260 a2).f1, mx ((rd_T28 t260 a2).f2) (wrap64 (a3 + (l4.length : Int))), (rd_T28 t260 a2).f3, (rd_T28 t260 a2).f4⟩ : S28)))) else (none))))) else (none)) else (none))) = some (r1, r2, r3) := by rw [if_pos rfl] at H; exact H
      clear H; have H := H1; clear H1; replace H := Option.bind_eq_some_iff.mp H; obtain ⟨t257, A240, H⟩ := H; have A24 := Aside0.mk A240; clear A240
      replace H := nP H; obtain ⟨c25, H⟩ := H; have c25b0 := decide_eq_true c25; clear c25
      replace H := nP H; obtain ⟨c26, H⟩ := H; have c26b0 := decide_eq_true c26; clear c26; replace H := Option.bind_eq_some_iff.mp H; obtain ⟨t259, A270, H⟩ := H; have A27 := Aside0.mk A270; clear A270
      by_cases c28 : (wrap64 (t257 + t259)) > a1
      ·
       rw [if_pos c28] at H; have c28b0 : decide (a1 < (wrap64 (t257 + t259))) = true := decide_eq_true c28; clear c28; simp only [Option.some.injEq, Prod.mk.injEq] at H; obtain ⟨rfl, rfl, rfl⟩ := H
       try go_wp2_with (first | ((with_reducible refine gate_callee (f := 58) rfl ?_); refine goesK (some 38) Try.func58 #[.int .i64 a3, .int .i64 (l4.length : Int)] ?_; (with_reducible refine (span_Fits.calls a3 (l4.length : Int) true _ A22.out).mono ?_); rintro e w' ⟨rfl, ⟨nd, rfl⟩⟩; refine ⟨_, rfl, ?_⟩; (try (rw [drewN_self wc]; generalize hq_ : World.drewN wc _ = wc; have n0_ : Aside0 (Kd.V (Kd.int .u8) 5 wc w.heap.size (fun k_ => (P4_ k_ ∨ w.heap.size ≤ k_) ∧ k_ ≠ gb250 ∧ k_ ≠ gb251) (.slice A4 l4.length c4) l4) := ⟨by rw [← hq_]; exact (mV HO_4)⟩; have n1_ : Aside0 (wc.heap[gb250]? = some (.cells #[.slice A0_0 l0_0.length c0_0] 24 (0, 0))) := ⟨by rw [← hq_]; exact (mB BK250)⟩; have n2_ : Aside0 (wc.heap[gb251]? = some (.cells #[.slice none 0 0] 24 (0, 0))) := ⟨by rw [← hq_]; exact (mB BK251)⟩; have n3_ : Aside0 (Below w.heap.size w wc) := ⟨by rw [← hq_]; exact (mH HB)⟩; clear HO_4 BK250 BK251 HB hq_; have HO_4 := n0_; have BK250 := n1_; have BK251 := n2_; have HB := n3_; clear n0_ n1_ n2_ n3_))))
       replace HO_4 := Aside0.mk (Kd.V_drew HO_4.out); replace BK250 := Aside0.mk (bD BK250.out); replace BK251 := Aside0.mk (bD BK251.out); replace HB := Aside0.mk (wD HB.out); have p258 : 0 ≤ (a2 : Int) := dT; have q258 : a2 < (l0_0.length : Int) := dT; obtain ⟨ad258, A258_3, c258_3, A258_4, c258_4, e258, hx258_0, hx258_1, hx258_2, hx258_3, hx258_4, hl258_3, hi258_3, hl258_4, hi258_4⟩ := at_T28 HR0_0.out a2 p258 q258; have hw258_4 := hx258_4; have hw258_3 := hx258_3; have hw258_2 := hx258_2; have hw258_1 := hx258_1; have hw258_0 := hx258_0
       cases e258
       replace hx258_0 := xC HB hx258_0; replace hx258_1 := xC HB hx258_1; replace hx258_2 := xC HB hx258_2; replace hx258_3 := xC HB hx258_3; replace hx258_4 := xC HB hx258_4; have HR258_3 := Aside0.mk hi258_3; have HC258_3 := Aside0.mk hl258_3; clear hi258_3 hl258_3; have HR258_4 := Aside0.mk hi258_4; have HC258_4 := Aside0.mk hl258_4; clear hi258_4 hl258_4; replace p258 := eq_true p258; replace q258 := eq_true q258; refine start_ (n := 15) (S := fun w' => w'.cell? ⟨gb250, 0, none⟩ = some (.slice (some ad258) l0_0.length c0_0) ∧ w'.cell? (ad258.add ((a2).toNat * 5)) = some (.int .i64 ((rd_T28 l0_0 a2).f0)) ∧ w'.cell? ⟨(ad258.add ((a2).toNat * 5)).block, (ad258.add ((a2).toNat * 5)).off + 1, none⟩ = some (.int .i64 ((rd_T28 l0_0 a2).f1)) ∧ w'.cell? ⟨(ad258.add ((a2).toNat * 5)).block, (ad258.add ((a2).toNat * 5)).off + 2, none⟩ = some (.int .i64 ((rd_T28 l0_0 a2).f2)) ∧ w'.cell? ⟨(ad258.add ((a2).toNat * 5)).block, (ad258.add ((a2).toNat * 5)).off + 3, none⟩ = some (.slice A258_3 ((rd_T28 l0_0 a2).f3).length c258_3) ∧ w'.cell? ⟨(ad258.add ((a2).toNat * 5)).block, (ad258.add ((a2).toNat * 5)).off + 4, none⟩ = some (.slice A258_4 ((rd_T28 l0_0 a2).f4).length c258_4)) (ds := []) B23_0 (by kernel_rfl) rfl rfl ⟨(bC BK250.out 0).trans rfl, (xC HB hw258_0), (xC HB hw258_1), (xC HB hw258_2), (xC HB hw258_3), (xC HB hw258_4)⟩ (fun hHeld => ?_); refine with_tabW file_Write.tab7 file_Write.bits7 (fun HT_ HW_ => ?_); generalize wc.drew = w29 at HO_4 BK250 BK251 HB HR258_3 HR258_4 hx258_0 hx258_1 hx258_2 hx258_3 hx258_4 hHeld ⊢; refine pure_ (i := 2) (N := some 44) (v := ?_) (a' := ?_) B23_1 rfl rfl (any_of HT_.out (by kernel_rfl)) (fun _ _ _ h => h) (Or.inl ⟨by rfl, ?_⟩) ?_ ?_; rotate_left
       ·
        intro w'; go_simp; with_reducible rfl
       rotate_left
       ·
        simp only [Act.put, lT, l0_, lS, i64_w, i32_w]; rfl
       refine pureE 4 (some 46) B23_2 (any_of HT_.out (by kernel_rfl)) ?_
       refine pureE 7 (some 49) B23_3 (any_of HT_.out (by kernel_rfl)) ?_
       refine pureE 8 (some 50) B23_4 (any_of HT_.out (by kernel_rfl)) ?_
       refine pureE 9 (some 51) B23_5 (any_of HT_.out (by kernel_rfl)) ?_
       refine pureE 12 (some 54) B23_6 (any_of HT_.out (by kernel_rfl)) ?_
       refine take_ (i := 0) (N := some 42) (v := ?_) (a' := ?_) B23_7 rfl rfl (take_ofW HT_.out HW_.out (by kernel_rfl)) (fun _ _ _ h => h) (Or.inl ⟨by rfl, ?_⟩) hHeld ?_ ?_; rotate_left
       ·
        rintro w' ⟨s0, s1, s2, s3, s4, s5⟩; go_simp; with_reducible rfl
       rotate_left
       ·
        simp only [Act.put, lT, l0_, lS, i64_w, i32_w]; rfl
       refine take_ (i := 3) (N := some 45) (v := ?_) (a' := ?_) B23_8 rfl rfl (take_ofW HT_.out HW_.out (by kernel_rfl)) (fun _ _ _ h => h) (Or.inl ⟨by rfl, ?_⟩) hHeld ?_ ?_; rotate_left
       ·
        rintro w' ⟨s0, s1, s2, s3, s4, s5⟩; go_simp; with_reducible rfl
       rotate_left
       ·
        simp only [Act.put, lT, l0_, lS, i64_w, i32_w]; rfl
       refine pureE 5 (some 47) B23_9 (any_of HT_.out (by kernel_rfl)) ?_
       refine take_ (i := 6) (N := some 48) (v := ?_) (a' := ?_) B23_10 rfl rfl (take_ofW HT_.out HW_.out (by kernel_rfl)) (fun _ _ _ h => h) (Or.inl ⟨by rfl, ?_⟩) hHeld ?_ ?_; rotate_left
       ·
        rintro w' ⟨s0, s1, s2, s3, s4, s5⟩; go_simp; with_reducible rfl
       rotate_left
       ·
        simp only [Act.put, lT, l0_, lS, i64_w, i32_w]; rfl
       refine one_ (i := 1) (N := some 43) B23_11 rfl rfl (one_of HT_.out (by kernel_rfl)) (by decide) (fun K hK => ?_); refine goes_ Try.func16 (by kernel_rfl) rfl #[.agg #[.slice (some ad258) l0_0.length c0_0]] (by rfl) rfl rfl (by (try simp only [List.map_toArray, List.map_cons, List.map_nil]); first | done | rfl | (simp only [List.length_drop, List.length_take]; rfl)) ?_
       with_reducible refine (quota_Used.calls kj5 _ _ l0_0 t257 _ ?side1 ?side2 A24.out).mono ?_
       (case side1 => exact mC HR0_0 HB)
       (case side2 => exact HC0_0.out)
       rintro e w30 ⟨rfl, hb⟩; refine ⟨_, rfl, ?_⟩; replace HO_4 := kV HO_4 hb; replace BK250 := kB BK250 hb; replace BK251 := kB BK251 hb; replace HB := kH HB hb
       (try clear hb); (try clear hk)
       refine hK.out _ _ ⟨(bC BK250.out 0).trans rfl, (xC HB hw258_0), (xC HB hw258_1), (xC HB hw258_2), (xC HB hw258_3), (xC HB hw258_4)⟩ (fun hHeld => ?_); clear hK K; refine norm_ (a' := ?_) ?_ ?_; rotate_left
       ·
        show Act.put _ (some 43) _ = _
        simp only [Act.put, lT, l0_, lS, i64_w, i32_w]; rfl
       refine one_ (i := 10) (N := some 52) B23_12 rfl rfl (one_of HT_.out (by kernel_rfl)) (by decide) (fun K hK => ?_); refine goes_ Try.func22 (by kernel_rfl) rfl #[.agg #[.int .i64 ((rd_T28 l0_0 a2).f0), .int .i64 ((rd_T28 l0_0 a2).f1), .int .i64 ((rd_T28 l0_0 a2).f2), .slice A258_3 ((rd_T28 l0_0 a2).f3).length c258_3, .slice A258_4 ((rd_T28 l0_0 a2).f4).length c258_4], .int .i64 a3, .int .i64 (l4.length : Int)] (by rfl) rfl rfl (by (try simp only [List.map_toArray, List.map_cons, List.map_nil]); first | done | rfl | (simp only [List.length_drop, List.length_take]; rfl)) ?_
       with_reducible refine (quota_More.calls kj5 ((rd_T28 l0_0 a2).f0) ((rd_T28 l0_0 a2).f1) ((rd_T28 l0_0 a2).f2) _ _ ((rd_T28 l0_0 a2).f3) _ _ ((rd_T28 l0_0 a2).f4) a3 (l4.length : Int) t259 _ ?side1 ?side2 ?side3 ?side4 A27.out).mono ?_
       (case side1 => exact mC HR258_3 HB)
       (case side2 => exact HC258_3.out)
       (case side3 => exact mC HR258_4 HB)
       (case side4 => exact HC258_4.out)
       rintro e w31 ⟨rfl, hb⟩; refine ⟨_, rfl, ?_⟩; replace HO_4 := kV HO_4 hb; replace BK250 := kB BK250 hb; replace BK251 := kB BK251 hb; replace HB := kH HB hb
       (try clear hb); (try clear hk)
       refine hK.out _ _ ⟨(bC BK250.out 0).trans rfl, (xC HB hw258_0), (xC HB hw258_1), (xC HB hw258_2), (xC HB hw258_3), (xC HB hw258_4)⟩ (fun hHeld => ?_); clear hK K; refine norm_ (a' := ?_) ?_ ?_; rotate_left
       ·
        show Act.put _ (some 52) _ = _
        simp only [Act.put, lT, l0_, lS, i64_w, i32_w]; rfl
       refine pureE 11 (some 53) B23_13 (any_of HT_.out (by kernel_rfl)) ?_
       refine pureE 13 (some 55) B23_14 (any_of HT_.out (by kernel_rfl)) ?_
       refine pureE 14 (some 41) B23_15 (any_of HT_.out (by kernel_rfl)) ?_
       refine done_ (done_of HT_.out (by kernel_rfl)) ?_; have hnb32 := NB251_250.out; have hnc32 := NB250_251.out; obtain ⟨hcz33_0, hfz33_0⟩ := cY0 BK251
       try go_wp2
       refine bodyPost_ret (results_ctt rfl _ _ gb251 24 #[.slice none 0 0] (0, 0) _ rfl (pP BK251) Try.underlying24 rfl (by kernel_rfl)) rfl ?_
       exact ⟨_, _, rT, by first | exact Kd.S_nil _ _ _ _ _ | exact Kd.N_nil _ _ _ _ _ | exact Kd.V_nil _ _ _ _ _ | exact Kd.Q_nil _ _ _ _ _ | exact Kd.R_nil _ _ _ _ _, by first | exact Kd.S_nil _ _ _ _ _ | exact Kd.N_nil _ _ _ _ _ | exact Kd.V_nil _ _ _ _ _ | exact Kd.Q_nil _ _ _ _ _ | exact Kd.R_nil _ _ _ _ _, mH HB⟩
      ·
       rw [if_neg c28] at H; have c28b0 : decide (a1 < (wrap64 (t257 + t259))) = false := decide_eq_false c28; clear c28; replace H := Option.bind_eq_some_iff.mp H; obtain ⟨t260, A340, H⟩ := H; have A34 := Aside0.mk A340; clear A340
       replace H := nP H; obtain ⟨c35, H⟩ := H; have c35b0 := decide_eq_true c35; clear c35; obtain ⟨ji36, hji36⟩ : ∃ j_ : Int, (mx ((rd_T28 t260 a2).f2) (wrap64 (a3 + (l4.length : Int)))) = j_ := ⟨_, rfl⟩
       replace H : ((span_Pieces.f kj5 a3 (l4.length : Int)).bind fun t267 => (file_Write.l0 kj5 a2 l4 ([] : List (S60)) t267 (t267.length : Int) 0 (t260.set (a2 : Int).toNat (⟨(rd_T28 t260 a2).f0, (rd_T28 t260 a2).f1, ji36, (rd_T28 t260 a2).f3, (rd_T28 t260 a2).f4⟩ : S28)))) = some (r1, r2, r3) := by first | (rw [hji36] at H; exact H) | (simp only [hji36] at H ⊢; exact H)
       (try rw [hji36] at A22)
       (try rw [hji36] at A24)
       (try rw [hji36] at A27)
       (try rw [hji36] at A34)
       have hji36_ : (if ((rd_T28 t260 a2).f2) < (wrap64 (a3 + (l4.length : Int))) then (wrap64 (a3 + (l4.length : Int))) else ((rd_T28 t260 a2).f2)) = ji36 := hji36; obtain ⟨y266, hy266⟩ : ∃ y_ : List (S28), y_ = (t260.set (a2 : Int).toNat (⟨(rd_T28 t260 a2).f0, (rd_T28 t260 a2).f1, ji36, (rd_T28 t260 a2).f3, (rd_T28 t260 a2).f4⟩ : S28)) := ⟨_, rfl⟩
       replace H : ((span_Pieces.f kj5 a3 (l4.length : Int)).bind fun t267 => (file_Write.l0 kj5 a2 l4 ([] : List (S60)) t267 (t267.length : Int) 0 y266)) = some (r1, r2, r3) := rH H hy266
       have Ny266 := Aside0.mk hy266; clear hy266; replace H := Option.bind_eq_some_iff.mp H; obtain ⟨t267, A380, H⟩ := H; have A38 := Aside0.mk A380; clear A380; have H' := Aside0.mk H; clear H
       try go_wp2_with (first | ((with_reducible refine gate_callee (f := 58) rfl ?_); refine goesK (some 38) Try.func58 #[.int .i64 a3, .int .i64 (l4.length : Int)] ?_; (with_reducible refine (span_Fits.calls a3 (l4.length : Int) true _ A22.out).mono ?_); rintro e w' ⟨rfl, ⟨nd, rfl⟩⟩; refine ⟨_, rfl, ?_⟩; (try (rw [drewN_self wc]; generalize hq_ : World.drewN wc _ = wc; have n0_ : Aside0 (Kd.V (Kd.int .u8) 5 wc w.heap.size (fun k_ => (P4_ k_ ∨ w.heap.size ≤ k_) ∧ k_ ≠ gb250 ∧ k_ ≠ gb251) (.slice A4 l4.length c4) l4) := ⟨by rw [← hq_]; exact (mV HO_4)⟩; have n1_ : Aside0 (wc.heap[gb250]? = some (.cells #[.slice A0_0 l0_0.length c0_0] 24 (0, 0))) := ⟨by rw [← hq_]; exact (mB BK250)⟩; have n2_ : Aside0 (wc.heap[gb251]? = some (.cells #[.slice none 0 0] 24 (0, 0))) := ⟨by rw [← hq_]; exact (mB BK251)⟩; have n3_ : Aside0 (Below w.heap.size w wc) := ⟨by rw [← hq_]; exact (mH HB)⟩; clear HO_4 BK250 BK251 HB hq_; have HO_4 := n0_; have BK250 := n1_; have BK251 := n2_; have HB := n3_; clear n0_ n1_ n2_ n3_))))
       replace HO_4 := Aside0.mk (Kd.V_drew HO_4.out); replace BK250 := Aside0.mk (bD BK250.out); replace BK251 := Aside0.mk (bD BK251.out); replace HB := Aside0.mk (wD HB.out); have p258 : 0 ≤ (a2 : Int) := dT; have q258 : a2 < (l0_0.length : Int) := dT; obtain ⟨ad258, A258_3, c258_3, A258_4, c258_4, e258, hx258_0, hx258_1, hx258_2, hx258_3, hx258_4, hl258_3, hi258_3, hl258_4, hi258_4⟩ := at_T28 HR0_0.out a2 p258 q258; have hw258_4 := hx258_4; have hw258_3 := hx258_3; have hw258_2 := hx258_2; have hw258_1 := hx258_1; have hw258_0 := hx258_0
       cases e258
       replace hx258_0 := xC HB hx258_0; replace hx258_1 := xC HB hx258_1; replace hx258_2 := xC HB hx258_2; replace hx258_3 := xC HB hx258_3; replace hx258_4 := xC HB hx258_4; have HR258_3 := Aside0.mk hi258_3; have HC258_3 := Aside0.mk hl258_3; clear hi258_3 hl258_3; have HR258_4 := Aside0.mk hi258_4; have HC258_4 := Aside0.mk hl258_4; clear hi258_4 hl258_4; replace p258 := eq_true p258; replace q258 := eq_true q258; refine start_ (n := 15) (S := fun w' => w'.cell? ⟨gb250, 0, none⟩ = some (.slice (some ad258) l0_0.length c0_0) ∧ w'.cell? (ad258.add ((a2).toNat * 5)) = some (.int .i64 ((rd_T28 l0_0 a2).f0)) ∧ w'.cell? ⟨(ad258.add ((a2).toNat * 5)).block, (ad258.add ((a2).toNat * 5)).off + 1, none⟩ = some (.int .i64 ((rd_T28 l0_0 a2).f1)) ∧ w'.cell? ⟨(ad258.add ((a2).toNat * 5)).block, (ad258.add ((a2).toNat * 5)).off + 2, none⟩ = some (.int .i64 ((rd_T28 l0_0 a2).f2)) ∧ w'.cell? ⟨(ad258.add ((a2).toNat * 5)).block, (ad258.add ((a2).toNat * 5)).off + 3, none⟩ = some (.slice A258_3 ((rd_T28 l0_0 a2).f3).length c258_3) ∧ w'.cell? ⟨(ad258.add ((a2).toNat * 5)).block, (ad258.add ((a2).toNat * 5)).off + 4, none⟩ = some (.slice A258_4 ((rd_T28 l0_0 a2).f4).length c258_4)) (ds := []) B23_0 (by kernel_rfl) rfl rfl ⟨(bC BK250.out 0).trans rfl, (xC HB hw258_0), (xC HB hw258_1), (xC HB hw258_2), (xC HB hw258_3), (xC HB hw258_4)⟩ (fun hHeld => ?_); refine with_tabW file_Write.tab7 file_Write.bits7 (fun HT_ HW_ => ?_); generalize wc.drew = w39 at HO_4 BK250 BK251 HB HR258_3 HR258_4 hx258_0 hx258_1 hx258_2 hx258_3 hx258_4 hHeld ⊢; refine pure_ (i := 2) (N := some 44) (v := ?_) (a' := ?_) B23_1 rfl rfl (any_of HT_.out (by kernel_rfl)) (fun _ _ _ h => h) (Or.inl ⟨by rfl, ?_⟩) ?_ ?_; rotate_left
       ·
        intro w'; go_simp; with_reducible rfl
       rotate_left
       ·
        simp only [Act.put, lT, l0_, lS, i64_w, i32_w]; rfl
       refine pureE 4 (some 46) B23_2 (any_of HT_.out (by kernel_rfl)) ?_
       refine pureE 7 (some 49) B23_3 (any_of HT_.out (by kernel_rfl)) ?_
       refine pureE 8 (some 50) B23_4 (any_of HT_.out (by kernel_rfl)) ?_
       refine pureE 9 (some 51) B23_5 (any_of HT_.out (by kernel_rfl)) ?_
       refine pureE 12 (some 54) B23_6 (any_of HT_.out (by kernel_rfl)) ?_
       refine take_ (i := 0) (N := some 42) (v := ?_) (a' := ?_) B23_7 rfl rfl (take_ofW HT_.out HW_.out (by kernel_rfl)) (fun _ _ _ h => h) (Or.inl ⟨by rfl, ?_⟩) hHeld ?_ ?_; rotate_left
       ·
        rintro w' ⟨s0, s1, s2, s3, s4, s5⟩; go_simp; with_reducible rfl
       rotate_left
       ·
        simp only [Act.put, lT, l0_, lS, i64_w, i32_w]; rfl
       refine take_ (i := 3) (N := some 45) (v := ?_) (a' := ?_) B23_8 rfl rfl (take_ofW HT_.out HW_.out (by kernel_rfl)) (fun _ _ _ h => h) (Or.inl ⟨by rfl, ?_⟩) hHeld ?_ ?_; rotate_left
       ·
        rintro w' ⟨s0, s1, s2, s3, s4, s5⟩; go_simp; with_reducible rfl
       rotate_left
       ·
        simp only [Act.put, lT, l0_, lS, i64_w, i32_w]; rfl
       refine pureE 5 (some 47) B23_9 (any_of HT_.out (by kernel_rfl)) ?_
       refine take_ (i := 6) (N := some 48) (v := ?_) (a' := ?_) B23_10 rfl rfl (take_ofW HT_.out HW_.out (by kernel_rfl)) (fun _ _ _ h => h) (Or.inl ⟨by rfl, ?_⟩) hHeld ?_ ?_; rotate_left
       ·
        rintro w' ⟨s0, s1, s2, s3, s4, s5⟩; go_simp; with_reducible rfl
       rotate_left
       ·
        simp only [Act.put, lT, l0_, lS, i64_w, i32_w]; rfl
       refine one_ (i := 1) (N := some 43) B23_11 rfl rfl (one_of HT_.out (by kernel_rfl)) (by decide) (fun K hK => ?_); refine goes_ Try.func16 (by kernel_rfl) rfl #[.agg #[.slice (some ad258) l0_0.length c0_0]] (by rfl) rfl rfl (by (try simp only [List.map_toArray, List.map_cons, List.map_nil]); first | done | rfl | (simp only [List.length_drop, List.length_take]; rfl)) ?_
       with_reducible refine (quota_Used.calls kj5 _ _ l0_0 t257 _ ?side1 ?side2 A24.out).mono ?_
       (case side1 => exact mC HR0_0 HB)
       (case side2 => exact HC0_0.out)
       rintro e w40 ⟨rfl, hb⟩; refine ⟨_, rfl, ?_⟩; replace HO_4 := kV HO_4 hb; replace BK250 := kB BK250 hb; replace BK251 := kB BK251 hb; replace HB := kH HB hb
       (try clear hb); (try clear hk)
       refine hK.out _ _ ⟨(bC BK250.out 0).trans rfl, (xC HB hw258_0), (xC HB hw258_1), (xC HB hw258_2), (xC HB hw258_3), (xC HB hw258_4)⟩ (fun hHeld => ?_); clear hK K; refine norm_ (a' := ?_) ?_ ?_; rotate_left
       ·
        show Act.put _ (some 43) _ = _
        simp only [Act.put, lT, l0_, lS, i64_w, i32_w]; rfl
       refine one_ (i := 10) (N := some 52) B23_12 rfl rfl (one_of HT_.out (by kernel_rfl)) (by decide) (fun K hK => ?_); refine goes_ Try.func22 (by kernel_rfl) rfl #[.agg #[.int .i64 ((rd_T28 l0_0 a2).f0), .int .i64 ((rd_T28 l0_0 a2).f1), .int .i64 ((rd_T28 l0_0 a2).f2), .slice A258_3 ((rd_T28 l0_0 a2).f3).length c258_3, .slice A258_4 ((rd_T28 l0_0 a2).f4).length c258_4], .int .i64 a3, .int .i64 (l4.length : Int)] (by rfl) rfl rfl (by (try simp only [List.map_toArray, List.map_cons, List.map_nil]); first | done | rfl | (simp only [List.length_drop, List.length_take]; rfl)) ?_
       with_reducible refine (quota_More.calls kj5 ((rd_T28 l0_0 a2).f0) ((rd_T28 l0_0 a2).f1) ((rd_T28 l0_0 a2).f2) _ _ ((rd_T28 l0_0 a2).f3) _ _ ((rd_T28 l0_0 a2).f4) a3 (l4.length : Int) t259 _ ?side1 ?side2 ?side3 ?side4 A27.out).mono ?_
       (case side1 => exact mC HR258_3 HB)
       (case side2 => exact HC258_3.out)
       (case side3 => exact mC HR258_4 HB)
       (case side4 => exact HC258_4.out)
       rintro e w41 ⟨rfl, hb⟩; refine ⟨_, rfl, ?_⟩; replace HO_4 := kV HO_4 hb; replace BK250 := kB BK250 hb; replace BK251 := kB BK251 hb; replace HB := kH HB hb
       (try clear hb); (try clear hk)
       refine hK.out _ _ ⟨(bC BK250.out 0).trans rfl, (xC HB hw258_0), (xC HB hw258_1), (xC HB hw258_2), (xC HB hw258_3), (xC HB hw258_4)⟩ (fun hHeld => ?_); clear hK K; refine norm_ (a' := ?_) ?_ ?_; rotate_left
       ·
        show Act.put _ (some 52) _ = _
        simp only [Act.put, lT, l0_, lS, i64_w, i32_w]; rfl
       refine pureE 11 (some 53) B23_13 (any_of HT_.out (by kernel_rfl)) ?_
       refine pureE 13 (some 55) B23_14 (any_of HT_.out (by kernel_rfl)) ?_
       refine pureE 14 (some 41) B23_15 (any_of HT_.out (by kernel_rfl)) ?_
       refine done_ (done_of HT_.out (by kernel_rfl)) ?_; have hnb42 := NB250_251.out; have hnc42 := NB251_250.out; obtain ⟨hcz43_0, hfz43_0⟩ := cY0 BK250
       try go_wp2_with (first | ((with_reducible refine gate_callee (f := 57) rfl ?_); refine goesK (some 58) Try.func57 #[.agg #[.slice (some ad258) l0_0.length c0_0]] ?_; (with_reducible refine (dir_Copy.calls kj5 _ _ l0_0 t260 _ ?side1 ?side2 A34.out).mono ?_); (case side1 => exact mC HR0_0 HB); (case side2 => exact HC0_0.out); rintro e w44 ⟨v261, rfl, ho0, hb⟩; refine ⟨_, rfl, ?_⟩; replace HO_4 := Aside0.mk (Kd.V_elder' (mV HO_4) (Kd.S_base ho0) hb); have HO262 := Aside0.mk (Kd.S_lower (Kd.S_newM (M := fun k_ => (w.heap.size ≤ k_)) ho0 (below_size (mH HB)) (fun k_ h_ => h_)) (below_size (mH HB))); replace BK250 := kB BK250 hb; replace BK251 := kB BK251 hb; replace HB := kH HB hb; (try clear hb); (try clear hk); (try clear ho0)) | ((with_reducible refine gate_dst (N := 13) rfl ?_); refine bxE 24 (cs := #[.slice none 0 0]) ?_; intro gb263 hg w45 hbox hb; replace HO_4 := Aside0.mk (Kd.V_below (Kd.V_elderB (mV HO_4) gb263 (Nat.le_of_eq hg.symm)) hb); replace HO262 := kS HO262 hb; have BK263 := Aside0.mk hbox; have GW263 := kG HB hg; have GE263 := kG HB hg; replace HB := kH HB hb; have NB250_263 := kL BK250 hg; have NB263_250 := kQ BK250 hg; replace BK250 := kB BK250 hb; have NB251_263 := kL BK251 hg; have NB263_251 := kQ BK251 hg; replace BK251 := kB BK251 hb; clear hb hbox hg; obtain ⟨Ao46, co46, eo46⟩ := Kd.S_slice HO262.out; subst eo46; have hnb47 := NB263_250.out; have hnc47 := NB250_263.out; have hnb48 := NB263_251.out; have hnc48 := NB251_263.out; obtain ⟨hcz49_0, hfz49_0⟩ := cY0 BK263) | ((with_reducible refine gate_store (t := 24) (p := 13) rfl ?_); refine store_event (t := 24) (p := 13) (v := ?vo_w50) (w1 := (w45.setCell ⟨gb263, 0, none⟩ (.slice Ao46 t260.length co46))) ?hg ?ho ?hn ?hr ?_; (case ho => rfl); (case hg => rfl); (case hn => rfl); (case hr => first | (go_simp; done) | (go_simp; rfl)); intro w50 hw; have n0_ : Aside0 (Kd.V (Kd.int .u8) 5 w50 w.heap.size (fun k_ => (P4_ k_ ∨ w.heap.size ≤ k_) ∧ some k_ ≠ (.slice Ao46 t260.length co46 : Value).ownBlock ∧ k_ ≠ gb250 ∧ k_ ≠ gb251 ∧ k_ ≠ gb263) (.slice A4 l4.length c4) l4) := ⟨(by rw [hw]; exact (fV HO_4 (fun _ hk => by first | exact ⟨hk.1.1.1, ⟨hk.1.2, ⟨hk.1.1.2.1, ⟨hk.1.1.2.2, hk.2⟩⟩⟩⟩ | (go_split_ands; and_intros <;> assumption))))⟩; have n1_ : Aside0 (Kd.S k28 28 w50 w.heap.size (fun k_ => (w.heap.size ≤ k_)) (.slice Ao46 t260.length co46) t260) := ⟨(by rw [hw]; exact (fS ⟨Kd.S_types HO262.out BK263.out (by decide)⟩ (fun _ hk => hk.1.1)))⟩; have n2_ : Aside0 (w50.heap[gb250]? = some (.cells #[.slice (some ad258) l0_0.length c0_0] 24 (0, 0))) := ⟨(by rw [hw]; exact (mF BK250))⟩; have n3_ : Aside0 (w50.heap[gb251]? = some (.cells #[.slice none 0 0] 24 (0, 0))) := ⟨(by rw [hw]; exact (mF BK251))⟩; have n4_ : Aside0 (w50.heap[gb263]? = some (.cells #[.slice Ao46 t260.length co46] 24 (0, 0))) := ⟨(by rw [hw]; exact (pP BK263))⟩; have n5_ : Aside0 (Below w.heap.size w w50) := ⟨(by rw [hw]; exact (mH HB))⟩; clear hw; clear HO_4; clear HO262; clear BK250; clear BK251; clear BK263; clear HB; have HO_4 := n0_; have HO262 := n1_; have BK250 := n2_; have BK251 := n3_; have BK263 := n4_; have HB := n5_; clear n0_ n1_ n2_ n3_ n4_ n5_; obtain ⟨hcz51_0, hfz51_0⟩ := cY0 BK263; have p264 : 0 ≤ (a2 : Int) := dT; have q264 : a2 < (t260.length : Int) := dT; obtain ⟨ad264, A264_3, c264_3, A264_4, c264_4, e264, hx264_0, hx264_1, hx264_2, hx264_3, hx264_4, hl264_3, hi264_3, hl264_4, hi264_4⟩ := at_T28 (Kd.S_reads' HO262.out).2.2 a2 p264 q264; cases e264; obtain ⟨ce264, hce264, hMe264, hcc264⟩ := Kd.S_get HO262.out z28 a2 p264 (by first | exact q264 | exact dT | (have e_ := (Kd.S_reads' HO262.out).1; omega)); obtain ⟨ve264_3, ve264_4, rfl, ge264_3, ge264_4⟩ := k28_openM hMe264; have hv264_3 := hcc264 3 _ rfl; rw [add_field _ _ 3 (by omega)] at hv264_3; replace hv264_3 := Option.some.inj (hv264_3.symm.trans hx264_3); rw [hv264_3] at ge264_3; have HL264_3 := Aside0.mk (show Kd.R (Kd.int .i64) 3 _ _ _ _ ((rd_T28 t260 a2).f3) from ge264_3); clear hv264_3 ge264_3; have hv264_4 := hcc264 4 _ rfl; rw [add_field _ _ 4 (by omega)] at hv264_4; replace hv264_4 := Option.some.inj (hv264_4.symm.trans hx264_4); rw [hv264_4] at ge264_4; have HL264_4 := Aside0.mk (show Kd.R k78 78 _ _ _ _ ((rd_T28 t260 a2).f4) from ge264_4); clear hv264_4 ge264_4; clear hcc264 hce264; have HR264_3 := Aside0.mk hi264_3; have HC264_3 := Aside0.mk hl264_3; clear hi264_3 hl264_3; have HR264_4 := Aside0.mk hi264_4; have HC264_4 := Aside0.mk hl264_4; clear hi264_4 hl264_4; replace p264 := eq_true p264; replace q264 := eq_true q264; have p265 : 0 ≤ (a2 : Int) := dT; have q265 : a2 < (t260.length : Int) := dT; obtain ⟨ad265, A265_3, c265_3, A265_4, c265_4, e265, hx265_0, hx265_1, hx265_2, hx265_3, hx265_4, hl265_3, hi265_3, hl265_4, hi265_4⟩ := at_T28 (Kd.S_reads' HO262.out).2.2 a2 p265 q265; obtain rfl : ad264 = ad265 := (by injection e265); obtain ⟨ce265, hce265, hMe265, hcc265⟩ := Kd.S_get HO262.out z28 a2 p265 (by first | exact q265 | exact dT | (have e_ := (Kd.S_reads' HO262.out).1; omega)); obtain ⟨ve265_3, ve265_4, rfl, ge265_3, ge265_4⟩ := k28_openM hMe265; have hv265_3 := hcc265 3 _ rfl; rw [add_field _ _ 3 (by omega)] at hv265_3; replace hv265_3 := Option.some.inj (hv265_3.symm.trans hx265_3); rw [hv265_3] at ge265_3; have HL265_3 := Aside0.mk (show Kd.R (Kd.int .i64) 3 _ _ _ _ ((rd_T28 t260 a2).f3) from ge265_3); clear hv265_3 ge265_3; have hv265_4 := hcc265 4 _ rfl; rw [add_field _ _ 4 (by omega)] at hv265_4; replace hv265_4 := Option.some.inj (hv265_4.symm.trans hx265_4); rw [hv265_4] at ge265_4; have HL265_4 := Aside0.mk (show Kd.R k78 78 _ _ _ _ ((rd_T28 t260 a2).f4) from ge265_4); clear hv265_4 ge265_4; clear hcc265 hce265; have HR265_3 := Aside0.mk hi265_3; have HC265_3 := Aside0.mk hl265_3; clear hi265_3 hl265_3; have HR265_4 := Aside0.mk hi265_4; have HC265_4 := Aside0.mk hl265_4; clear hi265_4 hl265_4; replace p265 := eq_true p265; replace q265 := eq_true q265; have ea_ := Option.some.inj (hx264_3.symm.trans hx265_3); injection ea_ with ea_ en_ ec_; subst ea_; subst ec_; clear en_; have ea_ := Option.some.inj (hx264_4.symm.trans hx265_4); injection ea_ with ea_ en_ ec_; subst ea_; subst ec_; clear en_; have p37 : 0 ≤ (a2 : Int) := dT; have q37 : (a2 : Int) < ((t260.length : Int) : Int) := dT; obtain ⟨go37, co37, eo37, gb37, gl37, cl37, HG37⟩ := Kd.S_form HO262.out (by omega); (first | cases eo37 | (injection eo37 with ea_ en_ ec_; (first | subst ea_ | (injection ea_ with ea_; subst ea_)); subst ec_; clear en_)); have GB37 := Aside0.mk gb37; have GG37 := Aside0.mk HG37; clear gb37 gl37 HG37; (first | simp only [add_plain] at hx264_0 | skip); (first | simp only [add_plain] at hx264_1 | skip); (first | simp only [add_plain] at hx264_2 | skip); (first | simp only [add_plain] at hx264_3 | skip); (first | simp only [add_plain] at hx264_4 | skip); (first | simp only [add_plain] at hx265_0 | skip); (first | simp only [add_plain] at hx265_1 | skip); (first | simp only [add_plain] at hx265_2 | skip); (first | simp only [add_plain] at hx265_3 | skip); (first | simp only [add_plain] at hx265_4 | skip); obtain ⟨_, ce37, hcl37, hM37, hcc37, hfr37, _, _⟩ := Kd.S_elem HO262.out z28 (a2 : Int) p37 q37; obtain ⟨ve37_3, ve37_4, rfl, ge37_3, ge37_4⟩ := k28_openM hM37; have hx37_0 : w50.cell? ⟨go37, (a2 : Int).toNat * 5, none⟩ = some (.int .i64 ((rd_T28 t260 a2).f0)) := hcc37 0 _ rfl; have hx37_1 : w50.cell? ⟨go37, (a2 : Int).toNat * 5 + 1, none⟩ = some (.int .i64 ((rd_T28 t260 a2).f1)) := hcc37 1 _ rfl; have hx37_2 : w50.cell? ⟨go37, (a2 : Int).toNat * 5 + 2, none⟩ = some (.int .i64 ((rd_T28 t260 a2).f2)) := hcc37 2 _ rfl; have hx37_3 : w50.cell? ⟨go37, (a2 : Int).toNat * 5 + 3, none⟩ = some (ve37_3) := hcc37 3 _ rfl; have hx37_4 : w50.cell? ⟨go37, (a2 : Int).toNat * 5 + 4, none⟩ = some (ve37_4) := hcc37 4 _ rfl; have hf37_0 : w50.frozen? ⟨go37, (a2 : Int).toNat * 5, none⟩ = false := hfr37 0; have hf37_1 : w50.frozen? ⟨go37, (a2 : Int).toNat * 5 + 1, none⟩ = false := hfr37 1; have hf37_2 : w50.frozen? ⟨go37, (a2 : Int).toNat * 5 + 2, none⟩ = false := hfr37 2; have hf37_3 : w50.frozen? ⟨go37, (a2 : Int).toNat * 5 + 3, none⟩ = false := hfr37 3; have hf37_4 : w50.frozen? ⟨go37, (a2 : Int).toNat * 5 + 4, none⟩ = false := hfr37 4; clear hcl37 hcc37 hfr37 hM37; replace p37 := eq_true p37; replace q37 := eq_true q37; have HX52 := Aside0.mk (show Kd.S k28 28 w50 w.heap.size (fun k_ => ((fun k_ => (w.heap.size ≤ k_))) k_ ∧ ¬ ((fun _ => False)) k_) (.slice (some ⟨go37, 0, none⟩) t260.length co46) t260 from (by (with_reducible repeat (first | apply Kd.S_alloc | apply Kd.S_drewN | apply Kd.S_drew)); exact Kd.S_mono HO262.out (fun k_ hk => ⟨hk, fun e_ => e_⟩))); obtain ⟨oki52, ce52, hcl52, hM52, hcc52, hfr52, hoki52, hH52⟩ := Kd.S_elem HX52.out z28 (a2 : Int) (dT) (by have h_ : (a2 : Int) < ((t260.length : Int) : Int) := dT; first | exact h_ | (have e_ := (Kd.S_reads' HO262.out).1; omega) | simpa using h_); obtain ⟨ve52_3, ve52_4, rfl, ge52_3, ge52_4⟩ := k28_openM hM52; have HP52 := Kd.S_seg hH52 (dT) (by have h_ : (a2 : Int) < ((t260.length : Int) : Int) := dT; first | exact h_ | (have e_ := (Kd.S_reads' HO262.out).1; omega) | simpa using h_) (seg := [.int .i64 ji36]) (j := 2) (show 3 ≤ 5 from by decide) (x' := (⟨(rd_T28 t260 a2).f0, (rd_T28 t260 a2).f1, ji36, (rd_T28 t260 a2).f3, (rd_T28 t260 a2).f4⟩ : S28)) (k28_mkM _ _ _ (⟨(rd_T28 t260 a2).f0, (rd_T28 t260 a2).f1, ji36, (rd_T28 t260 a2).f3, (rd_T28 t260 a2).f4⟩ : S28) (Kd.R_mono ge52_3 (fun _ h_ => Or.inl h_)) (Kd.R_mono ge52_4 (fun _ h_ => Or.inl h_))) (fun _ hk => hk) (fun k_ hk_ => hk_.elim); have hx52_2 := hcc52 2 _ rfl; (try simp only [show (k28).sz = 5 from rfl, Nat.mul_one, Nat.add_zero] at hx52_2); have hf52_2 := hfr52 2; (try simp only [show (k28).sz = 5 from rfl, Nat.mul_one, Nat.add_zero] at hf52_2); clear hcl52 hcc52 hfr52 hM52 hoki52 hH52) | ((with_reducible refine gate_store (t := 3) (p := 74) rfl ?_); refine store_event (t := 3) (p := 74) (v := ?vo_w53) (w1 := (w50.setCell ⟨go37, (a2 : Int).toNat * 5 + 2, none⟩ (.int .i64 ji36))) ?hg ?ho ?hn ?hr ?_; (case ho => rfl); (case hg => rfl); (case hn => rfl); (case hr => first | (go_simp; done) | (go_simp; rfl)); intro w53 hw; have hg : w50.grownBy w53 (some go37) := (by rw [hw]; exact HP52.2); have hp_ : Kd.S k28 28 w53 w.heap.size (fun k_ => (w.heap.size ≤ k_)) (.slice (some ⟨go37, 0, none⟩) t260.length co46) y266 := (by rw [hw, Ny266.out]; exact HP52.1); clear HP52; replace HO_4 := Aside0.mk (Kd.V_afterv (v := (.slice (some ⟨go37, 0, none⟩) t260.length co46)) (v1 := (.slice (some ⟨go37, 0, none⟩) t260.length co46)) (ok := (fun k_ => (P4_ k_ ∨ w.heap.size ≤ k_) ∧ k_ ≠ gb250 ∧ k_ ≠ gb251 ∧ k_ ≠ gb263)) (by (with_reducible repeat (first | apply Kd.V_alloc | apply Kd.V_drewN | apply Kd.V_drew)); exact Kd.V_mono HO_4.out (fun _ hk => by first | exact ⟨⟨hk.1, ⟨hk.2.2.1, ⟨hk.2.2.2.1, hk.2.2.2.2⟩⟩⟩, hk.2.1⟩ | (go_split_ands; and_intros <;> assumption))) hg (.inl rfl)); replace BK250 := Aside0.mk (blk_grown (g := gb250) (o := .cells #[.slice (some ad258) l0_0.length c0_0] 24 (0, 0)) (mB BK250) hg (Kd.S_ne HO262.out BK250.out (by decide))); replace BK251 := Aside0.mk (blk_grown (g := gb251) (o := .cells #[.slice none 0 0] 24 (0, 0)) (mB BK251) hg (Kd.S_ne HO262.out BK251.out (by decide))); replace BK263 := Aside0.mk (blk_grown (g := gb263) (o := .cells #[.slice (some ⟨go37, 0, none⟩) t260.length co46] 24 (0, 0)) (mB BK263) hg (Kd.S_ne HO262.out BK263.out (by decide))); replace HO262 := Aside0.mk (hp_); replace HL264_3 := Aside0.mk (Kd.R_after (v := (.slice (some ⟨go37, 0, none⟩) t260.length co46)) (v1 := (.slice (some ⟨go37, 0, none⟩) t260.length co46)) (ok := (fun k_ => (w.heap.size ≤ k_))) (mR HL264_3) hg (.inl rfl)); replace HL264_4 := Aside0.mk (Kd.R_after (v := (.slice (some ⟨go37, 0, none⟩) t260.length co46)) (v1 := (.slice (some ⟨go37, 0, none⟩) t260.length co46)) (ok := (fun k_ => (w.heap.size ≤ k_))) (mR HL264_4) hg (.inl rfl)); replace HL265_3 := Aside0.mk (Kd.R_after (v := (.slice (some ⟨go37, 0, none⟩) t260.length co46)) (v1 := (.slice (some ⟨go37, 0, none⟩) t260.length co46)) (ok := (fun k_ => (w.heap.size ≤ k_))) (mR HL265_3) hg (.inl rfl)); replace HL265_4 := Aside0.mk (Kd.R_after (v := (.slice (some ⟨go37, 0, none⟩) t260.length co46)) (v1 := (.slice (some ⟨go37, 0, none⟩) t260.length co46)) (ok := (fun k_ => (w.heap.size ≤ k_))) (mR HL265_4) hg (.inl rfl)); replace HB := Aside0.mk ((by rw [hw]; exact wS (HB.out) GB37.out : Below w.heap.size w w53)); clear hg hw hp_) | ((with_reducible refine gate_callee (f := 49) rfl ?_); refine goesK (some 78) Try.func49 #[.int .i64 a3, .int .i64 (l4.length : Int)] ?_; (with_reducible refine (span_Pieces.calls kj5 a3 (l4.length : Int) t267 _ A38.out).mono ?_); rintro e w54 ⟨v268, rfl, ho0, hb⟩; refine ⟨_, rfl, ?_⟩; replace HO_4 := Aside0.mk (Kd.V_elder' (mV HO_4) (Kd.R_base ho0) hb); replace HO262 := kS HO262 hb; replace HL264_3 := kR HL264_3 hb; replace HL264_4 := kR HL264_4 hb; replace HL265_3 := kR HL265_3 hb; replace HL265_4 := kR HL265_4 hb; have HO269 := Aside0.mk (Kd.R_lower (Kd.R_newM (M := fun k_ => (w.heap.size ≤ k_)) ho0 (below_size (mH HB)) (fun k_ h_ => h_)) (below_size (mH HB))); replace BK250 := kB BK250 hb; replace BK251 := kB BK251 hb; replace BK263 := kB BK263 hb; replace HB := kH HB hb; (try clear hb); (try clear hk); (try clear ho0); obtain ⟨Ao55, co55, eo55⟩ := Kd.R_slice HO269.out; subst eo55))
       go_loopg [4, 15, 80] kj5 (fun kq v4 v15 v80 w' => ∃ (x4_2 : List Int) (x15_2 : List (S60)) (x80_2 : Int), v80 = .int .i64 x80_2 ∧ Aside0 (file_Write.l0 kq a2 x4_2 x15_2 t267 (t267.length : Int) x80_2 y266 = some (r1, r2, r3)) ∧ Aside0 (kq ≤ kj5) ∧ Aside0 (Kd.V (Kd.int .u8) 5 w' w.heap.size (fun k_ => (P4_ k_ ∨ w.heap.size ≤ k_) ∧ some k_ ≠ (v15 : Value).ownBlock ∧ some k_ ≠ ((.slice Ao55 t267.length co55) : Value).ownBlock ∧ some k_ ≠ ((.slice (some ⟨go37, 0, none⟩) t260.length co46) : Value).ownBlock ∧ k_ ≠ gb250 ∧ k_ ≠ gb251 ∧ k_ ≠ gb263) v4 x4_2) ∧ Aside0 (Kd.S k60 60 w' w.heap.size (fun k_ => (w.heap.size ≤ k_)) v15 x15_2) ∧ Aside0 (Kd.R k41 41 w' w.heap.size (fun k_ => (w.heap.size ≤ k_)) (.slice Ao55 t267.length co55) t267) ∧ Aside0 (Kd.S k28 28 w' w.heap.size (fun k_ => (w.heap.size ≤ k_)) (.slice (some ⟨go37, 0, none⟩) t260.length co46) y266) ∧ Aside0 (w'.heap[gb250]? = some (.cells #[(.slice (some ad258) l0_0.length c0_0)] 24 (0, 0))) ∧ Aside0 (w'.heap[gb251]? = some (.cells #[(.slice none 0 0)] 24 (0, 0))) ∧ Aside0 (w'.heap[gb263]? = some (.cells #[(.slice (some ⟨go37, 0, none⟩) t260.length co46)] 24 (0, 0))) ∧ Aside0 (Below w.heap.size w w'))
       case atStart => exact ⟨(l4), (([] : List (S60))), (0), sI, H', ⟨Nat.le_refl _⟩, ⟨by (with_reducible repeat (first | apply Kd.V_alloc | apply Kd.V_drewN | apply Kd.V_drew)); exact Kd.V_mono HO_4.out (fun _ hk => ⟨hk.1.1.1, ⟨(by simp [Value.ownBlock]), ⟨hk.2, ⟨hk.1.2, ⟨hk.1.1.2.1, ⟨hk.1.1.2.2.1, hk.1.1.2.2.2⟩⟩⟩⟩⟩⟩)⟩, ⟨by first | exact Kd.S_nil _ _ _ _ _ | exact Kd.N_nil _ _ _ _ _ | exact Kd.V_nil _ _ _ _ _ | exact Kd.Q_nil _ _ _ _ _ | exact Kd.R_nil _ _ _ _ _⟩, ⟨by (with_reducible repeat (first | apply Kd.R_alloc | apply Kd.R_drewN | apply Kd.R_drew)); exact Kd.R_mono HO269.out (fun _ hk => hk.1)⟩, ⟨mS HO262⟩, ⟨mB BK250⟩, ⟨mB BK251⟩, ⟨mB BK263⟩, ⟨mH HB⟩⟩
       case round =>
        clear H'
        (try clear c4); (try clear c14); (try clear c15); (try clear c15b0); (try clear c15b1); (try clear c15b2); (try clear c23); (try clear c25); (try clear c25b0); (try clear c26); (try clear c26b0); (try clear c28); (try clear c28b0); (try clear c35); (try clear c35b0); (try clear p37); (try clear q37); (try clear hcz43_0); (try clear hcz49_0); (try clear hcz51_0); (try clear hfz43_0); (try clear hfz49_0); (try clear hfz51_0); (try clear hx258_0); (try clear hx258_1); (try clear hx258_2); (try clear hx258_3); (try clear hx258_4); (try clear hx264_0); (try clear hx264_1); (try clear hx264_2); (try clear hx264_3); (try clear hx264_4); (try clear hx265_0); (try clear hx265_1); (try clear hx265_2); (try clear hx265_3); (try clear hx265_4); (try clear hx37_0); (try clear hx37_1); (try clear hx37_2); (try clear hx37_3); (try clear hx37_4); (try clear hx52_2); (try clear p258); (try clear p264); (try clear p265); (try clear p37); (try clear q258); (try clear q264); (try clear q265); (try clear q37)
        obtain ⟨x4_2, x15_2, x80_2, rfl, HA, HK2, HO_4, HO_15, HO_78, HO_264000, BK250, BK251, BK263, HB⟩ := hrel; have hl264000_2 := (Kd.S_reads' HO_264000.out).1; rw [hl264000_2] at HO_264000
        (try simp only [hl264000_2])
        (try simp only [hl264000_2] at BK250)
        (try simp only [hl264000_2] at BK251)
        (try simp only [hl264000_2] at BK263)
        (try simp only [hl264000_2] at HO_4)
        (try simp only [hl264000_2] at HO_15)
        (try simp only [hl264000_2] at HO_78)
        cases gk with
        | zero => exact absurd HA.out (by simp [file_Write.l0])
        | succ k2 =>
         have H := HA.out; clear HA; simp only [file_Write.l0] at H
         by_cases c56 : x80_2 < (t267.length : Int)
         ·
          rw [if_pos c56] at H; have c56b0 := decide_eq_true c56; clear c56
          replace H := nP H; obtain ⟨c57, H⟩ := H; have c57b0 := decide_eq_true c57; clear c57
          replace H := nP H; obtain ⟨c58, H⟩ := H; have c58b0 := decide_eq_true c58; clear c58
          replace H := nP H; obtain ⟨c59, H⟩ := H; have c59b0 := decide_eq_true c59; clear c59
          replace H := nP H; obtain ⟨c60, H⟩ := H; have c60b0 := decide_eq_true c60; clear c60
          replace H := nP H; obtain ⟨c61, H⟩ := H; have c61b0 := decide_eq_true c61; clear c61
          replace H := nP H; obtain ⟨c62, H⟩ := H; have c62b0 := decide_eq_true c62; clear c62
          replace H := nP H; obtain ⟨c63, H⟩ := H; have c63b0 := eq_true c63; have c63b1 := decide_eq_true c63; clear c63
          replace H := nP H; obtain ⟨c64, H⟩ := H; have c64b0 := eq_true c64; have c64b1 := decide_eq_true c64; clear c64; obtain ⟨y274, hy274⟩ : ∃ y_ : List Int, y_ = (x4_2.take (((rd_T41 t267 x80_2).f2) : Int).toNat) := ⟨_, rfl⟩
          replace H : ((slices_Clone_byte_byte.f y274).bind fun t279 => (if x15_2.length < 2199023255552 then (file_Write.l0 k2 a2 (x4_2.drop (((rd_T41 t267 x80_2).f2) : Int).toNat) (x15_2 ++ [(⟨a2, (rd_T41 t267 x80_2).f0, rd ((rd_T28 y266 a2).f3) ((rd_T41 t267 x80_2).f0), 16, (rd_T41 t267 x80_2).f1, t279⟩ : S60)]) t267 (t267.length : Int) (wrap64 (x80_2 + 1)) y266) else (none))) = some (r1, r2, r3) := rH H hy274
          have Ny274 := Aside0.mk hy274; clear hy274; replace H := Option.bind_eq_some_iff.mp H; obtain ⟨t279, A650, H⟩ := H; have A65 := Aside0.mk A650; clear A650
          replace H := nP H; obtain ⟨c66, H⟩ := H; have LMc66 := Aside0.mk c66; clear c66; obtain ⟨y282, hy282⟩ : ∃ y_ : List (S60), y_ = (x15_2 ++ [(⟨a2, (rd_T41 t267 x80_2).f0, rd ((rd_T28 y266 a2).f3) ((rd_T41 t267 x80_2).f0), 16, (rd_T41 t267 x80_2).f1, t279⟩ : S60)]) := ⟨_, rfl⟩
          replace H : (file_Write.l0 k2 a2 (x4_2.drop (((rd_T41 t267 x80_2).f2) : Int).toNat) y282 t267 (t267.length : Int) (wrap64 (x80_2 + 1)) y266) = some (r1, r2, r3) := rH H hy282
          have Ny282 := Aside0.mk hy282; clear hy282; have c67b0 := eq_true (dT : 0 ≤ ((rd_T41 t267 x80_2).f2)); have c68b0 := eq_true (dT : ((rd_T41 t267 x80_2).f2) ≤ (x4_2.length : Int)); obtain ⟨y285, hy285⟩ : ∃ y_ : List Int, y_ = (x4_2.drop (((rd_T41 t267 x80_2).f2) : Int).toNat) := ⟨_, rfl⟩
          replace H : (file_Write.l0 k2 a2 y285 y282 t267 (t267.length : Int) (wrap64 (x80_2 + 1)) y266) = some (r1, r2, r3) := rH H hy285
          have Ny285 := Aside0.mk hy285; clear hy285; have H' := Aside0.mk H; clear H; have p270 : 0 ≤ (x80_2 : Int) := dT; have q270 : x80_2 < (t267.length : Int) := dT; obtain ⟨ad270, e270, hx270_0, hx270_1, hx270_2⟩ := at_T41 (Kd.R_reads' HO_78.out).2.2 x80_2 p270 q270
          cases e270
          replace p270 := eq_true p270; replace q270 := eq_true q270
          try go_wp2_with (first | ((with_reducible refine gate_dst (N := 17) rfl ?_); refine bxE 41 (cs := #[.int .i64 0, .int .i64 0, .int .i64 0]) ?_; intro gb271 hg w69 hbox hb; replace HO_4 := Aside0.mk (Kd.V_below (Kd.V_elderB (mV HO_4) gb271 (Nat.le_of_eq hg.symm)) hb); replace HO_15 := kS HO_15 hb; replace HO_78 := Aside0.mk (Kd.R_below (Kd.R_elderB (mR HO_78) gb271 (Nat.le_of_eq hg.symm)) hb); replace HO_264000 := kS HO_264000 hb; have BK271 := Aside0.mk hbox; have GW271 := kG HB hg; have GE271 := kG HB hg; replace HB := kH HB hb; have NB250_271 := kL BK250 hg; have NB271_250 := kQ BK250 hg; replace BK250 := kB BK250 hb; have NB251_271 := kL BK251 hg; have NB271_251 := kQ BK251 hg; replace BK251 := kB BK251 hb; have NB263_271 := kL BK263 hg; have NB271_263 := kQ BK263 hg; replace BK263 := kB BK263 hb; clear hb hbox hg; have hnb70 := NB271_250.out; have hnc70 := NB250_271.out; have hnb71 := NB271_251.out; have hnc71 := NB251_271.out; have hnb72 := NB271_263.out; have hnc72 := NB263_271.out; obtain ⟨hcz73_0, hfz73_0⟩ := cY0 BK271; obtain ⟨hcz73_1, hfz73_1⟩ := cY1 BK271; obtain ⟨hcz73_2, hfz73_2⟩ := cY2 BK271))
          obtain ⟨w74, hw_, n_⟩ : ∃ W_, ((w69.setCell ⟨gb271, 0, none⟩ (.int .i64 ((rd_T41 t267 x80_2).f0))).setCell ⟨gb271, 1, none⟩ (.int .i64 ((rd_T41 t267 x80_2).f1))).setCell ⟨gb271, 2, none⟩ (.int .i64 ((rd_T41 t267 x80_2).f2)) = W_ ∧ Aside0 (Kd.V (Kd.int .u8) 5 W_ w.heap.size (fun k_ => (P4_ k_ ∨ w.heap.size ≤ k_) ∧ some k_ ≠ (u15 : Value).ownBlock ∧ some k_ ≠ (.slice (some ad270) t267.length co55 : Value).ownBlock ∧ some k_ ≠ (.slice (some ⟨go37, 0, none⟩) y266.length co46 : Value).ownBlock ∧ k_ ≠ gb250 ∧ k_ ≠ gb251 ∧ k_ ≠ gb263 ∧ k_ ≠ gb271) u4 x4_2) ∧ Aside0 (Kd.S k60 60 W_ w.heap.size (fun k_ => (w.heap.size ≤ k_)) u15 x15_2) ∧ Aside0 (Kd.R k41 41 W_ w.heap.size (fun k_ => (w.heap.size ≤ k_) ∧ k_ ≠ gb271) (.slice (some ad270) t267.length co55) t267) ∧ Aside0 (Kd.S k28 28 W_ w.heap.size (fun k_ => (w.heap.size ≤ k_)) (.slice (some ⟨go37, 0, none⟩) y266.length co46) y266) ∧ Aside0 (W_.heap[gb250]? = some (.cells #[.slice (some ad258) l0_0.length c0_0] 24 (0, 0))) ∧ Aside0 (W_.heap[gb251]? = some (.cells #[.slice none 0 0] 24 (0, 0))) ∧ Aside0 (W_.heap[gb263]? = some (.cells #[.slice (some ⟨go37, 0, none⟩) y266.length co46] 24 (0, 0))) ∧ Aside0 (W_.heap[gb271]? = some (.cells #[.int .i64 ((rd_T41 t267 x80_2).f0), .int .i64 ((rd_T41 t267 x80_2).f1), .int .i64 ((rd_T41 t267 x80_2).f2)] 41 (0, 0))) ∧ Aside0 (Below w.heap.size w W_) := ⟨_, rfl, ⟨fV HO_4 (fun _ hk => by first | exact ⟨hk.1.1, ⟨hk.1.2.1, ⟨hk.1.2.2.1, ⟨hk.1.2.2.2.1, ⟨hk.1.2.2.2.2.1, ⟨hk.1.2.2.2.2.2.1, ⟨hk.1.2.2.2.2.2.2, hk.2⟩⟩⟩⟩⟩⟩⟩ | (go_split_ands; and_intros <;> assumption))⟩, ⟨fS ⟨Kd.S_types HO_15.out BK271.out (by decide)⟩⟩, ⟨fR HO_78 (fun _ hk => by first | exact ⟨hk.1, hk.2⟩ | (go_split_ands; and_intros <;> assumption))⟩, ⟨fS ⟨Kd.S_types HO_264000.out BK271.out (by decide)⟩⟩, ⟨mF BK250⟩, ⟨mF BK251⟩, ⟨mF BK263⟩, ⟨pP BK271⟩, ⟨mH HB⟩⟩
          (try clear HO_4); (try clear HO_15); (try clear HO_78); (try clear HO_264000); (try clear BK250); (try clear BK251); (try clear BK263); (try clear BK271); (try clear HB); rewrite [hw_]; clear hw_; obtain ⟨HO_4, HO_15, HO_78, HO_264000, BK250, BK251, BK263, BK271, HB⟩ := n_; replace HO_4 := Aside0.mk (Kd.V_drew HO_4.out); replace HO_15 := Aside0.mk (Kd.S_drew HO_15.out); replace HO_78 := Aside0.mk (Kd.R_drew HO_78.out); replace HO_264000 := Aside0.mk (Kd.S_drew HO_264000.out); replace BK250 := Aside0.mk (bD BK250.out); replace BK251 := Aside0.mk (bD BK251.out); replace BK263 := Aside0.mk (bD BK263.out); replace BK271 := Aside0.mk (bD BK271.out); replace HB := Aside0.mk (wD HB.out); have p272 : 0 ≤ (a2 : Int) := dT; have q272 : a2 < (y266.length : Int) := dT; obtain ⟨ad272, A272_3, c272_3, A272_4, c272_4, e272, hx272_0, hx272_1, hx272_2, hx272_3, hx272_4, hl272_3, hi272_3, hl272_4, hi272_4⟩ := at_T28 (Kd.S_reads' HO_264000.out).2.2 a2 p272 q272; obtain rfl : (⟨go37, 0, none⟩ : Addr) = ad272 := (by injection e272); obtain ⟨ce272, hce272, hMe272, hcc272⟩ := Kd.S_get HO_264000.out z28 a2 p272 (by first | exact q272 | exact dT | (have e_ := (Kd.S_reads' HO_264000.out).1; omega))
          obtain ⟨ve272_3, ve272_4, rfl, ge272_3, ge272_4⟩ := k28_openM hMe272; have hv272_3 := hcc272 3 _ rfl; rw [add_field _ _ 3 (by omega)] at hv272_3; replace hv272_3 := Option.some.inj (hv272_3.symm.trans hx272_3); rw [hv272_3] at ge272_3; have HL272_3 := Aside0.mk (show Kd.R (Kd.int .i64) 3 _ _ _ _ ((rd_T28 y266 a2).f3) from ge272_3); clear hv272_3 ge272_3; have hv272_4 := hcc272 4 _ rfl; rw [add_field _ _ 4 (by omega)] at hv272_4; replace hv272_4 := Option.some.inj (hv272_4.symm.trans hx272_4); rw [hv272_4] at ge272_4; have HL272_4 := Aside0.mk (show Kd.R k78 78 _ _ _ _ ((rd_T28 y266 a2).f4) from ge272_4); clear hv272_4 ge272_4; clear hcc272 hce272
          (first | simp only [add_plain] at hx272_0 | simp only [add_at] at hx272_0 | simp only [Addr.add, Nat.zero_add] at hx272_0 | skip)
          (first | simp only [add_plain] at hx272_1 | simp only [add_at] at hx272_1 | simp only [Addr.add, Nat.zero_add] at hx272_1 | skip)
          (first | simp only [add_plain] at hx272_2 | simp only [add_at] at hx272_2 | simp only [Addr.add, Nat.zero_add] at hx272_2 | skip)
          (first | simp only [add_plain] at hx272_3 | simp only [add_at] at hx272_3 | simp only [Addr.add, Nat.zero_add] at hx272_3 | skip)
          (first | simp only [add_plain] at hx272_4 | simp only [add_at] at hx272_4 | simp only [Addr.add, Nat.zero_add] at hx272_4 | skip)
          have HR272_3 := Aside0.mk hi272_3; have HC272_3 := Aside0.mk hl272_3; clear hi272_3 hl272_3; have HR272_4 := Aside0.mk hi272_4; have HC272_4 := Aside0.mk hl272_4; clear hi272_4 hl272_4; replace p272 := eq_true p272; replace q272 := eq_true q272; have p273 : 0 ≤ (((rd_T41 t267 x80_2).f0) : Int) := dT; have q273 : ((rd_T41 t267 x80_2).f0) < (((rd_T28 y266 a2).f3).length : Int) := dT; obtain ⟨ad273, e273, hx273_0⟩ := Kd.at_int (by repeat (first | (with_reducible exact HR272_3.out) | (with_reducible refine Kd.C_alloc ?_ _) | (with_reducible refine Kd.C_drewN ?_ _) | (with_reducible refine Kd.C_drew ?_) | exact HR272_3.out)) ((rd_T41 t267 x80_2).f0) p273 q273
          cases e273
          replace p273 := eq_true p273; replace q273 := eq_true q273; obtain ⟨Ao77, co77, eo77⟩ := Kd.V_slice HO_4.out
          (first | subst eo77 | (injection eo77 with f1_ f2_ f3_; have f4_ := f1_.symm; have f5_ := f3_.symm; clear f1_ f2_ f3_; subst f4_; subst f5_))
          have q76 : (((rd_T41 t267 x80_2).f2) : Int) ≤ ((x4_2.length : Int) : Int) := dT; obtain ⟨i076, hi076, _, hsz76, _⟩ := info_parts info5; have hroom76 : x4_2.length ≤ co77 := (Kd.V_reads' HO_4.out).2.1; have hC76 : Kd.F (Kd.int .u8) _ _ Ao77 x4_2.length x4_2 := (Kd.V_at (base := w.heap.size) HO_4.out).2.2; have hcut76 := cut_to (P := Try.prog) 50 5 .i64 Try.underlying50 hi076 Ao77 x4_2.length co77 ((rd_T41 t267 x80_2).f2) (dT) q76 hroom76; have hr76 := Kd.F_take (m := (((rd_T41 t267 x80_2).f2) : Int).toNat) hC76 (by omega); have hy76 : y274.length = (((rd_T41 t267 x80_2).f2) : Int).toNat := (by rw [Ny274.out, List.length_take]; omega)
          rw [← Ny274.out] at hr76; rw [← hy76] at hcut76; have HO278 := Aside0.mk (show Kd.V (Kd.int .u8) 5 _ w.heap.size _ (.slice Ao77 y274.length co77) y274 from Kd.V_mk (by omega) hr76); have HC278 := Aside0.mk (show y274.length ≤ co77 from by omega); clear hr76 hC76 hroom76 hi076 hsz76; have KY76 := Aside0.mk hy76; clear hy76; replace q76 := eq_true q76; refine start_ (n := 23) (S := fun w' => w'.cell? ⟨gb271, 0, none⟩ = some (.int .i64 ((rd_T41 t267 x80_2).f0)) ∧ w'.cell? ⟨gb271, 1, none⟩ = some (.int .i64 ((rd_T41 t267 x80_2).f1)) ∧ w'.cell? ⟨gb271, 2, none⟩ = some (.int .i64 ((rd_T41 t267 x80_2).f2)) ∧ w'.cell? ⟨go37, (a2).toNat * 5, none⟩ = some (.int .i64 ((rd_T28 y266 a2).f0)) ∧ w'.cell? ⟨go37, (a2).toNat * 5 + 1, none⟩ = some (.int .i64 ((rd_T28 y266 a2).f1)) ∧ w'.cell? ⟨go37, (a2).toNat * 5 + 2, none⟩ = some (.int .i64 ((rd_T28 y266 a2).f2)) ∧ w'.cell? ⟨go37, (a2).toNat * 5 + 3, none⟩ = some (.slice (some ad273) ((rd_T28 y266 a2).f3).length c272_3) ∧ w'.cell? ⟨go37, (a2).toNat * 5 + 4, none⟩ = some (.slice A272_4 ((rd_T28 y266 a2).f4).length c272_4) ∧ w'.cell? (ad273.add (((rd_T41 t267 x80_2).f0)).toNat) = some (.int .i64 (rd ((rd_T28 y266 a2).f3) ((rd_T41 t267 x80_2).f0)))) (ds := [20, 21]) B23_16 (by kernel_rfl) rfl rfl ⟨(bC BK271.out 0).trans rfl, (bC BK271.out 1).trans rfl, (bC BK271.out 2).trans rfl, hx272_0, hx272_1, hx272_2, hx272_3, hx272_4, hx273_0⟩ (fun hHeld => ?_); refine with_tabW file_Write.tab16 file_Write.bits16 (fun HT_ HW_ => ?_); generalize w74.drew = w75 at HO_4 HO_15 HO_78 HO_264000 BK250 BK251 BK263 BK271 HB HL272_3 HL272_4 HO278 HR272_3 HR272_4 hx272_0 hx272_1 hx272_2 hx272_3 hx272_4 hx273_0 hHeld ⊢; refine pure_ (i := 0) (N := some 84) (v := ?_) (a' := ?_) B23_17 rfl rfl (any_of HT_.out (by kernel_rfl)) (fun _ _ _ h => h) (Or.inl ⟨by rfl, ?_⟩) ?_ ?_; rotate_left
          ·
           intro w'; go_simp; with_reducible rfl
          rotate_left
          ·
           simp only [Act.put, lT, l0_, lS, i64_w, i32_w]; rfl
          refine pureE 1 (some 85) B23_18 (any_of HT_.out (by kernel_rfl)) ?_
          refine pureE 2 (some 86) B23_19 (any_of HT_.out (by kernel_rfl)) ?_
          refine pureE 4 (some 88) B23_20 (any_of HT_.out (by kernel_rfl)) ?_
          refine pureE 5 (some 89) B23_21 (any_of HT_.out (by kernel_rfl)) ?_
          refine pureE 6 (some 90) B23_22 (any_of HT_.out (by kernel_rfl)) ?_
          refine pureE 8 (some 92) B23_23 (any_of HT_.out (by kernel_rfl)) ?_
          refine pureE 12 (some 96) B23_24 (any_of HT_.out (by kernel_rfl)) ?_
          refine pureE 14 (some 98) B23_25 (any_of HT_.out (by kernel_rfl)) ?_
          refine pureE 15 (some 99) B23_26 (any_of HT_.out (by kernel_rfl)) ?_
          refine take_ (i := 3) (N := some 87) (v := ?_) (a' := ?_) B23_27 rfl rfl (take_ofW HT_.out HW_.out (by kernel_rfl)) (fun _ _ _ h => h) (Or.inl ⟨by rfl, ?_⟩) hHeld ?_ ?_; rotate_left
          ·
           rintro w' ⟨s0, s1, s2, s3, s4, s5, s6, s7, s8⟩; go_simp; with_reducible rfl
          rotate_left
          ·
           simp only [Act.put, lT, l0_, lS, i64_w, i32_w]; rfl
          refine take_ (i := 7) (N := some 91) (v := ?_) (a' := ?_) B23_28 rfl rfl (take_ofW HT_.out HW_.out (by kernel_rfl)) (fun _ _ _ h => h) (Or.inl ⟨by rfl, ?_⟩) hHeld ?_ ?_; rotate_left
          ·
           rintro w' ⟨s0, s1, s2, s3, s4, s5, s6, s7, s8⟩; go_simp; with_reducible rfl
          rotate_left
          ·
           simp only [Act.put, lT, l0_, lS, i64_w, i32_w]; rfl
          refine take_ (i := 9) (N := some 93) (v := ?_) (a' := ?_) B23_29 rfl rfl (take_ofW HT_.out HW_.out (by kernel_rfl)) (fun _ _ _ h => h) (Or.inl ⟨by rfl, ?_⟩) hHeld ?_ ?_; rotate_left
          ·
           rintro w' ⟨s0, s1, s2, s3, s4, s5, s6, s7, s8⟩; go_simp; with_reducible rfl
          rotate_left
          ·
           simp only [Act.put, lT, l0_, lS, i64_w, i32_w]; rfl
          refine pureE 10 (some 94) B23_30 (any_of HT_.out (by kernel_rfl)) ?_
          refine take_ (i := 11) (N := some 95) (v := ?_) (a' := ?_) B23_31 rfl rfl (take_ofW HT_.out HW_.out (by kernel_rfl)) (fun _ _ _ h => h) (Or.inl ⟨by rfl, ?_⟩) hHeld ?_ ?_; rotate_left
          ·
           rintro w' ⟨s0, s1, s2, s3, s4, s5, s6, s7, s8⟩; go_simp; with_reducible rfl
          rotate_left
          ·
           simp only [Act.put, lT, l0_, lS, i64_w, i32_w]; rfl
          refine take_ (i := 13) (N := some 97) (v := ?_) (a' := ?_) B23_32 rfl rfl (take_ofW HT_.out HW_.out (by kernel_rfl)) (fun _ _ _ h => h) (Or.inl ⟨by rfl, ?_⟩) hHeld ?_ ?_; rotate_left
          ·
           rintro w' ⟨s0, s1, s2, s3, s4, s5, s6, s7, s8⟩; go_simp; with_reducible rfl
          rotate_left
          ·
           simp only [Act.put, lT, l0_, lS, i64_w, i32_w]; rfl
          refine take_ (i := 16) (N := some 100) (v := ?_) (a' := ?_) B23_33 rfl rfl (take_ofW HT_.out HW_.out (by kernel_rfl)) (fun _ _ _ h => h) (Or.inl ⟨by rfl, ?_⟩) hHeld ?_ ?_; rotate_left
          ·
           rintro w' ⟨s0, s1, s2, s3, s4, s5, s6, s7, s8⟩; go_simp; with_reducible rfl
          rotate_left
          ·
           simp only [Act.put, lT, l0_, lS, i64_w, i32_w]; rfl
          refine pureE 17 (some 101) B23_34 (any_of HT_.out (by kernel_rfl)) ?_
          refine one_ (i := 18) (N := some 102) B23_35 rfl rfl (one_of HT_.out (by kernel_rfl)) (by decide) (fun K hK => ?_); refine goes_ Try.func59 (by kernel_rfl) rfl #[.slice Ao77 y274.length co77] (by rfl) rfl rfl (by (try simp only [List.map_toArray, List.map_cons, List.map_nil]); first | done | rfl | (simp only [List.length_drop, List.length_take]; rfl)) ?_
          with_reducible refine (slices_Clone_byte_byte.calls _ _ y274 t279 _ ?side1 ?side2 A65.out).mono ?_
          (case side1 => repeat (first | exact (Kd.V_reads' HO278.out).2.2 | (with_reducible refine Kd.C_alloc ?_ _) | (with_reducible refine Kd.C_drewN ?_ _) | (with_reducible refine Kd.C_drew ?_)))
          (case side2 => exact (Kd.V_reads' HO278.out).2.1)
          rintro e w78 ⟨v280, rfl, ho0, hb⟩; have HS3_ := (hb.cell (World.block_lt_of_cell? _ _ (hHeld.2.2.2.1))).trans (hHeld.2.2.2.1); have HS4_ := (hb.cell (World.block_lt_of_cell? _ _ (hHeld.2.2.2.2.1))).trans (hHeld.2.2.2.2.1); have HS5_ := (hb.cell (World.block_lt_of_cell? _ _ (hHeld.2.2.2.2.2.1))).trans (hHeld.2.2.2.2.2.1); have HS6_ := (hb.cell (World.block_lt_of_cell? _ _ (hHeld.2.2.2.2.2.2.1))).trans (hHeld.2.2.2.2.2.2.1); have HS7_ := (hb.cell (World.block_lt_of_cell? _ _ (hHeld.2.2.2.2.2.2.2.1))).trans (hHeld.2.2.2.2.2.2.2.1); have HS8_ := (hb.cell (World.block_lt_of_cell? _ _ (hHeld.2.2.2.2.2.2.2.2))).trans (hHeld.2.2.2.2.2.2.2.2); refine ⟨_, rfl, ?_⟩; replace HO_4 := Aside0.mk (Kd.V_elder' (mV HO_4) (Kd.R_base ho0) hb); replace HO_15 := Aside0.mk (Kd.S_elder' (mS HO_15) (Kd.R_base ho0) hb); replace HO_78 := kR HO_78 hb; replace HO_264000 := kS HO_264000 hb; replace HL272_3 := kR HL272_3 hb; replace HL272_4 := kR HL272_4 hb; replace HO278 := Aside0.mk (Kd.V_elder' (mV HO278) (Kd.R_base ho0) hb); have HO281 := Aside0.mk (Kd.R_lower (Kd.R_newM (M := fun k_ => (w.heap.size ≤ k_)) ho0 (below_size (mH HB)) (fun k_ h_ => h_)) (below_size (mH HB))); replace BK250 := kB BK250 hb; replace BK251 := kB BK251 hb; replace BK263 := kB BK263 hb; replace BK271 := kB BK271 hb; replace HR272_3 := Aside0.mk (Kd.C_below (by repeat (first | (with_reducible exact HR272_3.out) | (with_reducible refine Kd.C_alloc ?_ _) | (with_reducible refine Kd.C_drewN ?_ _) | (with_reducible refine Kd.C_drew ?_) | exact HR272_3.out)) hb); replace HR272_4 := Aside0.mk (Kd.C_below (by repeat (first | (with_reducible exact HR272_4.out) | (with_reducible refine Kd.C_alloc ?_ _) | (with_reducible refine Kd.C_drewN ?_ _) | (with_reducible refine Kd.C_drew ?_) | exact HR272_4.out)) hb); replace HB := kH HB hb
          (try clear hb); (try clear hk); (try clear ho0)
          obtain ⟨Ao79, co79, eo79⟩ := Kd.R_slice HO281.out
          (first | subst eo79 | (injection eo79 with f1_ f2_ f3_; have f4_ := f1_.symm; have f5_ := f3_.symm; clear f1_ f2_ f3_; subst f4_; subst f5_))
          refine hK.out _ _ ⟨(bC BK271.out 0).trans rfl, (bC BK271.out 1).trans rfl, (bC BK271.out 2).trans rfl, HS3_, HS4_, HS5_, HS6_, HS7_, HS8_⟩ (fun hHeld => ?_); clear hK K; refine norm_ (a' := ?_) ?_ ?_; rotate_left
          ·
           show Act.put _ (some 102) _ = _
           simp only [Act.put, lT, l0_, lS, i64_w, i32_w]; rfl
          refine pureE 19 (some 103) B23_36 (any_of HT_.out (by kernel_rfl)) ?_
          refine last_ (i := 20) (N := some 104) B23_37 rfl rfl (one_of HT_.out (by kernel_rfl)) (by decide) (fun K hK => ?_); refine value_ (w1 := ?_) (v := ?_) (by rfl) rfl ?_ ?_; rotate_left 2
          ·
           go_simp
           constructor
           ·
            rfl
           ·
            rfl
          refine hK.out _ _ ?_; clear hK K; refine norm_ (a' := ?_) ?_ ?_; rotate_left
          ·
           show Act.put _ (some 104) _ = _
           simp only [Act.put, lT, l0_, lS, i64_w, i32_w]; rfl
          refine last_ (i := 21) (N := some 105) B23_38 rfl rfl (one_of HT_.out (by kernel_rfl)) (by decide) (fun K hK => ?_); refine Kd.S_append_step k60 (w0 := w) w.heap.size (by rfl) (.tmp 84) (.tmp 104) 51 60 (.agg #[(.int .i64 0), (.int .i64 0), (.int .i64 0), (.int .i64 0), (.int .i64 0), (.slice none 0 0)]) 64 rfl Try.underlying51 info60 rfl (by decide) (by omega) u15 x15_2 (⟨a2, (rd_T41 t267 x80_2).f0, rd ((rd_T28 y266 a2).f3) ((rd_T41 t267 x80_2).f0), 16, (rd_T41 t267 x80_2).f1, t279⟩ : S60) [.int .i64 a2, .int .i64 ((rd_T41 t267 x80_2).f0), .int .i64 (rd ((rd_T28 y266 a2).f3) ((rd_T41 t267 x80_2).f0)), .int .i64 16, .int .i64 ((rd_T41 t267 x80_2).f1), .slice Ao79 t279.length co79] (fun k_ => (w.heap.size ≤ k_)) (fun k_ => some k_ = (.slice Ao79 t279.length co79 : Value).ownBlock) rfl rfl ?aP (fun k_ hk_ => ((Kd.R_mono (ok' := fun k_ => ((fun k_ => (w.heap.size ≤ k_))) k_ ∧ some k_ ≠ (u15 : Value).ownBlock) (Kd.R_apart' (HO281.out) (Kd.S_typed HO_15.out) (by decide)) (fun k_ hk => by first | exact ⟨hk.1.1, hk.2⟩ | (go_split_ands; and_intros <;> assumption)))).1 k_ hk_.symm) ?aF ?aO ?aB ?aS ?aL ?_
          (case aP => exact k60_mkM _ _ _ (⟨a2, (rd_T41 t267 x80_2).f0, rd ((rd_T28 y266 a2).f3) ((rd_T41 t267 x80_2).f0), 16, (rd_T41 t267 x80_2).f1, t279⟩ : S60) (Kd.R_mono (Kd.R_tight rfl (Kd.R_mono (ok' := fun k_ => ((fun k_ => (w.heap.size ≤ k_))) k_ ∧ some k_ ≠ (u15 : Value).ownBlock) (Kd.R_apart' (HO281.out) (Kd.S_typed HO_15.out) (by decide)) (fun k_ hk => by first | exact ⟨hk.1.1, hk.2⟩ | (go_split_ands; and_intros <;> assumption)))) (fun _ h_ => h_)))
          (case aB => exact (mH HB))
          (case aF => exact (fun k_ hk => (Nat.le_trans (below_size (mH HB)) hk)))
          (case aO => exact (by (with_reducible repeat (first | apply Kd.S_alloc | apply Kd.S_drewN | apply Kd.S_drew)); exact Kd.S_mono HO_15.out (fun k_ hk => ⟨hk.1, fun e_ => hk.2 e_⟩)))
          (case aS => exact (below_size (mH HB)))
          (case aL => have := LMc66.out; omega)
          intro v283 w80 ho hb hg hat; rw [← Ny282.out] at ho; replace HO_4 := Aside0.mk (Kd.V_afterv (ok := (fun k_ => (P4_ k_ ∨ w.heap.size ≤ k_) ∧ some k_ ≠ (.slice (some ad270) t267.length co55 : Value).ownBlock ∧ some k_ ≠ (.slice (some ⟨go37, 0, none⟩) y266.length co46 : Value).ownBlock ∧ some k_ ≠ (.slice Ao79 t279.length co79 : Value).ownBlock ∧ k_ ≠ gb250 ∧ k_ ≠ gb251 ∧ k_ ≠ gb263 ∧ k_ ≠ gb271)) (by (with_reducible repeat (first | apply Kd.V_alloc | apply Kd.V_drewN | apply Kd.V_drew)); exact Kd.V_mono HO_4.out (fun _ hk => by first | exact ⟨⟨hk.1.1, ⟨hk.1.2.2.1, ⟨hk.1.2.2.2.1, ⟨hk.2, ⟨hk.1.2.2.2.2.1, ⟨hk.1.2.2.2.2.2.1, ⟨hk.1.2.2.2.2.2.2.1, hk.1.2.2.2.2.2.2.2⟩⟩⟩⟩⟩⟩⟩, hk.1.2.1⟩ | (go_split_ands; and_intros <;> assumption))) hg hat); replace HO_78 := Aside0.mk (Kd.R_over' (mR HO_78) (Kd.S_typed (mS HO_15)) (by decide) hg); replace HO_264000 := Aside0.mk (Kd.S_over' (mS HO_264000) (Kd.S_typed (mS HO_15)) (by decide) hg); replace BK250 := Aside0.mk (blk_grown (g := gb250) (o := .cells #[.slice (some ad258) l0_0.length c0_0] 24 (0, 0)) (mB BK250) hg (Kd.S_ne HO_15.out BK250.out (by decide))); replace BK251 := Aside0.mk (blk_grown (g := gb251) (o := .cells #[.slice none 0 0] 24 (0, 0)) (mB BK251) hg (Kd.S_ne HO_15.out BK251.out (by decide))); replace BK263 := Aside0.mk (blk_grown (g := gb263) (o := .cells #[.slice (some ⟨go37, 0, none⟩) y266.length co46] 24 (0, 0)) (mB BK263) hg (Kd.S_ne HO_15.out BK263.out (by decide))); replace BK271 := Aside0.mk (blk_grown (g := gb271) (o := .cells #[.int .i64 ((rd_T41 t267 x80_2).f0), .int .i64 ((rd_T41 t267 x80_2).f1), .int .i64 ((rd_T41 t267 x80_2).f2)] 41 (0, 0)) (mB BK271) hg (Kd.S_ne HO_15.out BK271.out (by decide))); replace HL272_3 := Aside0.mk (Kd.R_over' (mR HL272_3) (Kd.S_typed (mS HO_15)) (by decide) hg); replace HL272_4 := Aside0.mk (Kd.R_over' (mR HL272_4) (Kd.S_typed (mS HO_15)) (by decide) hg); replace HO278 := Aside0.mk (Kd.V_afterv (ok := (fun k_ => (P4_ k_ ∨ w.heap.size ≤ k_) ∧ some k_ ≠ (.slice (some ad270) t267.length co55 : Value).ownBlock ∧ some k_ ≠ (.slice (some ⟨go37, 0, none⟩) y266.length co46 : Value).ownBlock ∧ some k_ ≠ (.slice Ao79 t279.length co79 : Value).ownBlock ∧ k_ ≠ gb250 ∧ k_ ≠ gb251 ∧ k_ ≠ gb263 ∧ k_ ≠ gb271)) (by (with_reducible repeat (first | apply Kd.V_alloc | apply Kd.V_drewN | apply Kd.V_drew)); exact Kd.V_mono HO278.out (fun _ hk => by first | exact ⟨⟨hk.1.1, ⟨hk.1.2.2.1, ⟨hk.1.2.2.2.1, ⟨hk.2, ⟨hk.1.2.2.2.2.1, ⟨hk.1.2.2.2.2.2.1, ⟨hk.1.2.2.2.2.2.2.1, hk.1.2.2.2.2.2.2.2⟩⟩⟩⟩⟩⟩⟩, hk.1.2.1⟩ | (go_split_ands; and_intros <;> assumption))) hg hat); replace HB := Aside0.mk (hb); have HO284 := Aside0.mk (ho); clear HO_15 HO281; clear ho hb hg hat; refine hK.out _ _ ?_; clear hK K; refine norm_ (a' := ?_) ?_ ?_; rotate_left
          ·
           show Act.put _ (some 105) _ = _
           simp only [Act.put, lT, l0_, lS, i64_w, i32_w]; rfl
          refine pureE 22 (some 15) B23_39 (any_of HT_.out (by kernel_rfl)) ?_
          refine done_ (done_of HT_.out (by kernel_rfl)) ?_; obtain ⟨hcz81_0, hfz81_0⟩ := cY0 BK271; obtain ⟨hcz81_1, hfz81_1⟩ := cY1 BK271; obtain ⟨hcz81_2, hfz81_2⟩ := cY2 BK271; have q82 : (((rd_T41 t267 x80_2).f2) : Int) ≤ ((x4_2.length : Int) : Int) := dT; obtain ⟨i082, hi082, _, hsz82, _⟩ := info_parts info5; have hroom82 : x4_2.length ≤ co77 := (Kd.V_reads' HO_4.out).2.1; have hC82 : Kd.F (Kd.int .u8) _ _ Ao77 x4_2.length x4_2 := (Kd.V_at (base := w.heap.size) HO_4.out).2.2; have q082 : (0 : Int) ≤ (((rd_T41 t267 x80_2).f2) : Int) := dT; have hcut82 := cut_from (P := Try.prog) 50 5 .i64 Try.underlying50 hi082 1 hsz82 Ao77 x4_2.length co77 ((rd_T41 t267 x80_2).f2) q082 q82; have hr82 := Kd.F_cut (m := (((rd_T41 t267 x80_2).f2) : Int).toNat) (c := co77) hC82 (by omega) hroom82; obtain ⟨A82, hA82⟩ : ∃ A1, A1 = (if co77 = (((rd_T41 t267 x80_2).f2) : Int).toNat then Ao77 else (Ao77 : Option Addr).map (·.add ((((rd_T41 t267 x80_2).f2) : Int).toNat * 1))) := ⟨_, rfl⟩; obtain ⟨c82, hc82⟩ : ∃ c1, c1 = co77 - (((rd_T41 t267 x80_2).f2) : Int).toNat := ⟨_, rfl⟩; have hy82 : y285.length = x4_2.length - (((rd_T41 t267 x80_2).f2) : Int).toNat := (by rw [Ny285.out, List.length_drop] <;> omega); rw [show (x4_2).drop (((rd_T41 t267 x80_2).f2) : Int).toNat = y285 from Ny285.out.symm] at hr82; replace hr82 : Kd.F (Kd.int .u8) _ _ A82 y285.length y285 := (by rw [hA82]; exact hr82)
          rw [← hy82, ← hA82, ← hc82] at hcut82; have HO289 := Aside0.mk (show Kd.V (Kd.int .u8) 5 _ w.heap.size _ (.slice A82 y285.length c82) y285 from Kd.V_mk (by rw [hy82, hc82]; exact Nat.sub_le_sub_right hroom82 _) hr82)
          have HC289 := Aside0.mk (show y285.length ≤ c82 from by rw [hy82, hc82]; exact Nat.sub_le_sub_right hroom82 _)
          clear hr82 hC82 hroom82 hi082 hsz82 hc82; have KY82 := Aside0.mk hy82; have KA82 := Aside0.mk hA82; clear hy82 hA82; replace q82 := eq_true q82
          try go_wp2
          (try simp only [← hl264000_2])
          go_roundg k2
          case measure => have := HJ5.out; have := HK2.out; omega
          case rel => exact ⟨(y285), (y282), (wrap64 (x80_2 + 1)), sI, H', ⟨oM HJ5 HK2⟩, ⟨by (try simp only [hl264000_2]); (with_reducible repeat (first | apply Kd.V_alloc | apply Kd.V_drewN | apply Kd.V_drew)); exact Kd.V_mono HO289.out (fun _ hk => by first | exact ⟨hk.1.1, ⟨hk.2, ⟨hk.1.2.1, ⟨hk.1.2.2.1, ⟨hk.1.2.2.2.2.1, ⟨hk.1.2.2.2.2.2.1, hk.1.2.2.2.2.2.2.1⟩⟩⟩⟩⟩⟩ | (go_split_ands; and_intros <;> assumption))⟩, ⟨by (try simp only [hl264000_2]); (with_reducible repeat (first | apply Kd.S_alloc | apply Kd.S_drewN | apply Kd.S_drew)); exact HO284.out⟩, ⟨by (try simp only [hl264000_2]); (with_reducible repeat (first | apply Kd.R_alloc | apply Kd.R_drewN | apply Kd.R_drew)); exact Kd.R_mono HO_78.out (fun _ hk => hk.1)⟩, ⟨by (try simp only [hl264000_2]); (with_reducible repeat (first | apply Kd.S_alloc | apply Kd.S_drewN | apply Kd.S_drew)); exact HO_264000.out⟩, ⟨by (try simp only [hl264000_2]); (with_reducible repeat (first | refine bN ?_ _ | refine bD ?_ | refine bA ?_ _)); exact BK250.out⟩, ⟨by (try simp only [hl264000_2]); (with_reducible repeat (first | refine bN ?_ _ | refine bD ?_ | refine bA ?_ _)); exact BK251.out⟩, ⟨by (try simp only [hl264000_2]); (with_reducible repeat (first | refine bN ?_ _ | refine bD ?_ | refine bA ?_ _)); exact BK263.out⟩, ⟨mH HB⟩⟩
         ·
          rw [if_neg c56] at H; have c56b0 := decide_eq_false c56; clear c56; simp only [Option.some.injEq, Prod.mk.injEq] at H; obtain ⟨rfl, rfl, rfl⟩ := H; have hnb83 := NB263_250.out; have hnc83 := NB250_263.out; have hnb84 := NB263_251.out; have hnc84 := NB251_263.out; obtain ⟨hcz85_0, hfz85_0⟩ := cY0 BK263; have hnb86 := NB251_250.out; have hnc86 := NB250_251.out; obtain ⟨hcz87_0, hfz87_0⟩ := cY0 BK251
          go_wp2
          refine bodyPost_ret (results_ctt rfl _ _ gb251 24 #[.slice (some ⟨go37, 0, none⟩) y266.length co46] (0, 0) _ rfl (pP BK251) Try.underlying24 rfl (by kernel_rfl)) rfl ?_
          exact ⟨_, _, by first | rfl | exact congrArg (fun b_ => Ending.returned (Value.bool b_)) HRET.out | (rw [HRET.out]) | (simp [errW_none, errW_some] <;> rfl) | (simp only [← hji36]; first | rfl | (simp [errW_none, errW_some] <;> rfl)) | (simp [*, errW_none, errW_some] <;> rfl), fS ⟨Kd.S_types HO_264000.out BK251.out (by decide)⟩, fS ⟨Kd.S_types HO_15.out BK251.out (by decide)⟩, mH HB⟩
     ·
      replace c23 := Bool.eq_false_iff.mpr c23; subst c23
      have H1 : (some (([] : List (S28)), ([] : List (S60)), 16)) = some (r1, r2, r3) := by rw [if_neg (show ¬ (false = true) by decide)] at H; exact H
      clear H; have H := H1; clear H1; simp only [Option.some.injEq, Prod.mk.injEq] at H; obtain ⟨rfl, rfl, rfl⟩ := H
      go_wp2_with (first | ((with_reducible refine gate_callee (f := 58) rfl ?_); refine goesK (some 38) Try.func58 #[.int .i64 a3, .int .i64 (l4.length : Int)] ?_; (with_reducible refine (span_Fits.calls a3 (l4.length : Int) false _ A22.out).mono ?_); rintro e w' ⟨rfl, ⟨nd, rfl⟩⟩; refine ⟨_, rfl, ?_⟩; (try (rw [drewN_self wc]; generalize hq_ : World.drewN wc _ = wc; have n0_ : Aside0 (Kd.V (Kd.int .u8) 5 wc w.heap.size (fun k_ => (P4_ k_ ∨ w.heap.size ≤ k_) ∧ k_ ≠ gb250 ∧ k_ ≠ gb251) (.slice A4 l4.length c4) l4) := ⟨by rw [← hq_]; exact (mV HO_4)⟩; have n1_ : Aside0 (wc.heap[gb250]? = some (.cells #[.slice A0_0 l0_0.length c0_0] 24 (0, 0))) := ⟨by rw [← hq_]; exact (mB BK250)⟩; have n2_ : Aside0 (wc.heap[gb251]? = some (.cells #[.slice none 0 0] 24 (0, 0))) := ⟨by rw [← hq_]; exact (mB BK251)⟩; have n3_ : Aside0 (Below w.heap.size w wc) := ⟨by rw [← hq_]; exact (mH HB)⟩; clear HO_4 BK250 BK251 HB hq_; have HO_4 := n0_; have BK250 := n1_; have BK251 := n2_; have HB := n3_; clear n0_ n1_ n2_ n3_)); have hnb88 := NB251_250.out; have hnc88 := NB250_251.out; obtain ⟨hcz89_0, hfz89_0⟩ := cY0 BK251))
      refine bodyPost_ret (results_ctt rfl _ _ gb251 24 #[.slice none 0 0] (0, 0) _ rfl (pP BK251) Try.underlying24 rfl (by kernel_rfl)) rfl ?_
      exact ⟨_, _, rT, by first | exact Kd.S_nil _ _ _ _ _ | exact Kd.N_nil _ _ _ _ _ | exact Kd.V_nil _ _ _ _ _ | exact Kd.Q_nil _ _ _ _ _ | exact Kd.R_nil _ _ _ _ _, by first | exact Kd.S_nil _ _ _ _ _ | exact Kd.N_nil _ _ _ _ _ | exact Kd.V_nil _ _ _ _ _ | exact Kd.Q_nil _ _ _ _ _ | exact Kd.R_nil _ _ _ _ _, mH HB⟩
end Go.Proofs.Ytkigiehkckjlhaa.PGrows
