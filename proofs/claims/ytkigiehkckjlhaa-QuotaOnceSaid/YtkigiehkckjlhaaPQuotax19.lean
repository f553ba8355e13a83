/- The Go functions that these laws reach, each as a Lean function with the same answers (a law itself where it answers true), and the proof that the code comes to them; conditions: those of each theorem. Laid by a program of this session over the print. -/
import Derived.Test.YtkigiehkckjlhaaPQuotax0
import Derived.Test.YtkigiehkckjlhaaPQuotax1
import Derived.Test.YtkigiehkckjlhaaPQuotax9
import Derived.Test.YtkigiehkckjlhaaPQuotax10
import Derived.Test.YtkigiehkckjlhaaPQuotax13
import Derived.Test.YtkigiehkckjlhaaPQuotax14
import Derived.Test.YtkigiehkckjlhaaPQuotax23
import Derived.Test.YtkigiehkckjlhaaPQuotax16
import Derived.Test.YtkigiehkckjlhaaPQuotax18
namespace Go.Proofs.Ytkigiehkckjlhaa.PQuota
open Go.RowKit Go.Proofs.YtkigiehkckjlhaaW.PrintWords Go.Proofs.YtkigiehkckjlhaaW.PrintLast Go.Proofs.YtkigiehkckjlhaaW.PrintMore
attribute [local go_sem] max2_int min2_int max_two min_two max_three min_three max_four min_four   -- for this text's walks alone
set_option linter.unusedVariables false
set_option linter.unusedSimpArgs false
open Go.Proofs.YtkigiehkckjlhaaW.PrintWords renaming blk_drewN → bN, blk_drew → bD, blk_alloc → bA, below_set → wS, below_alloc → wA, pw_below_drewN → wN, below_drew1 → wD, blk_below → bB, blk_far → bF, blk_cell → bC, blk_frozen → bZ
open List renaming setIfInBounds_toArray → lT, set_cons_zero → l0_, set_cons_succ → lS
abbrev B19_0 : Array Bool := #[false, false, false, false, false, false, false, false, false, false, false, false, false, false, false, false, false, false, false, false, false, false, false, false, false, false]
abbrev B19_1 : Array Bool := #[true, false, false, false, false, false, false, false, false, false, false, false, false, false, false, false, false, false, false, false, false, false, false, false, false, false]
abbrev B19_2 : Array Bool := #[true, true, false, false, false, false, false, false, false, false, false, false, false, false, false, false, false, false, false, false, false, false, false, false, false, false]
abbrev B19_3 : Array Bool := #[true, true, true, false, false, false, false, false, false, false, false, false, false, false, false, false, false, false, false, false, false, false, false, false, false, false]
abbrev B19_4 : Array Bool := #[true, true, true, true, false, false, false, false, false, false, false, false, false, false, false, false, false, false, false, false, false, false, false, false, false, false]
abbrev B19_5 : Array Bool := #[true, true, true, true, true, false, false, false, false, false, false, false, false, false, false, false, false, false, false, false, false, false, false, false, false, false]
abbrev B19_6 : Array Bool := #[true, true, true, true, true, true, false, false, false, false, false, false, false, false, false, false, false, false, false, false, false, false, false, false, false, false]
abbrev B19_7 : Array Bool := #[true, true, true, true, true, true, true, false, false, false, false, false, false, false, false, false, false, false, false, false, false, false, false, false, false, false]
abbrev B19_8 : Array Bool := #[true, true, true, true, true, true, true, false, true, false, false, false, false, false, false, false, false, false, false, false, false, false, false, false, false, false]
abbrev B19_9 : Array Bool := #[true, true, true, true, true, true, true, false, true, true, false, false, false, false, false, false, false, false, false, false, false, false, false, false, false, false]
abbrev B19_10 : Array Bool := #[true, true, true, true, true, true, true, true, true, true, false, false, false, false, false, false, false, false, false, false, false, false, false, false, false, false]
abbrev B19_11 : Array Bool := #[true, true, true, true, true, true, true, true, true, true, true, false, false, false, false, false, false, false, false, false, false, false, false, false, false, false]
abbrev B19_12 : Array Bool := #[true, true, true, true, true, true, true, true, true, true, true, true, false, false, false, false, false, false, false, false, false, false, false, false, false, false]
abbrev B19_13 : Array Bool := #[true, true, true, true, true, true, true, true, true, true, true, true, true, false, false, false, false, false, false, false, false, false, false, false, false, false]
abbrev B19_14 : Array Bool := #[true, true, true, true, true, true, true, true, true, true, true, true, true, true, false, false, false, false, false, false, false, false, false, false, false, false]
abbrev B19_15 : Array Bool := #[true, true, true, true, true, true, true, true, true, true, true, true, true, true, false, false, false, false, true, false, false, false, false, false, false, false]
abbrev B19_16 : Array Bool := #[true, true, true, true, true, true, true, true, true, true, true, true, true, true, true, false, false, false, true, false, false, false, false, false, false, false]
abbrev B19_17 : Array Bool := #[true, true, true, true, true, true, true, true, true, true, true, true, true, true, true, false, true, false, true, false, false, false, false, false, false, false]
abbrev B19_18 : Array Bool := #[true, true, true, true, true, true, true, true, true, true, true, true, true, true, true, true, true, false, true, false, false, false, false, false, false, false]
abbrev B19_19 : Array Bool := #[true, true, true, true, true, true, true, true, true, true, true, true, true, true, true, true, true, true, true, false, false, false, false, false, false, false]
abbrev B19_20 : Array Bool := #[true, true, true, true, true, true, true, true, true, true, true, true, true, true, true, true, true, true, true, true, false, false, false, false, false, false]
abbrev B19_21 : Array Bool := #[true, true, true, true, true, true, true, true, true, true, true, true, true, true, true, true, true, true, true, true, true, false, false, false, false, false]
abbrev B19_22 : Array Bool := #[true, true, true, true, true, true, true, true, true, true, true, true, true, true, true, true, true, true, true, true, true, true, false, false, false, false]
abbrev B19_23 : Array Bool := #[true, true, true, true, true, true, true, true, true, true, true, true, true, true, true, true, true, true, true, true, true, true, true, false, false, false]
abbrev B19_24 : Array Bool := #[true, true, true, true, true, true, true, true, true, true, true, true, true, true, true, true, true, true, true, true, true, true, true, true, false, false]
abbrev B19_25 : Array Bool := #[true, true, true, true, true, true, true, true, true, true, true, true, true, true, true, true, true, true, true, true, true, true, true, true, true, false]
abbrev B19_26 : Array Bool := #[true, true, true, true, true, true, true, true, true, true, true, true, true, true, true, true, true, true, true, true, true, true, true, true, true, true]

/-! ### potsherdlaw18_QuotaOnce: function 4 -/
mutual
def potsherdlaw18_QuotaOnce.j0 : Nat → Int → Int → Bool → Int → Int → Int → List Int → List (S78) → Option (Bool)
 | 0, _, _, _, _, _, _, _, _ => none
 | k + 1, x1, x2, x33, x255000, x255001, x255002, x255003, x255004 => if x33 = true then ((potsherdlaw18_awake.f k).bind fun t258 => (some t258)) else ((quota_More.f k x255000 x255001 x255002 x255003 x255004 x1 x2).bind fun t259 => ((potsherdref12_CopyNode.f x255000 x255001 x255002 x255003 x255004).bind fun bt260 => ((potsherdref12_Pieces.f k x1 x2).bind fun t270 => (potsherdlaw18_QuotaOnce.l0 k x1 x2 t259 t270 (t270.length : Int) 0 x255000 x255001 x255002 x255003 x255004 bt260.1 bt260.2.1 (mx x255002 (wrap64 (x1 + x2))) bt260.2.2.2.1 bt260.2.2.2.2))))
def potsherdlaw18_QuotaOnce.l0 : Nat → Int → Int → Int → List (S41) → Int → Int → Int → Int → Int → List Int → List (S78) → Int → Int → Int → List Int → List (S78) → Option (Bool)
 | 0, _, _, _, _, _, _, _, _, _, _, _, _, _, _, _, _ => none
 | k + 1, x1, x2, x7, x50, x51, x52, x255000, x255001, x255002, x255003, x255004, x270000, x270001, x270002, x270003, x270004 => if x52 < x51 then (if 0 ≤ x52 then (if x52 < (x50.length : Int) then (if 0 ≤ ((rd_T41 x50 x52).f0) then (if ((rd_T41 x50 x52).f0) < (x270003.length : Int) then (if (rd x270003 ((rd_T41 x50 x52).f0)) = 0 then (potsherdlaw18_QuotaOnce.l0 k x1 x2 x7 x50 x51 (wrap64 (x52 + 1)) x255000 x255001 x255002 x255003 x255004 x270000 x270001 x270002 (x270003.set (((rd_T41 x50 x52).f0) : Int).toNat (wrap64 (1 + ((rd_T41 x50 x52).f0)))) x270004) else (potsherdlaw18_QuotaOnce.l0 k x1 x2 x7 x50 x51 (wrap64 (x52 + 1)) x255000 x255001 x255002 x255003 x255004 x270000 x270001 x270002 x270003 x270004)) else (none)) else (none)) else (none)) else (none)) else (if x7 ≥ 0 then (if x7 ≤ 5 then ((quota_More.f k x270000 x270001 x270002 x270003 x270004 x1 x2).bind fun t277 => (if t277 = 0 then ((potsherdref12_Pages.f k x270000 x270001 x270002 x270003 x270004).bind fun t278 => ((potsherdref12_Pages.f k x255000 x255001 x255002 x255003 x255004).bind fun t279 => (if t278 = (wrap64 (t279 + x7)) then ((potsherdlaw18_awake.f k).bind fun t280 => (some t280)) else (some false)))) else (some false))) else (some false)) else (some false))
end
def potsherdlaw18_QuotaOnce.f (k : Nat) (a0_0 : Int) (a0_1 : Int) (a0_2 : Int) (l0_3 : List Int) (l0_4 : List (S78)) (a1 : Int) (a2 : Int) : Option (Bool) := (potsherdlaw14_Light.f k a0_0 a0_1 a0_2 l0_3 l0_4).bind fun t255 => (if t255 > 0 then (potsherdlaw18_QuotaOnce.j0 k a1 a2 true a0_0 a0_1 a0_2 l0_3 l0_4) else ((potsherdref12_MayNode.f k a0_0 a0_1 a0_2 l0_3 l0_4).bind fun t256 => (if t256 = true then (if a0_0 = 1 then ((potsherdref12_FitsFile.f a1 a2).bind fun t257 => (if t257 = true then (potsherdlaw18_QuotaOnce.j0 k a1 a2 (a2 == 0) a0_0 a0_1 a0_2 l0_3 l0_4) else (potsherdlaw18_QuotaOnce.j0 k a1 a2 true a0_0 a0_1 a0_2 l0_3 l0_4))) else (potsherdlaw18_QuotaOnce.j0 k a1 a2 true a0_0 a0_1 a0_2 l0_3 l0_4)) else (potsherdlaw18_QuotaOnce.j0 k a1 a2 true a0_0 a0_1 a0_2 l0_3 l0_4))))
theorem potsherdlaw18_QuotaOnce.mono_l : ∀ k, (∀ y0 y1 y2 y3 y4 y5 y6 y7, LeO (potsherdlaw18_QuotaOnce.j0 k y0 y1 y2 y3 y4 y5 y6 y7) (potsherdlaw18_QuotaOnce.j0 (k + 1) y0 y1 y2 y3 y4 y5 y6 y7)) ∧ (∀ y0 y1 y2 y3 y4 y5 y6 y7 y8 y9 y10 y11 y12 y13 y14 y15, LeO (potsherdlaw18_QuotaOnce.l0 k y0 y1 y2 y3 y4 y5 y6 y7 y8 y9 y10 y11 y12 y13 y14 y15) (potsherdlaw18_QuotaOnce.l0 (k + 1) y0 y1 y2 y3 y4 y5 y6 y7 y8 y9 y10 y11 y12 y13 y14 y15))
 | 0 => ⟨fun _ _ _ _ _ _ _ _ r h => by simp [potsherdlaw18_QuotaOnce.j0] at h, fun _ _ _ _ _ _ _ _ _ _ _ _ _ _ _ _ r h => by simp [potsherdlaw18_QuotaOnce.l0] at h⟩
 | k + 1 => by
  obtain ⟨ih0, ih1⟩ := potsherdlaw18_QuotaOnce.mono_l k; refine ⟨?_, ?_⟩
  ·
   intro y0 y1 y2 y3 y4 y5 y6 y7
   unfold potsherdlaw18_QuotaOnce.j0
   repeat' first
   | (with_reducible exact ih0 _ _ _ _ _ _ _ _)
   | (with_reducible exact ih1 _ _ _ _ _ _ _ _ _ _ _ _ _ _ _ _)
   | (with_reducible exact potsherdlaw14_Light.mono _ _ _ _ _ _)
   | (with_reducible exact potsherdlaw18_awake.mono _)
   | (with_reducible exact potsherdref12_MayNode.mono _ _ _ _ _ _)
   | (with_reducible exact potsherdref12_Pages.mono _ _ _ _ _ _)
   | (with_reducible exact potsherdref12_Pieces.mono _ _ _)
   | (with_reducible exact quota_More.mono _ _ _ _ _ _ _ _)
   | (with_reducible exact LeO.refl _)
   | (with_reducible exact LeO.none _)
   | (with_reducible refine LeO.ite ?_ ?_)
   | (with_reducible refine LeO.bind ?_ (fun _ => ?_))
   | exact ih0 _ _ _ _ _ _ _ _
   | exact ih1 _ _ _ _ _ _ _ _ _ _ _ _ _ _ _ _
   | exact potsherdlaw14_Light.mono _ _ _ _ _ _
   | exact potsherdlaw18_awake.mono _
   | exact potsherdref12_MayNode.mono _ _ _ _ _ _
   | exact potsherdref12_Pages.mono _ _ _ _ _ _
   | exact potsherdref12_Pieces.mono _ _ _
   | exact quota_More.mono _ _ _ _ _ _ _ _
   | exact LeO.none _
   | refine LeO.ite ?_ ?_
   | refine LeO.bind ?_ (fun _ => ?_)
  ·
   intro y0 y1 y2 y3 y4 y5 y6 y7 y8 y9 y10 y11 y12 y13 y14 y15
   unfold potsherdlaw18_QuotaOnce.l0
   repeat' first
   | (with_reducible exact ih0 _ _ _ _ _ _ _ _)
   | (with_reducible exact ih1 _ _ _ _ _ _ _ _ _ _ _ _ _ _ _ _)
   | (with_reducible exact potsherdlaw14_Light.mono _ _ _ _ _ _)
   | (with_reducible exact potsherdlaw18_awake.mono _)
   | (with_reducible exact potsherdref12_MayNode.mono _ _ _ _ _ _)
   | (with_reducible exact potsherdref12_Pages.mono _ _ _ _ _ _)
   | (with_reducible exact potsherdref12_Pieces.mono _ _ _)
   | (with_reducible exact quota_More.mono _ _ _ _ _ _ _ _)
   | (with_reducible exact LeO.refl _)
   | (with_reducible exact LeO.none _)
   | (with_reducible refine LeO.ite ?_ ?_)
   | (with_reducible refine LeO.bind ?_ (fun _ => ?_))
   | exact ih0 _ _ _ _ _ _ _ _
   | exact ih1 _ _ _ _ _ _ _ _ _ _ _ _ _ _ _ _
   | exact potsherdlaw14_Light.mono _ _ _ _ _ _
   | exact potsherdlaw18_awake.mono _
   | exact potsherdref12_MayNode.mono _ _ _ _ _ _
   | exact potsherdref12_Pages.mono _ _ _ _ _ _
   | exact potsherdref12_Pieces.mono _ _ _
   | exact quota_More.mono _ _ _ _ _ _ _ _
   | exact LeO.none _
   | refine LeO.ite ?_ ?_
   | refine LeO.bind ?_ (fun _ => ?_)
theorem potsherdlaw18_QuotaOnce.mono : ∀ a0 a1 a2 a3 a4 a5 a6 k, LeO (potsherdlaw18_QuotaOnce.f k a0 a1 a2 a3 a4 a5 a6) (potsherdlaw18_QuotaOnce.f (k + 1) a0 a1 a2 a3 a4 a5 a6) := by
 intro a0 a1 a2 a3 a4 a5 a6 k; obtain ⟨ih0, ih1⟩ := potsherdlaw18_QuotaOnce.mono_l k
 unfold potsherdlaw18_QuotaOnce.f
 repeat' first
  | (with_reducible exact ih0 _ _ _ _ _ _ _ _)
  | (with_reducible exact ih1 _ _ _ _ _ _ _ _ _ _ _ _ _ _ _ _)
  | (with_reducible exact potsherdlaw14_Light.mono _ _ _ _ _ _)
  | (with_reducible exact potsherdlaw18_awake.mono _)
  | (with_reducible exact potsherdref12_MayNode.mono _ _ _ _ _ _)
  | (with_reducible exact potsherdref12_Pages.mono _ _ _ _ _ _)
  | (with_reducible exact potsherdref12_Pieces.mono _ _ _)
  | (with_reducible exact quota_More.mono _ _ _ _ _ _ _ _)
  | (with_reducible exact LeO.refl _)
  | (with_reducible exact LeO.none _)
  | (with_reducible refine LeO.ite ?_ ?_)
  | (with_reducible refine LeO.bind ?_ (fun _ => ?_))
  | exact ih0 _ _ _ _ _ _ _ _
  | exact ih1 _ _ _ _ _ _ _ _ _ _ _ _ _ _ _ _
  | exact potsherdlaw14_Light.mono _ _ _ _ _ _
  | exact potsherdlaw18_awake.mono _
  | exact potsherdref12_MayNode.mono _ _ _ _ _ _
  | exact potsherdref12_Pages.mono _ _ _ _ _ _
  | exact potsherdref12_Pieces.mono _ _ _
  | exact quota_More.mono _ _ _ _ _ _ _ _
  | exact LeO.none _
  | refine LeO.ite ?_ ?_
  | refine LeO.bind ?_ (fun _ => ?_)
def potsherdlaw18_QuotaOnce.T12 : Bool × List (List Nat × List Nat) := (true, [([], []), ([0], [0]), ([1], [1]), ([2], [2]), ([3, 2], [2, 3]), ([2, 4], [2, 4]), ([5, 2], [5]), ([6], [6]), ([6], [6]), ([6], [6]), ([7, 8, 9, 6, 6], [6, 7, 8, 9]), ([10, 6], [6, 10]), ([6, 11], [6, 11]), ([12, 10], [12]), ([13], [13]), ([14, 13, 13], [13, 14]), ([13], [13]), ([16, 15, 13], [13, 16]), ([13], [13]), ([17, 18, 13], [13, 17, 18]), ([15, 19, 13], [13, 15, 19]), ([13, 20], [13, 20]), ([21, 17], [21]), ([22, 22], [22]), ([22, 23], [22, 23]), ([24, 23, 0, 1, 2, 3, 4, 5, 6, 7, 8, 9, 10, 11, 12, 13, 14, 15, 16, 17, 18, 19, 20, 21, 22, 23, 24], [24])])
def potsherdlaw18_QuotaOnce.B12 : List Nat := [0, 1, 3, 7, 15, 31, 63, 127, 127, 127, 1023, 2047, 4095, 8191, 16383, 32767, 16383, 131071, 16383, 524287, 1048575, 2097151, 4194303, 8388607, 16777215, 33554431]
theorem potsherdlaw18_QuotaOnce.tab12 : rtab .any (opsOf Try.f4 12) = potsherdlaw18_QuotaOnce.T12 := by kernel_rfl
theorem potsherdlaw18_QuotaOnce.bits12 : waitsOk potsherdlaw18_QuotaOnce.T12.2 potsherdlaw18_QuotaOnce.B12 = true := by kernel_rfl
set_option maxHeartbeats 8000000 in
set_option maxRecDepth 100000 in
theorem potsherdlaw18_QuotaOnce.calls (k : Nat) (a0_0 : Int) (a0_1 : Int) (a0_2 : Int) (A0_3 : Option Addr) (c0_3 : Nat) (l0_3 : List Int) (A0_4 : Option Addr) (c0_4 : Nat) (l0_4 : List (S78)) (a1 : Int) (a2 : Int) (w : World) (hr0_3 : Kd.C (Kd.int .i64) w A0_3 l0_3.length l0_3) (hc0_3 : l0_3.length ≤ c0_3) (hr0_4 : Kd.C k78 w A0_4 l0_4.length l0_4) (hc0_4 : l0_4.length ≤ c0_4) (h : potsherdlaw18_QuotaOnce.f k a0_0 a0_1 a0_2 l0_3 l0_4 a1 a2 = some true) :
 Calls Try.prog 4 #[.agg #[.int .i64 a0_0, .int .i64 a0_1, .int .i64 a0_2, .slice A0_3 l0_3.length c0_3, .slice A0_4 l0_4.length c0_4], .int .i64 a1, .int .i64 a2] w fun e w' => e = .returned (.bool true) ∧ Below w.heap.size w w' := by
 have hu28 := Try.underlying28; have hu41 := Try.underlying41; have HR0_3 := Aside0.mk hr0_3; have HC0_3 := Aside0.mk hc0_3; clear hr0_3 hc0_3; have HR0_4 := Aside0.mk hr0_4; have HC0_4 := Aside0.mk hc0_4; clear hr0_4 hc0_4; have HB := Aside0.mk (Below.refl w.heap.size w); have H : ((potsherdlaw14_Light.f k a0_0 a0_1 a0_2 l0_3 l0_4).bind fun t255 => (if t255 > 0 then (potsherdlaw18_QuotaOnce.j0 k a1 a2 true a0_0 a0_1 a0_2 l0_3 l0_4) else ((potsherdref12_MayNode.f k a0_0 a0_1 a0_2 l0_3 l0_4).bind fun t256 => (if t256 = true then (if a0_0 = 1 then ((potsherdref12_FitsFile.f a1 a2).bind fun t257 => (if t257 = true then (potsherdlaw18_QuotaOnce.j0 k a1 a2 (a2 == 0) a0_0 a0_1 a0_2 l0_3 l0_4) else (potsherdlaw18_QuotaOnce.j0 k a1 a2 true a0_0 a0_1 a0_2 l0_3 l0_4))) else (potsherdlaw18_QuotaOnce.j0 k a1 a2 true a0_0 a0_1 a0_2 l0_3 l0_4)) else (potsherdlaw18_QuotaOnce.j0 k a1 a2 true a0_0 a0_1 a0_2 l0_3 l0_4))))) = some true := h; clear h; have HC4 := Aside0.mk H; clear H
 go_enter Try.func4, Try.ntmps4
 go_upto_region 1 with (first | ((with_reducible refine gate_dst (N := 3) rfl ?_); refine box_event ?hg (N := 3) ?hd (cs := #[.int .i64 a0_0, .int .i64 a0_1, .int .i64 a0_2, .slice A0_3 l0_3.length c0_3, .slice A0_4 l0_4.length c0_4]) (t := 28) ?hr ?_; (case hd => rfl); (case hg => rfl); (case hr => first | (go_simp; done) | (go_simp; rfl)); intro gb254 hg w5 hbox hb; have n0_ := Aside0.mk (below_step (by repeat (first | (with_reducible first | exact HB.out | apply wA | apply wN | apply wD) | exact HB.out)) hb); have n1_ := Aside0.mk (hbox); have n2_ := Aside0.mk ((by rw [hg]; exact (below_size (by repeat (first | (with_reducible first | exact HB.out | apply wA | apply wN | apply wD) | exact HB.out))) : w.heap.size ≤ gb254)); have n3_ := Aside0.mk ((by rw [hg]; exact (below_size (by repeat (first | (with_reducible first | exact HB.out | apply wA | apply wN | apply wD) | exact HB.out))) : w.heap.size ≤ gb254)); clear HB; have HB := n0_; have BK254 := n1_; have GW254 := n2_; have GE254 := n3_; clear n0_ n1_ n2_ n3_; clear hb hbox hg))
 (try simp only [Act.put, lT, l0_, lS])
 go_cut [33] (fun v33 wc => ∃ (kq : Nat) (x33_3 : Bool), v33 = .bool x33_3 ∧ Aside0 (potsherdlaw18_QuotaOnce.j0 kq a1 a2 x33_3 a0_0 a0_1 a0_2 l0_3 l0_4 = some true) ∧ Aside0 (kq ≤ k) ∧ Aside0 (wc.heap[gb254]? = some (.cells #[.int .i64 a0_0, .int .i64 a0_1, .int .i64 a0_2, (.slice A0_3 l0_3.length c0_3), (.slice A0_4 l0_4.length c0_4)] 28 (0, 0))) ∧ Aside0 (Below w.heap.size w wc))
 case first =>
  have H := HC4.out; clear HC4; replace H := Option.bind_eq_some_iff.mp H; obtain ⟨t255, A60, H⟩ := H; replace H : (if t255 > 0 then (potsherdlaw18_QuotaOnce.j0 k a1 a2 true a0_0 a0_1 a0_2 l0_3 l0_4) else ((potsherdref12_MayNode.f k a0_0 a0_1 a0_2 l0_3 l0_4).bind fun t256 => (if t256 = true then (if a0_0 = 1 then ((potsherdref12_FitsFile.f a1 a2).bind fun t257 => (if t257 = true then (potsherdlaw18_QuotaOnce.j0 k a1 a2 (a2 == 0) a0_0 a0_1 a0_2 l0_3 l0_4) else (potsherdlaw18_QuotaOnce.j0 k a1 a2 true a0_0 a0_1 a0_2 l0_3 l0_4))) else (potsherdlaw18_QuotaOnce.j0 k a1 a2 true a0_0 a0_1 a0_2 l0_3 l0_4)) else (potsherdlaw18_QuotaOnce.j0 k a1 a2 true a0_0 a0_1 a0_2 l0_3 l0_4)))) = some true := H; have A6 := Aside0.mk A60; clear A60
  by_cases c7 : t255 > 0
  ·
   rw [if_pos c7] at H; have c7b0 : decide (0 < t255) = true := decide_eq_true c7; clear c7
   (first | rw [c7b0] | (simp only [i64_w, i32_w]; rw [c7b0]) | skip)
   have H' := Aside0.mk H; clear H; have hcz8_0 : w5.cell? ⟨gb254, 0, none⟩ = some (.int .i64 a0_0) := (bC BK254.out 0).trans rfl; have hcz8_1 : w5.cell? ⟨gb254, 1, none⟩ = some (.int .i64 a0_1) := (bC BK254.out 1).trans rfl; have hcz8_2 : w5.cell? ⟨gb254, 2, none⟩ = some (.int .i64 a0_2) := (bC BK254.out 2).trans rfl; have hcz8_3 : w5.cell? ⟨gb254, 3, none⟩ = some (.slice A0_3 l0_3.length c0_3) := (bC BK254.out 3).trans rfl; have hcz8_4 : w5.cell? ⟨gb254, 4, none⟩ = some (.slice A0_4 l0_4.length c0_4) := (bC BK254.out 4).trans rfl; have hfz8_0 := bZ BK254.out 0; have hfz8_1 := bZ BK254.out 1; have hfz8_2 := bZ BK254.out 2; have hfz8_3 := bZ BK254.out 3; have hfz8_4 := bZ BK254.out 4
   go_wp2_with (first | ((with_reducible refine gate_callee (f := 14) rfl ?_); refine goesL_ (some 12) rfl rfl Try.func14 (by kernel_rfl) rfl #[.agg #[.int .i64 a0_0, .int .i64 a0_1, .int .i64 a0_2, .slice A0_3 l0_3.length c0_3, .slice A0_4 l0_4.length c0_4]] rfl (by (try simp only [List.map_toArray, List.map_cons, List.map_nil]); first | done | rfl | (simp only [List.length_drop, List.length_take]; rfl)) ?_; (with_reducible refine (potsherdlaw14_Light.calls k a0_0 a0_1 a0_2 _ _ l0_3 _ _ l0_4 t255 _ ?side1 ?side2 ?side3 ?side4 A6.out).mono ?_); (case side1 => repeat (first | exact (Kd.C_below HR0_3.out HB.out) | (with_reducible refine Kd.C_alloc ?_ _) | (with_reducible refine Kd.C_drewN ?_ _) | (with_reducible refine Kd.C_drew ?_))); (case side2 => exact HC0_3.out); (case side3 => repeat (first | exact (Kd.C_below HR0_4.out HB.out) | (with_reducible refine Kd.C_alloc ?_ _) | (with_reducible refine Kd.C_drewN ?_ _) | (with_reducible refine Kd.C_drew ?_))); (case side4 => exact HC0_4.out); rintro e w9 ⟨rfl, hb⟩; refine ⟨_, rfl, ?_⟩; have n0_ := Aside0.mk (bB (g := gb254) (o := .cells #[.int .i64 a0_0, .int .i64 a0_1, .int .i64 a0_2, .slice A0_3 l0_3.length c0_3, .slice A0_4 l0_4.length c0_4] 28 (0, 0)) (by (with_reducible repeat (first | refine bN ?_ _ | refine bD ?_ | refine bA ?_ _)); exact BK254.out) hb); have n1_ := Aside0.mk (below_step (by repeat (first | (with_reducible first | exact HB.out | apply wA | apply wN | apply wD | refine wS ?_ GE254.out) | exact HB.out)) hb); clear BK254; clear HB; have BK254 := n0_; have HB := n1_; clear n0_ n1_; (try clear hb); (try clear hb2); (try clear hk); (try clear hi)))
   go_meet
   case rel => exact ⟨_, (true), (by first | rfl | (simp; done) | (simp [*]; done)), H', ⟨by first | omega | exact Nat.le_refl _⟩, ⟨by (with_reducible repeat (first | refine bN ?_ _ | refine bD ?_ | refine bA ?_ _)); exact BK254.out⟩, ⟨by repeat (first | (with_reducible first | exact HB.out | apply wA | apply wN | apply wD | refine wS ?_ GE254.out) | exact HB.out)⟩⟩
  ·
   rw [if_neg c7] at H; have c7b0 : decide (0 < t255) = false := decide_eq_false c7; clear c7
   (first | rw [c7b0] | (simp only [i64_w, i32_w]; rw [c7b0]) | skip)
   replace H := Option.bind_eq_some_iff.mp H; obtain ⟨t256, A100, H⟩ := H; replace H : (if t256 = true then (if a0_0 = 1 then ((potsherdref12_FitsFile.f a1 a2).bind fun t257 => (if t257 = true then (potsherdlaw18_QuotaOnce.j0 k a1 a2 (a2 == 0) a0_0 a0_1 a0_2 l0_3 l0_4) else (potsherdlaw18_QuotaOnce.j0 k a1 a2 true a0_0 a0_1 a0_2 l0_3 l0_4))) else (potsherdlaw18_QuotaOnce.j0 k a1 a2 true a0_0 a0_1 a0_2 l0_3 l0_4)) else (potsherdlaw18_QuotaOnce.j0 k a1 a2 true a0_0 a0_1 a0_2 l0_3 l0_4)) = some true := H; have A10 := Aside0.mk A100; clear A100
   by_cases c11 : t256 = true
   ·
    subst c11
    have H1 : (if a0_0 = 1 then ((potsherdref12_FitsFile.f a1 a2).bind fun t257 => (if t257 = true then (potsherdlaw18_QuotaOnce.j0 k a1 a2 (a2 == 0) a0_0 a0_1 a0_2 l0_3 l0_4) else (potsherdlaw18_QuotaOnce.j0 k a1 a2 true a0_0 a0_1 a0_2 l0_3 l0_4))) else (potsherdlaw18_QuotaOnce.j0 k a1 a2 true a0_0 a0_1 a0_2 l0_3 l0_4)) = some true := by rw [if_pos rfl] at H; exact H
    clear H; have H := H1; clear H1
    by_cases c12 : a0_0 = 1
    ·
     rw [if_pos c12] at H; have c12b0 : (a0_0 == 1) = true := beq_iff_eq.mpr c12; have c12b1 : (a0_0 != 1) = false := bne_eq_false_iff_eq.mpr c12; clear c12; replace H := Option.bind_eq_some_iff.mp H; obtain ⟨t257, A130, H⟩ := H; replace H : (if t257 = true then (potsherdlaw18_QuotaOnce.j0 k a1 a2 (a2 == 0) a0_0 a0_1 a0_2 l0_3 l0_4) else (potsherdlaw18_QuotaOnce.j0 k a1 a2 true a0_0 a0_1 a0_2 l0_3 l0_4)) = some true := H; have A13 := Aside0.mk A130; clear A130
     by_cases c14 : t257 = true
     ·
      subst c14
      have H1 : (potsherdlaw18_QuotaOnce.j0 k a1 a2 (a2 == 0) a0_0 a0_1 a0_2 l0_3 l0_4) = some true := by rw [if_pos rfl] at H; exact H
      clear H; have H := H1; clear H1; have H' := Aside0.mk H; clear H; have hcz15_0 : w5.cell? ⟨gb254, 0, none⟩ = some (.int .i64 a0_0) := (bC BK254.out 0).trans rfl; have hcz15_1 : w5.cell? ⟨gb254, 1, none⟩ = some (.int .i64 a0_1) := (bC BK254.out 1).trans rfl; have hcz15_2 : w5.cell? ⟨gb254, 2, none⟩ = some (.int .i64 a0_2) := (bC BK254.out 2).trans rfl; have hcz15_3 : w5.cell? ⟨gb254, 3, none⟩ = some (.slice A0_3 l0_3.length c0_3) := (bC BK254.out 3).trans rfl; have hcz15_4 : w5.cell? ⟨gb254, 4, none⟩ = some (.slice A0_4 l0_4.length c0_4) := (bC BK254.out 4).trans rfl; have hfz15_0 := bZ BK254.out 0; have hfz15_1 := bZ BK254.out 1; have hfz15_2 := bZ BK254.out 2; have hfz15_3 := bZ BK254.out 3; have hfz15_4 := bZ BK254.out 4
      go_wp2_with (first | ((with_reducible refine gate_callee (f := 14) rfl ?_); refine goesL_ (some 12) rfl rfl Try.func14 (by kernel_rfl) rfl #[.agg #[.int .i64 a0_0, .int .i64 a0_1, .int .i64 a0_2, .slice A0_3 l0_3.length c0_3, .slice A0_4 l0_4.length c0_4]] rfl (by (try simp only [List.map_toArray, List.map_cons, List.map_nil]); first | done | rfl | (simp only [List.length_drop, List.length_take]; rfl)) ?_; (with_reducible refine (potsherdlaw14_Light.calls k a0_0 a0_1 a0_2 _ _ l0_3 _ _ l0_4 t255 _ ?side1 ?side2 ?side3 ?side4 A6.out).mono ?_); (case side1 => repeat (first | exact (Kd.C_below HR0_3.out HB.out) | (with_reducible refine Kd.C_alloc ?_ _) | (with_reducible refine Kd.C_drewN ?_ _) | (with_reducible refine Kd.C_drew ?_))); (case side2 => exact HC0_3.out); (case side3 => repeat (first | exact (Kd.C_below HR0_4.out HB.out) | (with_reducible refine Kd.C_alloc ?_ _) | (with_reducible refine Kd.C_drewN ?_ _) | (with_reducible refine Kd.C_drew ?_))); (case side4 => exact HC0_4.out); rintro e w16 ⟨rfl, hb⟩; refine ⟨_, rfl, ?_⟩; have n0_ := Aside0.mk (bB (g := gb254) (o := .cells #[.int .i64 a0_0, .int .i64 a0_1, .int .i64 a0_2, .slice A0_3 l0_3.length c0_3, .slice A0_4 l0_4.length c0_4] 28 (0, 0)) (by (with_reducible repeat (first | refine bN ?_ _ | refine bD ?_ | refine bA ?_ _)); exact BK254.out) hb); have n1_ := Aside0.mk (below_step (by repeat (first | (with_reducible first | exact HB.out | apply wA | apply wN | apply wD | refine wS ?_ GE254.out) | exact HB.out)) hb); clear BK254; clear HB; have BK254 := n0_; have HB := n1_; clear n0_ n1_; (try clear hb); (try clear hb2); (try clear hk); (try clear hi); have hcz17_0 : w16.cell? ⟨gb254, 0, none⟩ = some (.int .i64 a0_0) := (bC BK254.out 0).trans rfl; have hcz17_1 : w16.cell? ⟨gb254, 1, none⟩ = some (.int .i64 a0_1) := (bC BK254.out 1).trans rfl; have hcz17_2 : w16.cell? ⟨gb254, 2, none⟩ = some (.int .i64 a0_2) := (bC BK254.out 2).trans rfl; have hcz17_3 : w16.cell? ⟨gb254, 3, none⟩ = some (.slice A0_3 l0_3.length c0_3) := (bC BK254.out 3).trans rfl; have hcz17_4 : w16.cell? ⟨gb254, 4, none⟩ = some (.slice A0_4 l0_4.length c0_4) := (bC BK254.out 4).trans rfl; have hfz17_0 := bZ BK254.out 0; have hfz17_1 := bZ BK254.out 1; have hfz17_2 := bZ BK254.out 2; have hfz17_3 := bZ BK254.out 3; have hfz17_4 := bZ BK254.out 4) | (go_at_call 24; (with_reducible refine (potsherdref12_MayNode.calls k a0_0 a0_1 a0_2 _ _ l0_3 _ _ l0_4 true _ ?side1 ?side2 ?side3 ?side4 A10.out).mono ?_); (case side1 => repeat (first | exact (Kd.C_below HR0_3.out HB.out) | (with_reducible refine Kd.C_alloc ?_ _) | (with_reducible refine Kd.C_drewN ?_ _) | (with_reducible refine Kd.C_drew ?_))); (case side2 => exact HC0_3.out); (case side3 => repeat (first | exact (Kd.C_below HR0_4.out HB.out) | (with_reducible refine Kd.C_alloc ?_ _) | (with_reducible refine Kd.C_drewN ?_ _) | (with_reducible refine Kd.C_drew ?_))); (case side4 => exact HC0_4.out); rintro e w18 ⟨rfl, hb⟩; have n0_ := Aside0.mk (bB (g := gb254) (o := .cells #[.int .i64 a0_0, .int .i64 a0_1, .int .i64 a0_2, .slice A0_3 l0_3.length c0_3, .slice A0_4 l0_4.length c0_4] 28 (0, 0)) (by (with_reducible repeat (first | refine bN ?_ _ | refine bD ?_ | refine bA ?_ _)); exact BK254.out) hb); have n1_ := Aside0.mk (below_step (by repeat (first | (with_reducible first | exact HB.out | apply wA | apply wN | apply wD | refine wS ?_ GE254.out) | exact HB.out)) hb); clear BK254; clear HB; have BK254 := n0_; have HB := n1_; clear n0_ n1_; (try clear hb); (try clear hb2); (try clear hk); (try clear hi); have hcz19_0 : w18.cell? ⟨gb254, 0, none⟩ = some (.int .i64 a0_0) := (bC BK254.out 0).trans rfl; have hcz19_1 : w18.cell? ⟨gb254, 1, none⟩ = some (.int .i64 a0_1) := (bC BK254.out 1).trans rfl; have hcz19_2 : w18.cell? ⟨gb254, 2, none⟩ = some (.int .i64 a0_2) := (bC BK254.out 2).trans rfl; have hcz19_3 : w18.cell? ⟨gb254, 3, none⟩ = some (.slice A0_3 l0_3.length c0_3) := (bC BK254.out 3).trans rfl; have hcz19_4 : w18.cell? ⟨gb254, 4, none⟩ = some (.slice A0_4 l0_4.length c0_4) := (bC BK254.out 4).trans rfl; have hfz19_0 := bZ BK254.out 0; have hfz19_1 := bZ BK254.out 1; have hfz19_2 := bZ BK254.out 2; have hfz19_3 := bZ BK254.out 3; have hfz19_4 := bZ BK254.out 4) | (go_at_call 25; (with_reducible refine (potsherdref12_FitsFile.calls a1 a2 true _ A13.out).mono ?_); rintro e w' ⟨rfl, ⟨nd, rfl⟩⟩))
      go_meet
      case rel => exact ⟨_, ((a2 == 0)), (by first | rfl | (simp; done) | (simp [*]; done)), H', ⟨by first | omega | exact Nat.le_refl _⟩, ⟨by (with_reducible repeat (first | refine bN ?_ _ | refine bD ?_ | refine bA ?_ _)); exact BK254.out⟩, ⟨by repeat (first | (with_reducible first | exact HB.out | apply wA | apply wN | apply wD | refine wS ?_ GE254.out) | exact HB.out)⟩⟩
     ·
      replace c14 := Bool.eq_false_iff.mpr c14; subst c14
      have H1 : (potsherdlaw18_QuotaOnce.j0 k a1 a2 true a0_0 a0_1 a0_2 l0_3 l0_4) = some true := by rw [if_neg (show ¬ (false = true) by decide)] at H; exact H
      clear H; have H := H1; clear H1; have H' := Aside0.mk H; clear H; have hcz20_0 : w5.cell? ⟨gb254, 0, none⟩ = some (.int .i64 a0_0) := (bC BK254.out 0).trans rfl; have hcz20_1 : w5.cell? ⟨gb254, 1, none⟩ = some (.int .i64 a0_1) := (bC BK254.out 1).trans rfl; have hcz20_2 : w5.cell? ⟨gb254, 2, none⟩ = some (.int .i64 a0_2) := (bC BK254.out 2).trans rfl; have hcz20_3 : w5.cell? ⟨gb254, 3, none⟩ = some (.slice A0_3 l0_3.length c0_3) := (bC BK254.out 3).trans rfl; have hcz20_4 : w5.cell? ⟨gb254, 4, none⟩ = some (.slice A0_4 l0_4.length c0_4) := (bC BK254.out 4).trans rfl; have hfz20_0 := bZ BK254.out 0; have hfz20_1 := bZ BK254.out 1; have hfz20_2 := bZ BK254.out 2; have hfz20_3 := bZ BK254.out 3; have hfz20_4 := bZ BK254.out 4
      go_wp2_with (first | ((with_reducible refine gate_callee (f := 14) rfl ?_); refine goesL_ (some 12) rfl rfl Try.func14 (by kernel_rfl) rfl #[.agg #[.int .i64 a0_0, .int .i64 a0_1, .int .i64 a0_2, .slice A0_3 l0_3.length c0_3, .slice A0_4 l0_4.length c0_4]] rfl (by (try simp only [List.map_toArray, List.map_cons, List.map_nil]); first | done | rfl | (simp only [List.length_drop, List.length_take]; rfl)) ?_; (with_reducible refine (potsherdlaw14_Light.calls k a0_0 a0_1 a0_2 _ _ l0_3 _ _ l0_4 t255 _ ?side1 ?side2 ?side3 ?side4 A6.out).mono ?_); (case side1 => repeat (first | exact (Kd.C_below HR0_3.out HB.out) | (with_reducible refine Kd.C_alloc ?_ _) | (with_reducible refine Kd.C_drewN ?_ _) | (with_reducible refine Kd.C_drew ?_))); (case side2 => exact HC0_3.out); (case side3 => repeat (first | exact (Kd.C_below HR0_4.out HB.out) | (with_reducible refine Kd.C_alloc ?_ _) | (with_reducible refine Kd.C_drewN ?_ _) | (with_reducible refine Kd.C_drew ?_))); (case side4 => exact HC0_4.out); rintro e w21 ⟨rfl, hb⟩; refine ⟨_, rfl, ?_⟩; have n0_ := Aside0.mk (bB (g := gb254) (o := .cells #[.int .i64 a0_0, .int .i64 a0_1, .int .i64 a0_2, .slice A0_3 l0_3.length c0_3, .slice A0_4 l0_4.length c0_4] 28 (0, 0)) (by (with_reducible repeat (first | refine bN ?_ _ | refine bD ?_ | refine bA ?_ _)); exact BK254.out) hb); have n1_ := Aside0.mk (below_step (by repeat (first | (with_reducible first | exact HB.out | apply wA | apply wN | apply wD | refine wS ?_ GE254.out) | exact HB.out)) hb); clear BK254; clear HB; have BK254 := n0_; have HB := n1_; clear n0_ n1_; (try clear hb); (try clear hb2); (try clear hk); (try clear hi); have hcz22_0 : w21.cell? ⟨gb254, 0, none⟩ = some (.int .i64 a0_0) := (bC BK254.out 0).trans rfl; have hcz22_1 : w21.cell? ⟨gb254, 1, none⟩ = some (.int .i64 a0_1) := (bC BK254.out 1).trans rfl; have hcz22_2 : w21.cell? ⟨gb254, 2, none⟩ = some (.int .i64 a0_2) := (bC BK254.out 2).trans rfl; have hcz22_3 : w21.cell? ⟨gb254, 3, none⟩ = some (.slice A0_3 l0_3.length c0_3) := (bC BK254.out 3).trans rfl; have hcz22_4 : w21.cell? ⟨gb254, 4, none⟩ = some (.slice A0_4 l0_4.length c0_4) := (bC BK254.out 4).trans rfl; have hfz22_0 := bZ BK254.out 0; have hfz22_1 := bZ BK254.out 1; have hfz22_2 := bZ BK254.out 2; have hfz22_3 := bZ BK254.out 3; have hfz22_4 := bZ BK254.out 4) | (go_at_call 24; (with_reducible refine (potsherdref12_MayNode.calls k a0_0 a0_1 a0_2 _ _ l0_3 _ _ l0_4 true _ ?side1 ?side2 ?side3 ?side4 A10.out).mono ?_); (case side1 => repeat (first | exact (Kd.C_below HR0_3.out HB.out) | (with_reducible refine Kd.C_alloc ?_ _) | (with_reducible refine Kd.C_drewN ?_ _) | (with_reducible refine Kd.C_drew ?_))); (case side2 => exact HC0_3.out); (case side3 => repeat (first | exact (Kd.C_below HR0_4.out HB.out) | (with_reducible refine Kd.C_alloc ?_ _) | (with_reducible refine Kd.C_drewN ?_ _) | (with_reducible refine Kd.C_drew ?_))); (case side4 => exact HC0_4.out); rintro e w23 ⟨rfl, hb⟩; have n0_ := Aside0.mk (bB (g := gb254) (o := .cells #[.int .i64 a0_0, .int .i64 a0_1, .int .i64 a0_2, .slice A0_3 l0_3.length c0_3, .slice A0_4 l0_4.length c0_4] 28 (0, 0)) (by (with_reducible repeat (first | refine bN ?_ _ | refine bD ?_ | refine bA ?_ _)); exact BK254.out) hb); have n1_ := Aside0.mk (below_step (by repeat (first | (with_reducible first | exact HB.out | apply wA | apply wN | apply wD | refine wS ?_ GE254.out) | exact HB.out)) hb); clear BK254; clear HB; have BK254 := n0_; have HB := n1_; clear n0_ n1_; (try clear hb); (try clear hb2); (try clear hk); (try clear hi); have hcz24_0 : w23.cell? ⟨gb254, 0, none⟩ = some (.int .i64 a0_0) := (bC BK254.out 0).trans rfl; have hcz24_1 : w23.cell? ⟨gb254, 1, none⟩ = some (.int .i64 a0_1) := (bC BK254.out 1).trans rfl; have hcz24_2 : w23.cell? ⟨gb254, 2, none⟩ = some (.int .i64 a0_2) := (bC BK254.out 2).trans rfl; have hcz24_3 : w23.cell? ⟨gb254, 3, none⟩ = some (.slice A0_3 l0_3.length c0_3) := (bC BK254.out 3).trans rfl; have hcz24_4 : w23.cell? ⟨gb254, 4, none⟩ = some (.slice A0_4 l0_4.length c0_4) := (bC BK254.out 4).trans rfl; have hfz24_0 := bZ BK254.out 0; have hfz24_1 := bZ BK254.out 1; have hfz24_2 := bZ BK254.out 2; have hfz24_3 := bZ BK254.out 3; have hfz24_4 := bZ BK254.out 4) | (go_at_call 25; (with_reducible refine (potsherdref12_FitsFile.calls a1 a2 false _ A13.out).mono ?_); rintro e w' ⟨rfl, ⟨nd, rfl⟩⟩))
      go_meet
      case rel => exact ⟨_, (true), (by first | rfl | (simp; done) | (simp [*]; done)), H', ⟨by first | omega | exact Nat.le_refl _⟩, ⟨by (with_reducible repeat (first | refine bN ?_ _ | refine bD ?_ | refine bA ?_ _)); exact BK254.out⟩, ⟨by repeat (first | (with_reducible first | exact HB.out | apply wA | apply wN | apply wD | refine wS ?_ GE254.out) | exact HB.out)⟩⟩
    ·
     rw [if_neg c12] at H; have c12b0 : (a0_0 == 1) = false := beq_eq_false_iff_ne.mpr c12; have c12b1 : (a0_0 != 1) = true := bne_iff_ne.mpr c12; have H' := Aside0.mk H; clear H; have hcz25_0 : w5.cell? ⟨gb254, 0, none⟩ = some (.int .i64 a0_0) := (bC BK254.out 0).trans rfl; have hcz25_1 : w5.cell? ⟨gb254, 1, none⟩ = some (.int .i64 a0_1) := (bC BK254.out 1).trans rfl; have hcz25_2 : w5.cell? ⟨gb254, 2, none⟩ = some (.int .i64 a0_2) := (bC BK254.out 2).trans rfl; have hcz25_3 : w5.cell? ⟨gb254, 3, none⟩ = some (.slice A0_3 l0_3.length c0_3) := (bC BK254.out 3).trans rfl; have hcz25_4 : w5.cell? ⟨gb254, 4, none⟩ = some (.slice A0_4 l0_4.length c0_4) := (bC BK254.out 4).trans rfl; have hfz25_0 := bZ BK254.out 0; have hfz25_1 := bZ BK254.out 1; have hfz25_2 := bZ BK254.out 2; have hfz25_3 := bZ BK254.out 3; have hfz25_4 := bZ BK254.out 4
     go_wp2_with (first | ((with_reducible refine gate_callee (f := 14) rfl ?_); refine goesL_ (some 12) rfl rfl Try.func14 (by kernel_rfl) rfl #[.agg #[.int .i64 a0_0, .int .i64 a0_1, .int .i64 a0_2, .slice A0_3 l0_3.length c0_3, .slice A0_4 l0_4.length c0_4]] rfl (by (try simp only [List.map_toArray, List.map_cons, List.map_nil]); first | done | rfl | (simp only [List.length_drop, List.length_take]; rfl)) ?_; (with_reducible refine (potsherdlaw14_Light.calls k a0_0 a0_1 a0_2 _ _ l0_3 _ _ l0_4 t255 _ ?side1 ?side2 ?side3 ?side4 A6.out).mono ?_); (case side1 => repeat (first | exact (Kd.C_below HR0_3.out HB.out) | (with_reducible refine Kd.C_alloc ?_ _) | (with_reducible refine Kd.C_drewN ?_ _) | (with_reducible refine Kd.C_drew ?_))); (case side2 => exact HC0_3.out); (case side3 => repeat (first | exact (Kd.C_below HR0_4.out HB.out) | (with_reducible refine Kd.C_alloc ?_ _) | (with_reducible refine Kd.C_drewN ?_ _) | (with_reducible refine Kd.C_drew ?_))); (case side4 => exact HC0_4.out); rintro e w26 ⟨rfl, hb⟩; refine ⟨_, rfl, ?_⟩; have n0_ := Aside0.mk (bB (g := gb254) (o := .cells #[.int .i64 a0_0, .int .i64 a0_1, .int .i64 a0_2, .slice A0_3 l0_3.length c0_3, .slice A0_4 l0_4.length c0_4] 28 (0, 0)) (by (with_reducible repeat (first | refine bN ?_ _ | refine bD ?_ | refine bA ?_ _)); exact BK254.out) hb); have n1_ := Aside0.mk (below_step (by repeat (first | (with_reducible first | exact HB.out | apply wA | apply wN | apply wD | refine wS ?_ GE254.out) | exact HB.out)) hb); clear BK254; clear HB; have BK254 := n0_; have HB := n1_; clear n0_ n1_; (try clear hb); (try clear hb2); (try clear hk); (try clear hi); have hcz27_0 : w26.cell? ⟨gb254, 0, none⟩ = some (.int .i64 a0_0) := (bC BK254.out 0).trans rfl; have hcz27_1 : w26.cell? ⟨gb254, 1, none⟩ = some (.int .i64 a0_1) := (bC BK254.out 1).trans rfl; have hcz27_2 : w26.cell? ⟨gb254, 2, none⟩ = some (.int .i64 a0_2) := (bC BK254.out 2).trans rfl; have hcz27_3 : w26.cell? ⟨gb254, 3, none⟩ = some (.slice A0_3 l0_3.length c0_3) := (bC BK254.out 3).trans rfl; have hcz27_4 : w26.cell? ⟨gb254, 4, none⟩ = some (.slice A0_4 l0_4.length c0_4) := (bC BK254.out 4).trans rfl; have hfz27_0 := bZ BK254.out 0; have hfz27_1 := bZ BK254.out 1; have hfz27_2 := bZ BK254.out 2; have hfz27_3 := bZ BK254.out 3; have hfz27_4 := bZ BK254.out 4) | (go_at_call 24; (with_reducible refine (potsherdref12_MayNode.calls k a0_0 a0_1 a0_2 _ _ l0_3 _ _ l0_4 true _ ?side1 ?side2 ?side3 ?side4 A10.out).mono ?_); (case side1 => repeat (first | exact (Kd.C_below HR0_3.out HB.out) | (with_reducible refine Kd.C_alloc ?_ _) | (with_reducible refine Kd.C_drewN ?_ _) | (with_reducible refine Kd.C_drew ?_))); (case side2 => exact HC0_3.out); (case side3 => repeat (first | exact (Kd.C_below HR0_4.out HB.out) | (with_reducible refine Kd.C_alloc ?_ _) | (with_reducible refine Kd.C_drewN ?_ _) | (with_reducible refine Kd.C_drew ?_))); (case side4 => exact HC0_4.out); rintro e w28 ⟨rfl, hb⟩; have n0_ := Aside0.mk (bB (g := gb254) (o := .cells #[.int .i64 a0_0, .int .i64 a0_1, .int .i64 a0_2, .slice A0_3 l0_3.length c0_3, .slice A0_4 l0_4.length c0_4] 28 (0, 0)) (by (with_reducible repeat (first | refine bN ?_ _ | refine bD ?_ | refine bA ?_ _)); exact BK254.out) hb); have n1_ := Aside0.mk (below_step (by repeat (first | (with_reducible first | exact HB.out | apply wA | apply wN | apply wD | refine wS ?_ GE254.out) | exact HB.out)) hb); clear BK254; clear HB; have BK254 := n0_; have HB := n1_; clear n0_ n1_; (try clear hb); (try clear hb2); (try clear hk); (try clear hi); have hcz29_0 : w28.cell? ⟨gb254, 0, none⟩ = some (.int .i64 a0_0) := (bC BK254.out 0).trans rfl; have hcz29_1 : w28.cell? ⟨gb254, 1, none⟩ = some (.int .i64 a0_1) := (bC BK254.out 1).trans rfl; have hcz29_2 : w28.cell? ⟨gb254, 2, none⟩ = some (.int .i64 a0_2) := (bC BK254.out 2).trans rfl; have hcz29_3 : w28.cell? ⟨gb254, 3, none⟩ = some (.slice A0_3 l0_3.length c0_3) := (bC BK254.out 3).trans rfl; have hcz29_4 : w28.cell? ⟨gb254, 4, none⟩ = some (.slice A0_4 l0_4.length c0_4) := (bC BK254.out 4).trans rfl; have hfz29_0 := bZ BK254.out 0; have hfz29_1 := bZ BK254.out 1; have hfz29_2 := bZ BK254.out 2; have hfz29_3 := bZ BK254.out 3; have hfz29_4 := bZ BK254.out 4))
     go_meet
     case rel => exact ⟨_, (true), (by first | rfl | (simp; done) | (simp [*]; done)), H', ⟨by first | omega | exact Nat.le_refl _⟩, ⟨by (with_reducible repeat (first | refine bN ?_ _ | refine bD ?_ | refine bA ?_ _)); exact BK254.out⟩, ⟨by repeat (first | (with_reducible first | exact HB.out | apply wA | apply wN | apply wD | refine wS ?_ GE254.out) | exact HB.out)⟩⟩
   ·
    replace c11 := Bool.eq_false_iff.mpr c11; subst c11
    have H1 : (potsherdlaw18_QuotaOnce.j0 k a1 a2 true a0_0 a0_1 a0_2 l0_3 l0_4) = some true := by rw [if_neg (show ¬ (false = true) by decide)] at H; exact H
    clear H; have H := H1; clear H1; have H' := Aside0.mk H; clear H; have hcz30_0 : w5.cell? ⟨gb254, 0, none⟩ = some (.int .i64 a0_0) := (bC BK254.out 0).trans rfl; have hcz30_1 : w5.cell? ⟨gb254, 1, none⟩ = some (.int .i64 a0_1) := (bC BK254.out 1).trans rfl; have hcz30_2 : w5.cell? ⟨gb254, 2, none⟩ = some (.int .i64 a0_2) := (bC BK254.out 2).trans rfl; have hcz30_3 : w5.cell? ⟨gb254, 3, none⟩ = some (.slice A0_3 l0_3.length c0_3) := (bC BK254.out 3).trans rfl; have hcz30_4 : w5.cell? ⟨gb254, 4, none⟩ = some (.slice A0_4 l0_4.length c0_4) := (bC BK254.out 4).trans rfl; have hfz30_0 := bZ BK254.out 0; have hfz30_1 := bZ BK254.out 1; have hfz30_2 := bZ BK254.out 2; have hfz30_3 := bZ BK254.out 3; have hfz30_4 := bZ BK254.out 4
    go_wp2_with (first | ((with_reducible refine gate_callee (f := 14) rfl ?_); refine goesL_ (some 12) rfl rfl Try.func14 (by kernel_rfl) rfl #[.agg #[.int .i64 a0_0, .int .i64 a0_1, .int .i64 a0_2, .slice A0_3 l0_3.length c0_3, .slice A0_4 l0_4.length c0_4]] rfl (by (try simp only [List.map_toArray, List.map_cons, List.map_nil]); first | done | rfl | (simp only [List.length_drop, List.length_take]; rfl)) ?_; (with_reducible refine (potsherdlaw14_Light.calls k a0_0 a0_1 a0_2 _ _ l0_3 _ _ l0_4 t255 _ ?side1 ?side2 ?side3 ?side4 A6.out).mono ?_); (case side1 => repeat (first | exact (Kd.C_below HR0_3.out HB.out) | (with_reducible refine Kd.C_alloc ?_ _) | (with_reducible refine Kd.C_drewN ?_ _) | (with_reducible refine Kd.C_drew ?_))); (case side2 => exact HC0_3.out); (case side3 => repeat (first | exact (Kd.C_below HR0_4.out HB.out) | (with_reducible refine Kd.C_alloc ?_ _) | (with_reducible refine Kd.C_drewN ?_ _) | (with_reducible refine Kd.C_drew ?_))); (case side4 => exact HC0_4.out); rintro e w31 ⟨rfl, hb⟩; refine ⟨_, rfl, ?_⟩; have n0_ := Aside0.mk (bB (g := gb254) (o := .cells #[.int .i64 a0_0, .int .i64 a0_1, .int .i64 a0_2, .slice A0_3 l0_3.length c0_3, .slice A0_4 l0_4.length c0_4] 28 (0, 0)) (by (with_reducible repeat (first | refine bN ?_ _ | refine bD ?_ | refine bA ?_ _)); exact BK254.out) hb); have n1_ := Aside0.mk (below_step (by repeat (first | (with_reducible first | exact HB.out | apply wA | apply wN | apply wD | refine wS ?_ GE254.out) | exact HB.out)) hb); clear BK254; clear HB; have BK254 := n0_; have HB := n1_; clear n0_ n1_; (try clear hb); (try clear hb2); (try clear hk); (try clear hi); have hcz32_0 : w31.cell? ⟨gb254, 0, none⟩ = some (.int .i64 a0_0) := (bC BK254.out 0).trans rfl; have hcz32_1 : w31.cell? ⟨gb254, 1, none⟩ = some (.int .i64 a0_1) := (bC BK254.out 1).trans rfl; have hcz32_2 : w31.cell? ⟨gb254, 2, none⟩ = some (.int .i64 a0_2) := (bC BK254.out 2).trans rfl; have hcz32_3 : w31.cell? ⟨gb254, 3, none⟩ = some (.slice A0_3 l0_3.length c0_3) := (bC BK254.out 3).trans rfl; have hcz32_4 : w31.cell? ⟨gb254, 4, none⟩ = some (.slice A0_4 l0_4.length c0_4) := (bC BK254.out 4).trans rfl; have hfz32_0 := bZ BK254.out 0; have hfz32_1 := bZ BK254.out 1; have hfz32_2 := bZ BK254.out 2; have hfz32_3 := bZ BK254.out 3; have hfz32_4 := bZ BK254.out 4) | (go_at_call 24; (with_reducible refine (potsherdref12_MayNode.calls k a0_0 a0_1 a0_2 _ _ l0_3 _ _ l0_4 false _ ?side1 ?side2 ?side3 ?side4 A10.out).mono ?_); (case side1 => repeat (first | exact (Kd.C_below HR0_3.out HB.out) | (with_reducible refine Kd.C_alloc ?_ _) | (with_reducible refine Kd.C_drewN ?_ _) | (with_reducible refine Kd.C_drew ?_))); (case side2 => exact HC0_3.out); (case side3 => repeat (first | exact (Kd.C_below HR0_4.out HB.out) | (with_reducible refine Kd.C_alloc ?_ _) | (with_reducible refine Kd.C_drewN ?_ _) | (with_reducible refine Kd.C_drew ?_))); (case side4 => exact HC0_4.out); rintro e w33 ⟨rfl, hb⟩; have n0_ := Aside0.mk (bB (g := gb254) (o := .cells #[.int .i64 a0_0, .int .i64 a0_1, .int .i64 a0_2, .slice A0_3 l0_3.length c0_3, .slice A0_4 l0_4.length c0_4] 28 (0, 0)) (by (with_reducible repeat (first | refine bN ?_ _ | refine bD ?_ | refine bA ?_ _)); exact BK254.out) hb); have n1_ := Aside0.mk (below_step (by repeat (first | (with_reducible first | exact HB.out | apply wA | apply wN | apply wD | refine wS ?_ GE254.out) | exact HB.out)) hb); clear BK254; clear HB; have BK254 := n0_; have HB := n1_; clear n0_ n1_; (try clear hb); (try clear hb2); (try clear hk); (try clear hi)))
    go_meet
    case rel => exact ⟨_, (true), (by first | rfl | (simp; done) | (simp [*]; done)), H', ⟨by first | omega | exact Nat.le_refl _⟩, ⟨by (with_reducible repeat (first | refine bN ?_ _ | refine bD ?_ | refine bA ?_ _)); exact BK254.out⟩, ⟨by repeat (first | (with_reducible first | exact HB.out | apply wA | apply wN | apply wD | refine wS ?_ GE254.out) | exact HB.out)⟩⟩
 case rest =>
  clear HC4
  try clear c1
  try clear p2
  try clear c4
  try clear c7
  try clear c7b0
  try clear c11
  try clear c12
  try clear c12b0
  try clear c12b1
  try clear c14
  try clear hcz15_0
  try clear hcz15_1
  try clear hcz15_2
  try clear hcz15_3
  try clear hcz15_4
  try clear hcz17_0
  try clear hcz17_1
  try clear hcz17_2
  try clear hcz17_3
  try clear hcz17_4
  try clear hcz19_0
  try clear hcz19_1
  try clear hcz19_2
  try clear hcz19_3
  try clear hcz19_4
  try clear hcz20_0
  try clear hcz20_1
  try clear hcz20_2
  try clear hcz20_3
  try clear hcz20_4
  try clear hcz22_0
  try clear hcz22_1
  try clear hcz22_2
  try clear hcz22_3
  try clear hcz22_4
  try clear hcz24_0
  try clear hcz24_1
  try clear hcz24_2
  try clear hcz24_3
  try clear hcz24_4
  try clear hcz25_0
  try clear hcz25_1
  try clear hcz25_2
  try clear hcz25_3
  try clear hcz25_4
  try clear hcz27_0
  try clear hcz27_1
  try clear hcz27_2
  try clear hcz27_3
  try clear hcz27_4
  try clear hcz29_0
  try clear hcz29_1
  try clear hcz29_2
  try clear hcz29_3
  try clear hcz29_4
  try clear hcz30_0
  try clear hcz30_1
  try clear hcz30_2
  try clear hcz30_3
  try clear hcz30_4
  try clear hcz32_0
  try clear hcz32_1
  try clear hcz32_2
  try clear hcz32_3
  try clear hcz32_4
  try clear hcz8_0
  try clear hcz8_1
  try clear hcz8_2
  try clear hcz8_3
  try clear hcz8_4
  try clear hfz15_0
  try clear hfz15_1
  try clear hfz15_2
  try clear hfz15_3
  try clear hfz15_4
  try clear hfz17_0
  try clear hfz17_1
  try clear hfz17_2
  try clear hfz17_3
  try clear hfz17_4
  try clear hfz19_0
  try clear hfz19_1
  try clear hfz19_2
  try clear hfz19_3
  try clear hfz19_4
  try clear hfz20_0
  try clear hfz20_1
  try clear hfz20_2
  try clear hfz20_3
  try clear hfz20_4
  try clear hfz22_0
  try clear hfz22_1
  try clear hfz22_2
  try clear hfz22_3
  try clear hfz22_4
  try clear hfz24_0
  try clear hfz24_1
  try clear hfz24_2
  try clear hfz24_3
  try clear hfz24_4
  try clear hfz25_0
  try clear hfz25_1
  try clear hfz25_2
  try clear hfz25_3
  try clear hfz25_4
  try clear hfz27_0
  try clear hfz27_1
  try clear hfz27_2
  try clear hfz27_3
  try clear hfz27_4
  try clear hfz29_0
  try clear hfz29_1
  try clear hfz29_2
  try clear hfz29_3
  try clear hfz29_4
  try clear hfz30_0
  try clear hfz30_1
  try clear hfz30_2
  try clear hfz30_3
  try clear hfz30_4
  try clear hfz32_0
  try clear hfz32_1
  try clear hfz32_2
  try clear hfz32_3
  try clear hfz32_4
  try clear hfz8_0
  try clear hfz8_1
  try clear hfz8_2
  try clear hfz8_3
  try clear hfz8_4
  obtain ⟨kq, x33_3, rfl, HA, HJ3, BK254, HB⟩ := hcut
  cases kq with
  | zero => exact absurd HA.out (by simp [potsherdlaw18_QuotaOnce.j0])
  | succ kj3 =>
   have H := HA.out; clear HA; simp only [potsherdlaw18_QuotaOnce.j0] at H
   by_cases c34 : x33_3 = true
   ·
    subst c34
    have H1 : ((potsherdlaw18_awake.f kj3).bind fun t258 => (some t258)) = some true := by rw [if_pos rfl] at H; exact H
    clear H; have H := H1; clear H1; replace H := Option.bind_eq_some_iff.mp H; obtain ⟨t258, A350, H⟩ := H; replace H : (some t258) = some true := H; have A35 := Aside0.mk A350; clear A350; have HRET := Aside0.mk (Option.some.inj H); clear H
    go_wp2_with (first | ((with_reducible refine gate_callee (f := 15) rfl ?_); refine goesL_ (some 34) rfl rfl Try.func15 (by kernel_rfl) rfl #[] rfl (by (try simp only [List.map_toArray, List.map_cons, List.map_nil]); first | done | rfl | (simp only [List.length_drop, List.length_take]; rfl)) ?_; (with_reducible refine (potsherdlaw18_awake.calls kj3  t258 _ A35.out).mono ?_); rintro e w36 ⟨rfl, hb⟩; refine ⟨_, rfl, ?_⟩; have n0_ := Aside0.mk (bB (g := gb254) (o := .cells #[.int .i64 a0_0, .int .i64 a0_1, .int .i64 a0_2, .slice A0_3 l0_3.length c0_3, .slice A0_4 l0_4.length c0_4] 28 (0, 0)) (by (with_reducible repeat (first | refine bN ?_ _ | refine bD ?_ | refine bA ?_ _)); exact BK254.out) hb); have n1_ := Aside0.mk (below_step (by repeat (first | (with_reducible first | exact HB.out | apply wA | apply wN | apply wD | refine wS ?_ GE254.out) | exact HB.out)) hb); clear BK254; clear HB; have BK254 := n0_; have HB := n1_; clear n0_ n1_; (try clear hb); (try clear hb2); (try clear hk); (try clear hi)))
    go_ret
    exact ⟨by first | rfl | exact congrArg (fun b_ => Ending.returned (Value.bool b_)) HRET.out | (rw [HRET.out]) | (simp [errW_none, errW_some] <;> rfl) | (simp [*, errW_none, errW_some] <;> rfl), by repeat (first | (with_reducible first | exact HB.out | apply wA | apply wN | apply wD | refine wS ?_ GE254.out) | exact HB.out)⟩
   ·
    replace c34 := Bool.eq_false_iff.mpr c34; subst c34
    have H1 : ((quota_More.f kj3 a0_0 a0_1 a0_2 l0_3 l0_4 a1 a2).bind fun t259 => ((potsherdref12_CopyNode.f a0_0 a0_1 a0_2 l0_3 l0_4).bind fun bt260 => ((potsherdref12_Pieces.f kj3 a1 a2).bind fun t270 => (potsherdlaw18_QuotaOnce.l0 kj3 a1 a2 t259 t270 (t270.length : Int) 0 a0_0 a0_1 a0_2 l0_3 l0_4 bt260.1 bt260.2.1 (mx a0_2 (wrap64 (a1 + a2))) bt260.2.2.2.1 bt260.2.2.2.2)))) = some true := by rw [if_neg (show ¬ (false = true) by decide)] at H; exact H
    clear H; have H := H1; clear H1; replace H := Option.bind_eq_some_iff.mp H; obtain ⟨t259, A370, H⟩ := H; replace H : ((potsherdref12_CopyNode.f a0_0 a0_1 a0_2 l0_3 l0_4).bind fun bt260 => ((potsherdref12_Pieces.f kj3 a1 a2).bind fun t270 => (potsherdlaw18_QuotaOnce.l0 kj3 a1 a2 t259 t270 (t270.length : Int) 0 a0_0 a0_1 a0_2 l0_3 l0_4 bt260.1 bt260.2.1 (mx a0_2 (wrap64 (a1 + a2))) bt260.2.2.2.1 bt260.2.2.2.2))) = some true := H; have A37 := Aside0.mk A370; clear A370; replace H := Option.bind_eq_some_iff.mp H; obtain ⟨⟨t260, t261, t262, t263, t266⟩, A380, H⟩ := H; replace H : ((potsherdref12_Pieces.f kj3 a1 a2).bind fun t270 => (potsherdlaw18_QuotaOnce.l0 kj3 a1 a2 t259 t270 (t270.length : Int) 0 a0_0 a0_1 a0_2 l0_3 l0_4 t260 t261 (mx a0_2 (wrap64 (a1 + a2))) t263 t266)) = some true := H; have A38 := Aside0.mk A380; clear A380; obtain ⟨ji39, hji39⟩ : ∃ j_ : Int, (mx a0_2 (wrap64 (a1 + a2))) = j_ := ⟨_, rfl⟩
    replace H : ((potsherdref12_Pieces.f kj3 a1 a2).bind fun t270 => (potsherdlaw18_QuotaOnce.l0 kj3 a1 a2 t259 t270 (t270.length : Int) 0 a0_0 a0_1 a0_2 l0_3 l0_4 t260 t261 ji39 t263 t266)) = some true := by first | (rw [hji39] at H; exact H) | (simp only [hji39] at H ⊢; exact H)
    (try rw [hji39] at A37)
    (try rw [hji39] at A38)
    have hji39_ : (if a0_2 < (wrap64 (a1 + a2)) then (wrap64 (a1 + a2)) else a0_2) = ji39 := hji39; replace H := Option.bind_eq_some_iff.mp H; obtain ⟨t270, A400, H⟩ := H; replace H : (potsherdlaw18_QuotaOnce.l0 kj3 a1 a2 t259 t270 (t270.length : Int) 0 a0_0 a0_1 a0_2 l0_3 l0_4 t260 t261 ji39 t263 t266) = some true := H; have A40 := Aside0.mk A400; clear A400; have H' := Aside0.mk H; clear H; have hcz41_0 : wc.cell? ⟨gb254, 0, none⟩ = some (.int .i64 a0_0) := (bC BK254.out 0).trans rfl; have hcz41_1 : wc.cell? ⟨gb254, 1, none⟩ = some (.int .i64 a0_1) := (bC BK254.out 1).trans rfl; have hcz41_2 : wc.cell? ⟨gb254, 2, none⟩ = some (.int .i64 a0_2) := (bC BK254.out 2).trans rfl; have hcz41_3 : wc.cell? ⟨gb254, 3, none⟩ = some (.slice A0_3 l0_3.length c0_3) := (bC BK254.out 3).trans rfl; have hcz41_4 : wc.cell? ⟨gb254, 4, none⟩ = some (.slice A0_4 l0_4.length c0_4) := (bC BK254.out 4).trans rfl; have hfz41_0 := bZ BK254.out 0; have hfz41_1 := bZ BK254.out 1; have hfz41_2 := bZ BK254.out 2; have hfz41_3 := bZ BK254.out 3; have hfz41_4 := bZ BK254.out 4
    go_wp2_with (first | ((with_reducible refine gate_callee (f := 22) rfl ?_); refine goesL_ (some 38) rfl rfl Try.func22 (by kernel_rfl) rfl #[.agg #[.int .i64 a0_0, .int .i64 a0_1, .int .i64 a0_2, .slice A0_3 l0_3.length c0_3, .slice A0_4 l0_4.length c0_4], .int .i64 a1, .int .i64 a2] rfl (by (try simp only [List.map_toArray, List.map_cons, List.map_nil]); first | done | rfl | (simp only [List.length_drop, List.length_take]; rfl)) ?_; (with_reducible refine (quota_More.calls kj3 a0_0 a0_1 a0_2 _ _ l0_3 _ _ l0_4 a1 a2 t259 _ ?side1 ?side2 ?side3 ?side4 A37.out).mono ?_); (case side1 => repeat (first | exact (Kd.C_below HR0_3.out HB.out) | (with_reducible refine Kd.C_alloc ?_ _) | (with_reducible refine Kd.C_drewN ?_ _) | (with_reducible refine Kd.C_drew ?_))); (case side2 => exact HC0_3.out); (case side3 => repeat (first | exact (Kd.C_below HR0_4.out HB.out) | (with_reducible refine Kd.C_alloc ?_ _) | (with_reducible refine Kd.C_drewN ?_ _) | (with_reducible refine Kd.C_drew ?_))); (case side4 => exact HC0_4.out); rintro e w42 ⟨rfl, hb⟩; refine ⟨_, rfl, ?_⟩; have n0_ := Aside0.mk (bB (g := gb254) (o := .cells #[.int .i64 a0_0, .int .i64 a0_1, .int .i64 a0_2, .slice A0_3 l0_3.length c0_3, .slice A0_4 l0_4.length c0_4] 28 (0, 0)) (by (with_reducible repeat (first | refine bN ?_ _ | refine bD ?_ | refine bA ?_ _)); exact BK254.out) hb); have n1_ := Aside0.mk (below_step (by repeat (first | (with_reducible first | exact HB.out | apply wA | apply wN | apply wD | refine wS ?_ GE254.out) | exact HB.out)) hb); clear BK254; clear HB; have BK254 := n0_; have HB := n1_; clear n0_ n1_; (try clear hb); (try clear hb2); (try clear hk); (try clear hi); have hcz43_0 : w42.cell? ⟨gb254, 0, none⟩ = some (.int .i64 a0_0) := (bC BK254.out 0).trans rfl; have hcz43_1 : w42.cell? ⟨gb254, 1, none⟩ = some (.int .i64 a0_1) := (bC BK254.out 1).trans rfl; have hcz43_2 : w42.cell? ⟨gb254, 2, none⟩ = some (.int .i64 a0_2) := (bC BK254.out 2).trans rfl; have hcz43_3 : w42.cell? ⟨gb254, 3, none⟩ = some (.slice A0_3 l0_3.length c0_3) := (bC BK254.out 3).trans rfl; have hcz43_4 : w42.cell? ⟨gb254, 4, none⟩ = some (.slice A0_4 l0_4.length c0_4) := (bC BK254.out 4).trans rfl; have hfz43_0 := bZ BK254.out 0; have hfz43_1 := bZ BK254.out 1; have hfz43_2 := bZ BK254.out 2; have hfz43_3 := bZ BK254.out 3; have hfz43_4 := bZ BK254.out 4) | ((with_reducible refine gate_callee (f := 26) rfl ?_); refine goesL_ (some 40) rfl rfl Try.func26 (by kernel_rfl) rfl #[.agg #[.int .i64 a0_0, .int .i64 a0_1, .int .i64 a0_2, .slice A0_3 l0_3.length c0_3, .slice A0_4 l0_4.length c0_4]] rfl (by (try simp only [List.map_toArray, List.map_cons, List.map_nil]); first | done | rfl | (simp only [List.length_drop, List.length_take]; rfl)) ?_; (with_reducible refine (potsherdref12_CopyNode.calls a0_0 a0_1 a0_2 _ _ l0_3 _ _ l0_4 t260 t261 t262 t263 t266 _ ?side1 ?side2 ?side3 ?side4 A38.out).mono ?_); (case side1 => repeat (first | exact (Kd.C_below HR0_3.out HB.out) | (with_reducible refine Kd.C_alloc ?_ _) | (with_reducible refine Kd.C_drewN ?_ _) | (with_reducible refine Kd.C_drew ?_))); (case side2 => exact HC0_3.out); (case side3 => repeat (first | exact (Kd.C_below HR0_4.out HB.out) | (with_reducible refine Kd.C_alloc ?_ _) | (with_reducible refine Kd.C_drewN ?_ _) | (with_reducible refine Kd.C_drew ?_))); (case side4 => exact HC0_4.out); rintro e w44 ⟨v264, v267, rfl, ho0, ho1, hb⟩; refine ⟨_, rfl, ?_⟩; have n0_ := Aside0.mk (Kd.R_lower ho0 (below_size (by repeat (first | (with_reducible first | exact HB.out | apply wA | apply wN | apply wD | refine wS ?_ GE254.out) | exact HB.out)))); have n1_ := Aside0.mk (Kd.R_lower ho1 (below_size (by repeat (first | (with_reducible first | exact HB.out | apply wA | apply wN | apply wD | refine wS ?_ GE254.out) | exact HB.out)))); have n2_ := Aside0.mk (bB (g := gb254) (o := .cells #[.int .i64 a0_0, .int .i64 a0_1, .int .i64 a0_2, .slice A0_3 l0_3.length c0_3, .slice A0_4 l0_4.length c0_4] 28 (0, 0)) (by (with_reducible repeat (first | refine bN ?_ _ | refine bD ?_ | refine bA ?_ _)); exact BK254.out) hb); have n3_ := Aside0.mk (below_step (by repeat (first | (with_reducible first | exact HB.out | apply wA | apply wN | apply wD | refine wS ?_ GE254.out) | exact HB.out)) hb); clear BK254; clear HB; have HO265 := n0_; have HO268 := n1_; have BK254 := n2_; have HB := n3_; clear n0_ n1_ n2_ n3_; (try clear hb); (try clear hb2); (try clear hk); (try clear hi); (try clear ho0); (try clear ho1)) | ((with_reducible refine gate_dst (N := 8) rfl ?_); refine box_event ?hg (N := 8) ?hd (cs := #[.int .i64 0, .int .i64 0, .int .i64 0, .slice none 0 0, .slice none 0 0]) (t := 28) ?hr ?_; (case hd => rfl); (case hg => rfl); (case hr => first | (go_simp; done) | (go_simp; rfl)); intro gb269 hg w45 hbox hb; have n0_ := Aside0.mk (Kd.R_below (by (with_reducible repeat (first | apply Kd.R_alloc | apply Kd.R_drewN | apply Kd.R_drew)); exact HO265.out) hb); have n1_ := Aside0.mk (Kd.R_below (by (with_reducible repeat (first | apply Kd.R_alloc | apply Kd.R_drewN | apply Kd.R_drew)); exact HO268.out) hb); have n2_ := Aside0.mk (bB (g := gb254) (o := .cells #[.int .i64 a0_0, .int .i64 a0_1, .int .i64 a0_2, .slice A0_3 l0_3.length c0_3, .slice A0_4 l0_4.length c0_4] 28 (0, 0)) (by (with_reducible repeat (first | refine bN ?_ _ | refine bD ?_ | refine bA ?_ _)); exact BK254.out) hb); have n3_ := Aside0.mk (below_step (by repeat (first | (with_reducible first | exact HB.out | apply wA | apply wN | apply wD | refine wS ?_ GE254.out) | exact HB.out)) hb); have n4_ := Aside0.mk (hbox); have n5_ := Aside0.mk ((by rw [hg]; exact (below_size (by repeat (first | (with_reducible first | exact HB.out | apply wA | apply wN | apply wD | refine wS ?_ GE254.out) | exact HB.out))) : w.heap.size ≤ gb269)); have n6_ := Aside0.mk ((by rw [hg]; exact (below_size (by repeat (first | (with_reducible first | exact HB.out | apply wA | apply wN | apply wD | refine wS ?_ GE254.out) | exact HB.out))) : w.heap.size ≤ gb269)); have n7_ := Aside0.mk ((by rw [hg]; exact Nat.ne_of_lt (blk_lt (g := gb254) (o := .cells #[.int .i64 a0_0, .int .i64 a0_1, .int .i64 a0_2, .slice A0_3 l0_3.length c0_3, .slice A0_4 l0_4.length c0_4] 28 (0, 0)) (by (with_reducible repeat (first | refine bN ?_ _ | refine bD ?_ | refine bA ?_ _)); exact BK254.out)) : gb254 ≠ gb269)); have n8_ := Aside0.mk ((by rw [hg]; exact Nat.ne_of_gt (blk_lt (g := gb254) (o := .cells #[.int .i64 a0_0, .int .i64 a0_1, .int .i64 a0_2, .slice A0_3 l0_3.length c0_3, .slice A0_4 l0_4.length c0_4] 28 (0, 0)) (by (with_reducible repeat (first | refine bN ?_ _ | refine bD ?_ | refine bA ?_ _)); exact BK254.out)) : gb269 ≠ gb254)); clear HO265; clear HO268; clear BK254; clear HB; have HO265 := n0_; have HO268 := n1_; have BK254 := n2_; have HB := n3_; have BK269 := n4_; have GW269 := n5_; have GE269 := n6_; have NB254_269 := n7_; have NB269_254 := n8_; clear n0_ n1_ n2_ n3_ n4_ n5_ n6_ n7_ n8_; clear hb hbox hg; have hnb46 := NB269_254.out; have hnc46 := NB254_269.out; have hcz47_0 : w45.cell? ⟨gb269, 0, none⟩ = some (.int .i64 0) := (bC BK269.out 0).trans rfl; have hcz47_1 : w45.cell? ⟨gb269, 1, none⟩ = some (.int .i64 0) := (bC BK269.out 1).trans rfl; have hcz47_2 : w45.cell? ⟨gb269, 2, none⟩ = some (.int .i64 0) := (bC BK269.out 2).trans rfl; have hcz47_3 : w45.cell? ⟨gb269, 3, none⟩ = some (.slice none 0 0) := (bC BK269.out 3).trans rfl; have hcz47_4 : w45.cell? ⟨gb269, 4, none⟩ = some (.slice none 0 0) := (bC BK269.out 4).trans rfl; have hfz47_0 := bZ BK269.out 0; have hfz47_1 := bZ BK269.out 1; have hfz47_2 := bZ BK269.out 2; have hfz47_3 := bZ BK269.out 3; have hfz47_4 := bZ BK269.out 4; obtain ⟨Ao48, co48, eo48⟩ := Kd.R_slice HO265.out; subst eo48; obtain ⟨Ao49, co49, eo49⟩ := Kd.R_slice HO268.out; subst eo49; have hcz50_0 : w45.cell? ⟨gb254, 0, none⟩ = some (.int .i64 a0_0) := (bC BK254.out 0).trans rfl; have hcz50_1 : w45.cell? ⟨gb254, 1, none⟩ = some (.int .i64 a0_1) := (bC BK254.out 1).trans rfl; have hcz50_2 : w45.cell? ⟨gb254, 2, none⟩ = some (.int .i64 a0_2) := (bC BK254.out 2).trans rfl; have hcz50_3 : w45.cell? ⟨gb254, 3, none⟩ = some (.slice A0_3 l0_3.length c0_3) := (bC BK254.out 3).trans rfl; have hcz50_4 : w45.cell? ⟨gb254, 4, none⟩ = some (.slice A0_4 l0_4.length c0_4) := (bC BK254.out 4).trans rfl; have hfz50_0 := bZ BK254.out 0; have hfz50_1 := bZ BK254.out 1; have hfz50_2 := bZ BK254.out 2; have hfz50_3 := bZ BK254.out 3; have hfz50_4 := bZ BK254.out 4) | ((with_reducible refine gate_callee (f := 27) rfl ?_); refine goesL_ (some 50) rfl rfl Try.func27 (by kernel_rfl) rfl #[.int .i64 a1, .int .i64 a2] rfl (by (try simp only [List.map_toArray, List.map_cons, List.map_nil]); first | done | rfl | (simp only [List.length_drop, List.length_take]; rfl)) ?_; (with_reducible refine (potsherdref12_Pieces.calls kj3 a1 a2 t270 _ A40.out).mono ?_); rintro e w51 ⟨v271, rfl, ho0, hb⟩; refine ⟨_, rfl, ?_⟩; have n0_ := Aside0.mk (Kd.R_below (by (with_reducible repeat (first | apply Kd.R_alloc | apply Kd.R_drewN | apply Kd.R_drew)); exact (Kd.R_mono (Kd.R_far (p := ⟨gb269, 2, none⟩) (Kd.R_far (p := ⟨gb269, 4, none⟩) (Kd.R_far (p := ⟨gb269, 3, none⟩) (Kd.R_far (p := ⟨gb269, 2, none⟩) (Kd.R_far (p := ⟨gb269, 1, none⟩) (Kd.R_far (p := ⟨gb269, 0, none⟩) (Kd.R_types HO265.out BK269.out (by decide)) (fun _ hk => hk.2) (.int .i64 t260)) (fun _ hk => hk.2) (.int .i64 t261)) (fun _ hk => hk.2) (.int .i64 t262)) (fun _ hk => hk.2) (.slice Ao48 t263.length co48)) (fun _ hk => hk.2) (.slice Ao49 t266.length co49)) (fun _ hk => hk.2) (.int .i64 ji39)) (fun _ h_ => h_.1))) hb); have n1_ := Aside0.mk (Kd.R_below (by (with_reducible repeat (first | apply Kd.R_alloc | apply Kd.R_drewN | apply Kd.R_drew)); exact (Kd.R_mono (Kd.R_far (p := ⟨gb269, 2, none⟩) (Kd.R_far (p := ⟨gb269, 4, none⟩) (Kd.R_far (p := ⟨gb269, 3, none⟩) (Kd.R_far (p := ⟨gb269, 2, none⟩) (Kd.R_far (p := ⟨gb269, 1, none⟩) (Kd.R_far (p := ⟨gb269, 0, none⟩) (Kd.R_types HO268.out BK269.out (by decide)) (fun _ hk => hk.2) (.int .i64 t260)) (fun _ hk => hk.2) (.int .i64 t261)) (fun _ hk => hk.2) (.int .i64 t262)) (fun _ hk => hk.2) (.slice Ao48 t263.length co48)) (fun _ hk => hk.2) (.slice Ao49 t266.length co49)) (fun _ hk => hk.2) (.int .i64 ji39)) (fun _ h_ => h_.1))) hb); have n2_ := Aside0.mk (Kd.R_lower ho0 (below_size (by repeat (first | (with_reducible first | exact HB.out | apply wA | apply wN | apply wD | refine wS ?_ GE254.out | refine wS ?_ GE269.out) | exact HB.out)))); have n3_ := Aside0.mk (bB (g := gb254) (o := .cells #[.int .i64 a0_0, .int .i64 a0_1, .int .i64 a0_2, .slice A0_3 l0_3.length c0_3, .slice A0_4 l0_4.length c0_4] 28 (0, 0)) (by (with_reducible repeat (first | refine bN ?_ _ | refine bD ?_ | refine bA ?_ _)); refine bF ?_ NB254_269.out _; (with_reducible repeat (first | refine bN ?_ _ | refine bD ?_ | refine bA ?_ _)); refine bF ?_ NB254_269.out _; (with_reducible repeat (first | refine bN ?_ _ | refine bD ?_ | refine bA ?_ _)); refine bF ?_ NB254_269.out _; (with_reducible repeat (first | refine bN ?_ _ | refine bD ?_ | refine bA ?_ _)); refine bF ?_ NB254_269.out _; (with_reducible repeat (first | refine bN ?_ _ | refine bD ?_ | refine bA ?_ _)); refine bF ?_ NB254_269.out _; (with_reducible repeat (first | refine bN ?_ _ | refine bD ?_ | refine bA ?_ _)); refine bF ?_ NB254_269.out _; (with_reducible repeat (first | refine bN ?_ _ | refine bD ?_ | refine bA ?_ _)); exact BK254.out) hb); have n4_ := Aside0.mk (bB (g := gb269) (o := .cells #[.int .i64 t260, .int .i64 t261, .int .i64 ji39, .slice Ao48 t263.length co48, .slice Ao49 t266.length co49] 28 (0, 0)) (by (with_reducible repeat (first | refine bN ?_ _ | refine bD ?_ | refine bA ?_ _)); refine blk_put (cs := #[.int .i64 t260, .int .i64 t261, .int .i64 t262, .slice Ao48 t263.length co48, .slice Ao49 t266.length co49]) ?_ 2 _ rfl; (with_reducible repeat (first | refine bN ?_ _ | refine bD ?_ | refine bA ?_ _)); refine blk_put (cs := #[.int .i64 t260, .int .i64 t261, .int .i64 t262, .slice Ao48 t263.length co48, .slice none 0 0]) ?_ 4 _ rfl; (with_reducible repeat (first | refine bN ?_ _ | refine bD ?_ | refine bA ?_ _)); refine blk_put (cs := #[.int .i64 t260, .int .i64 t261, .int .i64 t262, .slice none 0 0, .slice none 0 0]) ?_ 3 _ rfl; (with_reducible repeat (first | refine bN ?_ _ | refine bD ?_ | refine bA ?_ _)); refine blk_put (cs := #[.int .i64 t260, .int .i64 t261, .int .i64 0, .slice none 0 0, .slice none 0 0]) ?_ 2 _ rfl; (with_reducible repeat (first | refine bN ?_ _ | refine bD ?_ | refine bA ?_ _)); refine blk_put (cs := #[.int .i64 t260, .int .i64 0, .int .i64 0, .slice none 0 0, .slice none 0 0]) ?_ 1 _ rfl; (with_reducible repeat (first | refine bN ?_ _ | refine bD ?_ | refine bA ?_ _)); refine blk_put (cs := #[.int .i64 0, .int .i64 0, .int .i64 0, .slice none 0 0, .slice none 0 0]) ?_ 0 _ rfl; (with_reducible repeat (first | refine bN ?_ _ | refine bD ?_ | refine bA ?_ _)); exact BK269.out) hb); have n5_ := Aside0.mk (below_step (by repeat (first | (with_reducible first | exact HB.out | apply wA | apply wN | apply wD | refine wS ?_ GE254.out | refine wS ?_ GE269.out) | exact HB.out)) hb); clear HO265; clear HO268; clear BK254; clear BK269; clear HB; have HO265 := n0_; have HO268 := n1_; have HO272 := n2_; have BK254 := n3_; have BK269 := n4_; have HB := n5_; clear n0_ n1_ n2_ n3_ n4_ n5_; (try clear hb); (try clear hb2); (try clear hk); (try clear hi); (try clear ho0); obtain ⟨Ao52, co52, eo52⟩ := Kd.R_slice HO272.out; subst eo52))
    go_loopg [52] kj3 (fun kq v52 w' => ∃ (x52_2 : Int) (x270003_2 : List Int) (u270003 : Value), v52 = .int .i64 x52_2 ∧ Aside0 (potsherdlaw18_QuotaOnce.l0 kq a1 a2 t259 t270 (t270.length : Int) x52_2 a0_0 a0_1 a0_2 l0_3 l0_4 t260 t261 ji39 x270003_2 t266 = some true) ∧ Aside0 (kq ≤ kj3) ∧ Aside0 (Kd.R k41 41 w' w.heap.size (fun _ => True) (.slice Ao52 t270.length co52) t270) ∧ Aside0 (Kd.R (Kd.int .i64) 3 w' w.heap.size (fun _ => True) u270003 x270003_2) ∧ Aside0 (Kd.R k78 78 w' w.heap.size (fun _ => True) (.slice Ao49 t266.length co49) t266) ∧ Aside0 (w'.heap[gb254]? = some (.cells #[.int .i64 a0_0, .int .i64 a0_1, .int .i64 a0_2, (.slice A0_3 l0_3.length c0_3), (.slice A0_4 l0_4.length c0_4)] 28 (0, 0))) ∧ Aside0 (w'.heap[gb269]? = some (.cells #[.int .i64 t260, .int .i64 t261, .int .i64 ji39, u270003, (.slice Ao49 t266.length co49)] 28 (0, 0))) ∧ Aside0 (Below w.heap.size w w'))
    case atStart => exact ⟨(0), (t263), (.slice Ao48 t263.length co48), (by first | rfl | (simp; done) | (simp [*]; done)), H', ⟨Nat.le_refl _⟩, ⟨by (with_reducible repeat (first | apply Kd.R_alloc | apply Kd.R_drewN | apply Kd.R_drew)); exact HO272.out⟩, ⟨by (with_reducible repeat (first | apply Kd.R_alloc | apply Kd.R_drewN | apply Kd.R_drew)); exact HO265.out⟩, ⟨by (with_reducible repeat (first | apply Kd.R_alloc | apply Kd.R_drewN | apply Kd.R_drew)); exact HO268.out⟩, ⟨by (with_reducible repeat (first | refine bN ?_ _ | refine bD ?_ | refine bA ?_ _)); exact BK254.out⟩, ⟨by (with_reducible repeat (first | refine bN ?_ _ | refine bD ?_ | refine bA ?_ _)); exact BK269.out⟩, ⟨by repeat (first | (with_reducible first | exact HB.out | apply wA | apply wN | apply wD | refine wS ?_ GE254.out | refine wS ?_ GE269.out) | exact HB.out)⟩⟩
    case round =>
     clear H'
     try clear c1
     try clear c2
     try clear p2
     try clear c3
     try clear c4
     try clear p6
     try clear c7
     try clear c7b0
     try clear c11
     try clear c12
     try clear c12b0
     try clear c12b1
     try clear c14
     try clear c15
     try clear c22
     try clear c26
     try clear c27
     try clear c34
     try clear c46
     try clear hcz15_0
     try clear hcz15_1
     try clear hcz15_2
     try clear hcz15_3
     try clear hcz15_4
     try clear hcz17_0
     try clear hcz17_1
     try clear hcz17_2
     try clear hcz17_3
     try clear hcz17_4
     try clear hcz19_0
     try clear hcz19_1
     try clear hcz19_2
     try clear hcz19_3
     try clear hcz19_4
     try clear hcz20_0
     try clear hcz20_1
     try clear hcz20_2
     try clear hcz20_3
     try clear hcz20_4
     try clear hcz22_0
     try clear hcz22_1
     try clear hcz22_2
     try clear hcz22_3
     try clear hcz22_4
     try clear hcz24_0
     try clear hcz24_1
     try clear hcz24_2
     try clear hcz24_3
     try clear hcz24_4
     try clear hcz25_0
     try clear hcz25_1
     try clear hcz25_2
     try clear hcz25_3
     try clear hcz25_4
     try clear hcz27_0
     try clear hcz27_1
     try clear hcz27_2
     try clear hcz27_3
     try clear hcz27_4
     try clear hcz29_0
     try clear hcz29_1
     try clear hcz29_2
     try clear hcz29_3
     try clear hcz29_4
     try clear hcz30_0
     try clear hcz30_1
     try clear hcz30_2
     try clear hcz30_3
     try clear hcz30_4
     try clear hcz32_0
     try clear hcz32_1
     try clear hcz32_2
     try clear hcz32_3
     try clear hcz32_4
     try clear hcz41_0
     try clear hcz41_1
     try clear hcz41_2
     try clear hcz41_3
     try clear hcz41_4
     try clear hcz43_0
     try clear hcz43_1
     try clear hcz43_2
     try clear hcz43_3
     try clear hcz43_4
     try clear hcz47_0
     try clear hcz47_1
     try clear hcz47_2
     try clear hcz47_3
     try clear hcz47_4
     try clear hcz50_0
     try clear hcz50_1
     try clear hcz50_2
     try clear hcz50_3
     try clear hcz50_4
     try clear hcz8_0
     try clear hcz8_1
     try clear hcz8_2
     try clear hcz8_3
     try clear hcz8_4
     try clear hfz15_0
     try clear hfz15_1
     try clear hfz15_2
     try clear hfz15_3
     try clear hfz15_4
     try clear hfz17_0
     try clear hfz17_1
     try clear hfz17_2
     try clear hfz17_3
     try clear hfz17_4
     try clear hfz19_0
     try clear hfz19_1
     try clear hfz19_2
     try clear hfz19_3
     try clear hfz19_4
     try clear hfz20_0
     try clear hfz20_1
     try clear hfz20_2
     try clear hfz20_3
     try clear hfz20_4
     try clear hfz22_0
     try clear hfz22_1
     try clear hfz22_2
     try clear hfz22_3
     try clear hfz22_4
     try clear hfz24_0
     try clear hfz24_1
     try clear hfz24_2
     try clear hfz24_3
     try clear hfz24_4
     try clear hfz25_0
     try clear hfz25_1
     try clear hfz25_2
     try clear hfz25_3
     try clear hfz25_4
     try clear hfz27_0
     try clear hfz27_1
     try clear hfz27_2
     try clear hfz27_3
     try clear hfz27_4
     try clear hfz29_0
     try clear hfz29_1
     try clear hfz29_2
     try clear hfz29_3
     try clear hfz29_4
     try clear hfz30_0
     try clear hfz30_1
     try clear hfz30_2
     try clear hfz30_3
     try clear hfz30_4
     try clear hfz32_0
     try clear hfz32_1
     try clear hfz32_2
     try clear hfz32_3
     try clear hfz32_4
     try clear hfz41_0
     try clear hfz41_1
     try clear hfz41_2
     try clear hfz41_3
     try clear hfz41_4
     try clear hfz43_0
     try clear hfz43_1
     try clear hfz43_2
     try clear hfz43_3
     try clear hfz43_4
     try clear hfz47_0
     try clear hfz47_1
     try clear hfz47_2
     try clear hfz47_3
     try clear hfz47_4
     try clear hfz50_0
     try clear hfz50_1
     try clear hfz50_2
     try clear hfz50_3
     try clear hfz50_4
     try clear hfz8_0
     try clear hfz8_1
     try clear hfz8_2
     try clear hfz8_3
     try clear hfz8_4
     try clear p2
     obtain ⟨x52_2, x270003_2, u270003, rfl, HA, HK2, HO_50, HO_270003, HO_270004, BK254, BK269, HB⟩ := hrel
     cases gk with
     | zero => exact absurd HA.out (by simp [potsherdlaw18_QuotaOnce.l0])
     | succ k2 =>
      have H := HA.out; clear HA; simp only [potsherdlaw18_QuotaOnce.l0] at H
      by_cases c53 : x52_2 < (t270.length : Int)
      ·
       rw [if_pos c53] at H; have c53b0 : decide (x52_2 < (t270.length : Int)) = true := decide_eq_true c53; clear c53
       by_cases c54 : 0 ≤ x52_2
       ·
        rw [if_pos c54] at H; have c54b0 : decide (0 ≤ x52_2) = true := decide_eq_true c54; clear c54
        by_cases c55 : x52_2 < (t270.length : Int)
        ·
         rw [if_pos c55] at H; have c55b0 : decide (x52_2 < (t270.length : Int)) = true := decide_eq_true c55; clear c55
         by_cases c56 : 0 ≤ ((rd_T41 t270 x52_2).f0)
         ·
          rw [if_pos c56] at H; have c56b0 : decide (0 ≤ ((rd_T41 t270 x52_2).f0)) = true := decide_eq_true c56; clear c56
          by_cases c57 : ((rd_T41 t270 x52_2).f0) < (x270003_2.length : Int)
          ·
           rw [if_pos c57] at H; have c57b0 : decide (((rd_T41 t270 x52_2).f0) < (x270003_2.length : Int)) = true := decide_eq_true c57; clear c57
           by_cases c58 : (rd x270003_2 ((rd_T41 t270 x52_2).f0)) = 0
           ·
            rw [if_pos c58] at H; have c58b0 : ((rd x270003_2 ((rd_T41 t270 x52_2).f0)) == 0) = true := beq_iff_eq.mpr c58; have c58b1 : ((rd x270003_2 ((rd_T41 t270 x52_2).f0)) != 0) = false := bne_eq_false_iff_eq.mpr c58; clear c58; obtain ⟨y276, hy276⟩ : ∃ y_ : List Int, y_ = (x270003_2.set (((rd_T41 t270 x52_2).f0) : Int).toNat (wrap64 (1 + ((rd_T41 t270 x52_2).f0)))) := ⟨_, rfl⟩
            replace H : (potsherdlaw18_QuotaOnce.l0 k2 a1 a2 t259 t270 (t270.length : Int) (wrap64 (x52_2 + 1)) a0_0 a0_1 a0_2 l0_3 l0_4 t260 t261 ji39 y276 t266) = some true := by first | (rw [hy276]; with_reducible exact H) | (have H2_ := (Option.bind_some _ _).symm.trans H; rw [hy276]; with_reducible exact H2_) | (have H2_ := (Option.bind_some _ _).symm.trans H; with_reducible exact H2_) | with_reducible exact H | (rw [hy276]; exact H) | exact H
            have Ny276 := Aside0.mk hy276; clear hy276; have H' := Aside0.mk H; clear H; have p273 : 0 ≤ (x52_2 : Int) := of_decide_eq_true (by first | (with_reducible assumption) | assumption); have q273 : x52_2 < (t270.length : Int) := of_decide_eq_true (by first | (with_reducible assumption) | assumption); obtain ⟨ad273, e273, hx273_0, hx273_1, hx273_2⟩ := at_T41 (Kd.R_reads' HO_50.out).2.2 x52_2 p273 q273
            cases e273
            replace p273 := eq_true p273; replace q273 := eq_true q273
            go_wp2_with (first | ((with_reducible refine gate_dst (N := 10) rfl ?_); refine box_event ?hg (N := 10) ?hd (cs := #[.int .i64 0, .int .i64 0, .int .i64 0]) (t := 41) ?hr ?_; (case hd => rfl); (case hg => rfl); (case hr => first | (go_simp; done) | (go_simp; rfl)); intro gb274 hg w60 hbox hb; have n0_ := Aside0.mk (Kd.R_below (Kd.R_elderB (by (with_reducible repeat (first | apply Kd.R_alloc | apply Kd.R_drewN | apply Kd.R_drew)); exact HO_50.out) gb274 (Nat.le_of_eq hg.symm)) hb); have n1_ := Aside0.mk (Kd.R_below (by (with_reducible repeat (first | apply Kd.R_alloc | apply Kd.R_drewN | apply Kd.R_drew)); exact HO_270003.out) hb); have n2_ := Aside0.mk (Kd.R_below (by (with_reducible repeat (first | apply Kd.R_alloc | apply Kd.R_drewN | apply Kd.R_drew)); exact HO_270004.out) hb); have n3_ := Aside0.mk (bB (g := gb254) (o := .cells #[.int .i64 a0_0, .int .i64 a0_1, .int .i64 a0_2, .slice A0_3 l0_3.length c0_3, .slice A0_4 l0_4.length c0_4] 28 (0, 0)) (by (with_reducible repeat (first | refine bN ?_ _ | refine bD ?_ | refine bA ?_ _)); exact BK254.out) hb); have n4_ := Aside0.mk (bB (g := gb269) (o := .cells #[.int .i64 t260, .int .i64 t261, .int .i64 ji39, u270003, .slice Ao49 t266.length co49] 28 (0, 0)) (by (with_reducible repeat (first | refine bN ?_ _ | refine bD ?_ | refine bA ?_ _)); exact BK269.out) hb); have n5_ := Aside0.mk (below_step (by repeat (first | (with_reducible first | exact HB.out | apply wA | apply wN | apply wD | refine wS ?_ GE254.out | refine wS ?_ GE269.out) | exact HB.out)) hb); have n6_ := Aside0.mk (hbox); have n7_ := Aside0.mk ((by rw [hg]; exact (below_size (by repeat (first | (with_reducible first | exact HB.out | apply wA | apply wN | apply wD | refine wS ?_ GE254.out | refine wS ?_ GE269.out) | exact HB.out))) : w.heap.size ≤ gb274)); have n8_ := Aside0.mk ((by rw [hg]; exact (below_size (by repeat (first | (with_reducible first | exact HB.out | apply wA | apply wN | apply wD | refine wS ?_ GE254.out | refine wS ?_ GE269.out) | exact HB.out))) : w.heap.size ≤ gb274)); have n9_ := Aside0.mk ((by rw [hg]; exact Nat.ne_of_lt (blk_lt (g := gb254) (o := .cells #[.int .i64 a0_0, .int .i64 a0_1, .int .i64 a0_2, .slice A0_3 l0_3.length c0_3, .slice A0_4 l0_4.length c0_4] 28 (0, 0)) (by (with_reducible repeat (first | refine bN ?_ _ | refine bD ?_ | refine bA ?_ _)); exact BK254.out)) : gb254 ≠ gb274)); have n10_ := Aside0.mk ((by rw [hg]; exact Nat.ne_of_gt (blk_lt (g := gb254) (o := .cells #[.int .i64 a0_0, .int .i64 a0_1, .int .i64 a0_2, .slice A0_3 l0_3.length c0_3, .slice A0_4 l0_4.length c0_4] 28 (0, 0)) (by (with_reducible repeat (first | refine bN ?_ _ | refine bD ?_ | refine bA ?_ _)); exact BK254.out)) : gb274 ≠ gb254)); have n11_ := Aside0.mk ((by rw [hg]; exact Nat.ne_of_lt (blk_lt (g := gb269) (o := .cells #[.int .i64 t260, .int .i64 t261, .int .i64 ji39, u270003, .slice Ao49 t266.length co49] 28 (0, 0)) (by (with_reducible repeat (first | refine bN ?_ _ | refine bD ?_ | refine bA ?_ _)); exact BK269.out)) : gb269 ≠ gb274)); have n12_ := Aside0.mk ((by rw [hg]; exact Nat.ne_of_gt (blk_lt (g := gb269) (o := .cells #[.int .i64 t260, .int .i64 t261, .int .i64 ji39, u270003, .slice Ao49 t266.length co49] 28 (0, 0)) (by (with_reducible repeat (first | refine bN ?_ _ | refine bD ?_ | refine bA ?_ _)); exact BK269.out)) : gb274 ≠ gb269)); clear HO_50; clear HO_270003; clear HO_270004; clear BK254; clear BK269; clear HB; have HO_50 := n0_; have HO_270003 := n1_; have HO_270004 := n2_; have BK254 := n3_; have BK269 := n4_; have HB := n5_; have BK274 := n6_; have GW274 := n7_; have GE274 := n8_; have NB254_274 := n9_; have NB274_254 := n10_; have NB269_274 := n11_; have NB274_269 := n12_; clear n0_ n1_ n2_ n3_ n4_ n5_ n6_ n7_ n8_ n9_ n10_ n11_ n12_; clear hb hbox hg; have hnb61 := NB274_254.out; have hnc61 := NB254_274.out; have hnb62 := NB274_269.out; have hnc62 := NB269_274.out; have hcz63_0 : w60.cell? ⟨gb274, 0, none⟩ = some (.int .i64 0) := (bC BK274.out 0).trans rfl; have hcz63_1 : w60.cell? ⟨gb274, 1, none⟩ = some (.int .i64 0) := (bC BK274.out 1).trans rfl; have hcz63_2 : w60.cell? ⟨gb274, 2, none⟩ = some (.int .i64 0) := (bC BK274.out 2).trans rfl; have hfz63_0 := bZ BK274.out 0; have hfz63_1 := bZ BK274.out 1; have hfz63_2 := bZ BK274.out 2) | ((with_reducible refine gate_store (t := 41) (p := 10) rfl ?_); refine store_event (t := 41) (p := 10) (v := ?vo_w64) (w1 := (((w60.setCell ⟨gb274, 0, none⟩ (.int .i64 ((rd_T41 t270 x52_2).f0))).setCell ⟨gb274, 1, none⟩ (.int .i64 ((rd_T41 t270 x52_2).f1))).setCell ⟨gb274, 2, none⟩ (.int .i64 ((rd_T41 t270 x52_2).f2)))) ?hg ?ho ?hn ?hr ?_; (case ho => rfl); (case hg => rfl); (case hn => rfl); (case hr => first | (go_simp; done) | (go_simp; rfl)); intro w64 hw; have n0_ : Aside0 (Kd.R k41 41 w64 w.heap.size (fun k_ => k_ ≠ gb274) (.slice (some ad273) t270.length co52) t270) := ⟨(by rw [hw]; exact (by (with_reducible repeat (first | apply Kd.R_alloc | apply Kd.R_drewN | apply Kd.R_drew)); exact Kd.R_mono (Kd.R_far (p := ⟨gb274, 2, none⟩) (Kd.R_far (p := ⟨gb274, 1, none⟩) (Kd.R_far (p := ⟨gb274, 0, none⟩) (Kd.R_mono HO_50.out (fun k_ hk => (⟨hk, hk.2⟩ : _ ∧ k_ ≠ gb274))) (fun _ hk => hk.2) (.int .i64 ((rd_T41 t270 x52_2).f0))) (fun _ hk => hk.2) (.int .i64 ((rd_T41 t270 x52_2).f1))) (fun _ hk => hk.2) (.int .i64 ((rd_T41 t270 x52_2).f2))) (fun _ hk => hk.1.2)))⟩; have n1_ : Aside0 (Kd.R (Kd.int .i64) 3 w64 w.heap.size (fun _ => True) u270003 x270003_2) := ⟨(by rw [hw]; exact (by (with_reducible repeat (first | apply Kd.R_alloc | apply Kd.R_drewN | apply Kd.R_drew)); exact Kd.R_mono (Kd.R_far (p := ⟨gb274, 2, none⟩) (Kd.R_far (p := ⟨gb274, 1, none⟩) (Kd.R_far (p := ⟨gb274, 0, none⟩) (Kd.R_types HO_270003.out BK274.out (by decide)) (fun _ hk => hk.2) (.int .i64 ((rd_T41 t270 x52_2).f0))) (fun _ hk => hk.2) (.int .i64 ((rd_T41 t270 x52_2).f1))) (fun _ hk => hk.2) (.int .i64 ((rd_T41 t270 x52_2).f2))) (fun _ hk => trivial)))⟩; have n2_ : Aside0 (Kd.R k78 78 w64 w.heap.size (fun _ => True) (.slice Ao49 t266.length co49) t266) := ⟨(by rw [hw]; exact (by (with_reducible repeat (first | apply Kd.R_alloc | apply Kd.R_drewN | apply Kd.R_drew)); exact Kd.R_mono (Kd.R_far (p := ⟨gb274, 2, none⟩) (Kd.R_far (p := ⟨gb274, 1, none⟩) (Kd.R_far (p := ⟨gb274, 0, none⟩) (Kd.R_types HO_270004.out BK274.out (by decide)) (fun _ hk => hk.2) (.int .i64 ((rd_T41 t270 x52_2).f0))) (fun _ hk => hk.2) (.int .i64 ((rd_T41 t270 x52_2).f1))) (fun _ hk => hk.2) (.int .i64 ((rd_T41 t270 x52_2).f2))) (fun _ hk => trivial)))⟩; have n3_ : Aside0 (w64.heap[gb254]? = some (.cells #[.int .i64 a0_0, .int .i64 a0_1, .int .i64 a0_2, .slice A0_3 l0_3.length c0_3, .slice A0_4 l0_4.length c0_4] 28 (0, 0))) := ⟨(by rw [hw]; exact (by (with_reducible repeat (first | refine bN ?_ _ | refine bD ?_ | refine bA ?_ _)); refine bF ?_ NB254_274.out _; (with_reducible repeat (first | refine bN ?_ _ | refine bD ?_ | refine bA ?_ _)); refine bF ?_ NB254_274.out _; (with_reducible repeat (first | refine bN ?_ _ | refine bD ?_ | refine bA ?_ _)); refine bF ?_ NB254_274.out _; (with_reducible repeat (first | refine bN ?_ _ | refine bD ?_ | refine bA ?_ _)); exact BK254.out))⟩; have n4_ : Aside0 (w64.heap[gb269]? = some (.cells #[.int .i64 t260, .int .i64 t261, .int .i64 ji39, u270003, .slice Ao49 t266.length co49] 28 (0, 0))) := ⟨(by rw [hw]; exact (by (with_reducible repeat (first | refine bN ?_ _ | refine bD ?_ | refine bA ?_ _)); refine bF ?_ NB269_274.out _; (with_reducible repeat (first | refine bN ?_ _ | refine bD ?_ | refine bA ?_ _)); refine bF ?_ NB269_274.out _; (with_reducible repeat (first | refine bN ?_ _ | refine bD ?_ | refine bA ?_ _)); refine bF ?_ NB269_274.out _; (with_reducible repeat (first | refine bN ?_ _ | refine bD ?_ | refine bA ?_ _)); exact BK269.out))⟩; have n5_ : Aside0 (w64.heap[gb274]? = some (.cells #[.int .i64 ((rd_T41 t270 x52_2).f0), .int .i64 ((rd_T41 t270 x52_2).f1), .int .i64 ((rd_T41 t270 x52_2).f2)] 41 (0, 0))) := ⟨(by rw [hw]; exact (by (with_reducible repeat (first | refine bN ?_ _ | refine bD ?_ | refine bA ?_ _)); refine blk_put (cs := #[.int .i64 ((rd_T41 t270 x52_2).f0), .int .i64 ((rd_T41 t270 x52_2).f1), .int .i64 0]) ?_ 2 _ rfl; (with_reducible repeat (first | refine bN ?_ _ | refine bD ?_ | refine bA ?_ _)); refine blk_put (cs := #[.int .i64 ((rd_T41 t270 x52_2).f0), .int .i64 0, .int .i64 0]) ?_ 1 _ rfl; (with_reducible repeat (first | refine bN ?_ _ | refine bD ?_ | refine bA ?_ _)); refine blk_put (cs := #[.int .i64 0, .int .i64 0, .int .i64 0]) ?_ 0 _ rfl; (with_reducible repeat (first | refine bN ?_ _ | refine bD ?_ | refine bA ?_ _)); exact BK274.out))⟩; have n6_ : Aside0 (Below w.heap.size w w64) := ⟨(by rw [hw]; exact (by repeat (first | (with_reducible first | exact HB.out | apply wA | apply wN | apply wD | refine wS ?_ GE254.out | refine wS ?_ GE269.out | refine wS ?_ GE274.out) | exact HB.out)))⟩; clear hw; clear HO_50; clear HO_270003; clear HO_270004; clear BK254; clear BK269; clear BK274; clear HB; have HO_50 := n0_; have HO_270003 := n1_; have HO_270004 := n2_; have BK254 := n3_; have BK269 := n4_; have BK274 := n5_; have HB := n6_; clear n0_ n1_ n2_ n3_ n4_ n5_ n6_; have hnb65 := NB269_254.out; have hnc65 := NB254_269.out; have hcz66_0 : w64.cell? ⟨gb269, 0, none⟩ = some (.int .i64 t260) := (bC BK269.out 0).trans rfl; have hcz66_1 : w64.cell? ⟨gb269, 1, none⟩ = some (.int .i64 t261) := (bC BK269.out 1).trans rfl; have hcz66_2 : w64.cell? ⟨gb269, 2, none⟩ = some (.int .i64 ji39) := (bC BK269.out 2).trans rfl; have hcz66_3 : w64.cell? ⟨gb269, 3, none⟩ = some (u270003) := (bC BK269.out 3).trans rfl; have hcz66_4 : w64.cell? ⟨gb269, 4, none⟩ = some (.slice Ao49 t266.length co49) := (bC BK269.out 4).trans rfl; have hfz66_0 := bZ BK269.out 0; have hfz66_1 := bZ BK269.out 1; have hfz66_2 := bZ BK269.out 2; have hfz66_3 := bZ BK269.out 3; have hfz66_4 := bZ BK269.out 4; have hcz67_0 : w64.cell? ⟨gb274, 0, none⟩ = some (.int .i64 ((rd_T41 t270 x52_2).f0)) := (bC BK274.out 0).trans rfl; have hcz67_1 : w64.cell? ⟨gb274, 1, none⟩ = some (.int .i64 ((rd_T41 t270 x52_2).f1)) := (bC BK274.out 1).trans rfl; have hcz67_2 : w64.cell? ⟨gb274, 2, none⟩ = some (.int .i64 ((rd_T41 t270 x52_2).f2)) := (bC BK274.out 2).trans rfl; have hfz67_0 := bZ BK274.out 0; have hfz67_1 := bZ BK274.out 1; have hfz67_2 := bZ BK274.out 2; obtain ⟨Ao68, co68, eo68⟩ := Kd.R_slice HO_270003.out; subst eo68; have p275 : 0 ≤ (((rd_T41 t270 x52_2).f0) : Int) := of_decide_eq_true (by first | (with_reducible assumption) | assumption); have q275 : ((rd_T41 t270 x52_2).f0) < (x270003_2.length : Int) := of_decide_eq_true (by first | (with_reducible assumption) | assumption); obtain ⟨ad275, e275, hx275_0⟩ := Kd.at_int (Kd.R_reads' HO_270003.out).2.2 ((rd_T41 t270 x52_2).f0) p275 q275; cases e275; replace p275 := eq_true p275; replace q275 := eq_true q275; have p59 : 0 ≤ (((rd_T41 t270 x52_2).f0) : Int) := of_decide_eq_true (by first | (with_reducible assumption) | assumption); have q59 : (((rd_T41 t270 x52_2).f0) : Int) < ((x270003_2.length : Int) : Int) := of_decide_eq_true (by first | (with_reducible assumption) | assumption); obtain ⟨go59, co59, eo59, gb59, gl59, cl59, HG59⟩ := Kd.R_form HO_270003.out (by omega); (first | cases eo59 | (injection eo59 with ea_ en_ ec_; (first | subst ea_ | (injection ea_ with ea_; subst ea_)); subst ec_; clear en_)); have GB59 := Aside0.mk gb59; have GG59 := Aside0.mk HG59; clear gb59 gl59 HG59; (first | simp only [add_plain] at hx275_0 | skip); obtain ⟨hx59_0, hf59_0⟩ := Kd.R_celln 0 HO_270003.out (((rd_T41 t270 x52_2).f0) : Int) p59 q59; replace p59 := eq_true p59; replace q59 := eq_true q59; obtain ⟨hy69_, hz69_⟩ := Kd.R_celln 0 HO_270003.out (((rd_T41 t270 x52_2).f0) : Int) (of_decide_eq_true (by first | (with_reducible assumption) | assumption)) (of_decide_eq_true (by first | (with_reducible assumption) | assumption)); have HP69 := Kd.R_putg HO_270003.out (((rd_T41 t270 x52_2).f0) : Int) (wrap64 (1 + ((rd_T41 t270 x52_2).f0)))) | ((with_reducible refine gate_store (t := 3) (p := 70) rfl ?_); refine store_event (t := 3) (p := 70) (v := ?vo_w70) (w1 := (w64.setCell ⟨go59, (((rd_T41 t270 x52_2).f0) : Int).toNat, none⟩ (.int .i64 (wrap64 (1 + ((rd_T41 t270 x52_2).f0)))))) ?hg ?ho ?hn ?hr ?_; (case ho => rfl); (case hg => rfl); (case hn => rfl); (case hr => first | (go_simp; done) | (go_simp; rfl)); intro w70 hw; have hg : w64.grownBy w70 (some go59) := (by rw [hw]; exact HP69.2); have hp_ : Kd.R (Kd.int .i64) 3 w70 w.heap.size (fun _ => True) (.slice (some ⟨go59, 0, none⟩) x270003_2.length co68) y276 := (by rw [hw, Ny276.out]; exact HP69.1); clear HP69; have n0_ := Aside0.mk (Kd.R_over' (v := (.slice (some ⟨go59, 0, none⟩) x270003_2.length co68)) (by (with_reducible repeat (first | apply Kd.R_alloc | apply Kd.R_drewN | apply Kd.R_drew)); exact HO_50.out) (Kd.R_typed HO_270003.out) (by decide) hg); have n1_ := Aside0.mk (hp_); have n2_ := Aside0.mk (Kd.R_over' (v := (.slice (some ⟨go59, 0, none⟩) x270003_2.length co68)) (by (with_reducible repeat (first | apply Kd.R_alloc | apply Kd.R_drewN | apply Kd.R_drew)); exact HO_270004.out) (Kd.R_typed HO_270003.out) (by decide) hg); have n3_ := Aside0.mk (blk_grown (g := gb254) (o := .cells #[.int .i64 a0_0, .int .i64 a0_1, .int .i64 a0_2, .slice A0_3 l0_3.length c0_3, .slice A0_4 l0_4.length c0_4] 28 (0, 0)) (by (with_reducible repeat (first | refine bN ?_ _ | refine bD ?_ | refine bA ?_ _)); exact BK254.out) hg (Kd.R_ne HO_270003.out BK254.out (by decide))); have n4_ := Aside0.mk (blk_grown (g := gb269) (o := .cells #[.int .i64 t260, .int .i64 t261, .int .i64 ji39, .slice (some ⟨go59, 0, none⟩) x270003_2.length co68, .slice Ao49 t266.length co49] 28 (0, 0)) (by (with_reducible repeat (first | refine bN ?_ _ | refine bD ?_ | refine bA ?_ _)); exact BK269.out) hg (Kd.R_ne HO_270003.out BK269.out (by decide))); have n5_ := Aside0.mk (blk_grown (g := gb274) (o := .cells #[.int .i64 ((rd_T41 t270 x52_2).f0), .int .i64 ((rd_T41 t270 x52_2).f1), .int .i64 ((rd_T41 t270 x52_2).f2)] 41 (0, 0)) (by (with_reducible repeat (first | refine bN ?_ _ | refine bD ?_ | refine bA ?_ _)); exact BK274.out) hg (Kd.R_ne HO_270003.out BK274.out (by decide))); have n6_ := Aside0.mk ((by rw [hw]; exact wS (HB.out) GB59.out : Below w.heap.size w w70)); clear HO_50; clear HO_270003; clear HO_270004; clear BK254; clear BK269; clear BK274; clear HB; have HO_50 := n0_; have HO_270003 := n1_; have HO_270004 := n2_; have BK254 := n3_; have BK269 := n4_; have BK274 := n5_; have HB := n6_; clear n0_ n1_ n2_ n3_ n4_ n5_ n6_; clear hg hw hp_))
            go_roundg k2
            case measure => have := HJ3.out; have := HK2.out; omega
            case rel => exact ⟨(wrap64 (x52_2 + 1)), (y276), (.slice (some ⟨go59, 0, none⟩) x270003_2.length co68), (by first | rfl | (simp; done) | (simp [*]; done)), H', ⟨by have := HJ3.out; have := HK2.out; omega⟩, ⟨by (with_reducible repeat (first | apply Kd.R_alloc | apply Kd.R_drewN | apply Kd.R_drew)); exact Kd.R_mono HO_50.out (fun _ hk => trivial)⟩, ⟨by (with_reducible repeat (first | apply Kd.R_alloc | apply Kd.R_drewN | apply Kd.R_drew)); exact HO_270003.out⟩, ⟨by (with_reducible repeat (first | apply Kd.R_alloc | apply Kd.R_drewN | apply Kd.R_drew)); exact HO_270004.out⟩, ⟨by (with_reducible repeat (first | refine bN ?_ _ | refine bD ?_ | refine bA ?_ _)); exact BK254.out⟩, ⟨by (with_reducible repeat (first | refine bN ?_ _ | refine bD ?_ | refine bA ?_ _)); exact BK269.out⟩, ⟨by repeat (first | (with_reducible first | exact HB.out | apply wA | apply wN | apply wD | refine wS ?_ GE254.out | refine wS ?_ GE269.out | refine wS ?_ GE274.out) | exact HB.out)⟩⟩
           ·
            rw [if_neg c58] at H; have c58b0 : ((rd x270003_2 ((rd_T41 t270 x52_2).f0)) == 0) = false := beq_eq_false_iff_ne.mpr c58; have c58b1 : ((rd x270003_2 ((rd_T41 t270 x52_2).f0)) != 0) = true := bne_iff_ne.mpr c58; have H' := Aside0.mk H; clear H; have p273 : 0 ≤ (x52_2 : Int) := of_decide_eq_true (by first | (with_reducible assumption) | assumption); have q273 : x52_2 < (t270.length : Int) := of_decide_eq_true (by first | (with_reducible assumption) | assumption); obtain ⟨ad273, e273, hx273_0, hx273_1, hx273_2⟩ := at_T41 (Kd.R_reads' HO_50.out).2.2 x52_2 p273 q273
            cases e273
            replace p273 := eq_true p273; replace q273 := eq_true q273
            go_wp2_with (first | ((with_reducible refine gate_dst (N := 10) rfl ?_); refine box_event ?hg (N := 10) ?hd (cs := #[.int .i64 0, .int .i64 0, .int .i64 0]) (t := 41) ?hr ?_; (case hd => rfl); (case hg => rfl); (case hr => first | (go_simp; done) | (go_simp; rfl)); intro gb274 hg w71 hbox hb; have n0_ := Aside0.mk (Kd.R_below (Kd.R_elderB (by (with_reducible repeat (first | apply Kd.R_alloc | apply Kd.R_drewN | apply Kd.R_drew)); exact HO_50.out) gb274 (Nat.le_of_eq hg.symm)) hb); have n1_ := Aside0.mk (Kd.R_below (by (with_reducible repeat (first | apply Kd.R_alloc | apply Kd.R_drewN | apply Kd.R_drew)); exact HO_270003.out) hb); have n2_ := Aside0.mk (Kd.R_below (by (with_reducible repeat (first | apply Kd.R_alloc | apply Kd.R_drewN | apply Kd.R_drew)); exact HO_270004.out) hb); have n3_ := Aside0.mk (bB (g := gb254) (o := .cells #[.int .i64 a0_0, .int .i64 a0_1, .int .i64 a0_2, .slice A0_3 l0_3.length c0_3, .slice A0_4 l0_4.length c0_4] 28 (0, 0)) (by (with_reducible repeat (first | refine bN ?_ _ | refine bD ?_ | refine bA ?_ _)); exact BK254.out) hb); have n4_ := Aside0.mk (bB (g := gb269) (o := .cells #[.int .i64 t260, .int .i64 t261, .int .i64 ji39, u270003, .slice Ao49 t266.length co49] 28 (0, 0)) (by (with_reducible repeat (first | refine bN ?_ _ | refine bD ?_ | refine bA ?_ _)); exact BK269.out) hb); have n5_ := Aside0.mk (below_step (by repeat (first | (with_reducible first | exact HB.out | apply wA | apply wN | apply wD | refine wS ?_ GE254.out | refine wS ?_ GE269.out) | exact HB.out)) hb); have n6_ := Aside0.mk (hbox); have n7_ := Aside0.mk ((by rw [hg]; exact (below_size (by repeat (first | (with_reducible first | exact HB.out | apply wA | apply wN | apply wD | refine wS ?_ GE254.out | refine wS ?_ GE269.out) | exact HB.out))) : w.heap.size ≤ gb274)); have n8_ := Aside0.mk ((by rw [hg]; exact (below_size (by repeat (first | (with_reducible first | exact HB.out | apply wA | apply wN | apply wD | refine wS ?_ GE254.out | refine wS ?_ GE269.out) | exact HB.out))) : w.heap.size ≤ gb274)); have n9_ := Aside0.mk ((by rw [hg]; exact Nat.ne_of_lt (blk_lt (g := gb254) (o := .cells #[.int .i64 a0_0, .int .i64 a0_1, .int .i64 a0_2, .slice A0_3 l0_3.length c0_3, .slice A0_4 l0_4.length c0_4] 28 (0, 0)) (by (with_reducible repeat (first | refine bN ?_ _ | refine bD ?_ | refine bA ?_ _)); exact BK254.out)) : gb254 ≠ gb274)); have n10_ := Aside0.mk ((by rw [hg]; exact Nat.ne_of_gt (blk_lt (g := gb254) (o := .cells #[.int .i64 a0_0, .int .i64 a0_1, .int .i64 a0_2, .slice A0_3 l0_3.length c0_3, .slice A0_4 l0_4.length c0_4] 28 (0, 0)) (by (with_reducible repeat (first | refine bN ?_ _ | refine bD ?_ | refine bA ?_ _)); exact BK254.out)) : gb274 ≠ gb254)); have n11_ := Aside0.mk ((by rw [hg]; exact Nat.ne_of_lt (blk_lt (g := gb269) (o := .cells #[.int .i64 t260, .int .i64 t261, .int .i64 ji39, u270003, .slice Ao49 t266.length co49] 28 (0, 0)) (by (with_reducible repeat (first | refine bN ?_ _ | refine bD ?_ | refine bA ?_ _)); exact BK269.out)) : gb269 ≠ gb274)); have n12_ := Aside0.mk ((by rw [hg]; exact Nat.ne_of_gt (blk_lt (g := gb269) (o := .cells #[.int .i64 t260, .int .i64 t261, .int .i64 ji39, u270003, .slice Ao49 t266.length co49] 28 (0, 0)) (by (with_reducible repeat (first | refine bN ?_ _ | refine bD ?_ | refine bA ?_ _)); exact BK269.out)) : gb274 ≠ gb269)); clear HO_50; clear HO_270003; clear HO_270004; clear BK254; clear BK269; clear HB; have HO_50 := n0_; have HO_270003 := n1_; have HO_270004 := n2_; have BK254 := n3_; have BK269 := n4_; have HB := n5_; have BK274 := n6_; have GW274 := n7_; have GE274 := n8_; have NB254_274 := n9_; have NB274_254 := n10_; have NB269_274 := n11_; have NB274_269 := n12_; clear n0_ n1_ n2_ n3_ n4_ n5_ n6_ n7_ n8_ n9_ n10_ n11_ n12_; clear hb hbox hg; have hnb72 := NB274_254.out; have hnc72 := NB254_274.out; have hnb73 := NB274_269.out; have hnc73 := NB269_274.out; have hcz74_0 : w71.cell? ⟨gb274, 0, none⟩ = some (.int .i64 0) := (bC BK274.out 0).trans rfl; have hcz74_1 : w71.cell? ⟨gb274, 1, none⟩ = some (.int .i64 0) := (bC BK274.out 1).trans rfl; have hcz74_2 : w71.cell? ⟨gb274, 2, none⟩ = some (.int .i64 0) := (bC BK274.out 2).trans rfl; have hfz74_0 := bZ BK274.out 0; have hfz74_1 := bZ BK274.out 1; have hfz74_2 := bZ BK274.out 2; have hnb75 := NB269_254.out; have hnc75 := NB254_269.out; have hcz76_0 : w71.cell? ⟨gb269, 0, none⟩ = some (.int .i64 t260) := (bC BK269.out 0).trans rfl; have hcz76_1 : w71.cell? ⟨gb269, 1, none⟩ = some (.int .i64 t261) := (bC BK269.out 1).trans rfl; have hcz76_2 : w71.cell? ⟨gb269, 2, none⟩ = some (.int .i64 ji39) := (bC BK269.out 2).trans rfl; have hcz76_3 : w71.cell? ⟨gb269, 3, none⟩ = some (u270003) := (bC BK269.out 3).trans rfl; have hcz76_4 : w71.cell? ⟨gb269, 4, none⟩ = some (.slice Ao49 t266.length co49) := (bC BK269.out 4).trans rfl; have hfz76_0 := bZ BK269.out 0; have hfz76_1 := bZ BK269.out 1; have hfz76_2 := bZ BK269.out 2; have hfz76_3 := bZ BK269.out 3; have hfz76_4 := bZ BK269.out 4; obtain ⟨Ao77, co77, eo77⟩ := Kd.R_slice HO_270003.out; subst eo77; have p275 : 0 ≤ (((rd_T41 t270 x52_2).f0) : Int) := of_decide_eq_true (by first | (with_reducible assumption) | assumption); have q275 : ((rd_T41 t270 x52_2).f0) < (x270003_2.length : Int) := of_decide_eq_true (by first | (with_reducible assumption) | assumption); obtain ⟨ad275, e275, hx275_0⟩ := Kd.at_int (Kd.R_reads' HO_270003.out).2.2 ((rd_T41 t270 x52_2).f0) p275 q275; cases e275; have hn275_0 : ad275.block ≠ gb274 := Kd.own_blk (Kd.R_ne HO_270003.out BK274.out (by decide)); have hn275_1 : ad275.block ≠ gb274 := Kd.own_blk (Kd.R_ne HO_270003.out BK274.out (by decide)); have hn275_2 : ad275.block ≠ gb274 := Kd.own_blk (Kd.R_ne HO_270003.out BK274.out (by decide)); replace hx275_0 := (cell_far (p := ⟨gb274, 0, none⟩) (by first | (rw [add_block]; exact hn275_0) | (show (Addr.add _ _).block ≠ _; rw [add_block]; exact hn275_0) | exact hn275_0) (.int .i64 ((rd_T41 t270 x52_2).f0))).trans hx275_0; replace hx275_0 := (cell_far (p := ⟨gb274, 1, none⟩) (by first | (rw [add_block]; exact hn275_1) | (show (Addr.add _ _).block ≠ _; rw [add_block]; exact hn275_1) | exact hn275_1) (.int .i64 ((rd_T41 t270 x52_2).f1))).trans hx275_0; replace hx275_0 := (cell_far (p := ⟨gb274, 2, none⟩) (by first | (rw [add_block]; exact hn275_2) | (show (Addr.add _ _).block ≠ _; rw [add_block]; exact hn275_2) | exact hn275_2) (.int .i64 ((rd_T41 t270 x52_2).f2))).trans hx275_0; clear hn275_0; clear hn275_1; clear hn275_2; replace p275 := eq_true p275; replace q275 := eq_true q275))
            go_roundg k2
            case measure => have := HJ3.out; have := HK2.out; omega
            case rel => exact ⟨(wrap64 (x52_2 + 1)), (x270003_2), (.slice (some ad275) x270003_2.length co77), (by first | rfl | (simp; done) | (simp [*]; done)), H', ⟨by have := HJ3.out; have := HK2.out; omega⟩, ⟨by (with_reducible repeat (first | apply Kd.R_alloc | apply Kd.R_drewN | apply Kd.R_drew)); exact Kd.R_mono (Kd.R_far (p := ⟨gb274, 2, none⟩) (Kd.R_far (p := ⟨gb274, 1, none⟩) (Kd.R_far (p := ⟨gb274, 0, none⟩) (Kd.R_mono HO_50.out (fun k_ hk => (⟨hk, hk.2⟩ : _ ∧ k_ ≠ gb274))) (fun _ hk => hk.2) (.int .i64 ((rd_T41 t270 x52_2).f0))) (fun _ hk => hk.2) (.int .i64 ((rd_T41 t270 x52_2).f1))) (fun _ hk => hk.2) (.int .i64 ((rd_T41 t270 x52_2).f2))) (fun _ hk => trivial)⟩, ⟨by (with_reducible repeat (first | apply Kd.R_alloc | apply Kd.R_drewN | apply Kd.R_drew)); exact Kd.R_mono (Kd.R_far (p := ⟨gb274, 2, none⟩) (Kd.R_far (p := ⟨gb274, 1, none⟩) (Kd.R_far (p := ⟨gb274, 0, none⟩) (Kd.R_types HO_270003.out BK274.out (by decide)) (fun _ hk => hk.2) (.int .i64 ((rd_T41 t270 x52_2).f0))) (fun _ hk => hk.2) (.int .i64 ((rd_T41 t270 x52_2).f1))) (fun _ hk => hk.2) (.int .i64 ((rd_T41 t270 x52_2).f2))) (fun _ hk => trivial)⟩, ⟨by (with_reducible repeat (first | apply Kd.R_alloc | apply Kd.R_drewN | apply Kd.R_drew)); exact Kd.R_mono (Kd.R_far (p := ⟨gb274, 2, none⟩) (Kd.R_far (p := ⟨gb274, 1, none⟩) (Kd.R_far (p := ⟨gb274, 0, none⟩) (Kd.R_types HO_270004.out BK274.out (by decide)) (fun _ hk => hk.2) (.int .i64 ((rd_T41 t270 x52_2).f0))) (fun _ hk => hk.2) (.int .i64 ((rd_T41 t270 x52_2).f1))) (fun _ hk => hk.2) (.int .i64 ((rd_T41 t270 x52_2).f2))) (fun _ hk => trivial)⟩, ⟨by (with_reducible repeat (first | refine bN ?_ _ | refine bD ?_ | refine bA ?_ _)); refine bF ?_ NB254_274.out _; (with_reducible repeat (first | refine bN ?_ _ | refine bD ?_ | refine bA ?_ _)); refine bF ?_ NB254_274.out _; (with_reducible repeat (first | refine bN ?_ _ | refine bD ?_ | refine bA ?_ _)); refine bF ?_ NB254_274.out _; (with_reducible repeat (first | refine bN ?_ _ | refine bD ?_ | refine bA ?_ _)); exact BK254.out⟩, ⟨by (with_reducible repeat (first | refine bN ?_ _ | refine bD ?_ | refine bA ?_ _)); refine bF ?_ NB269_274.out _; (with_reducible repeat (first | refine bN ?_ _ | refine bD ?_ | refine bA ?_ _)); refine bF ?_ NB269_274.out _; (with_reducible repeat (first | refine bN ?_ _ | refine bD ?_ | refine bA ?_ _)); refine bF ?_ NB269_274.out _; (with_reducible repeat (first | refine bN ?_ _ | refine bD ?_ | refine bA ?_ _)); exact BK269.out⟩, ⟨by repeat (first | (with_reducible first | exact HB.out | apply wA | apply wN | apply wD | refine wS ?_ GE254.out | refine wS ?_ GE269.out | refine wS ?_ GE274.out) | exact HB.out)⟩⟩
          ·
           rw [if_neg c57] at H; exact absurd H (by simp)
         ·
          rw [if_neg c56] at H; exact absurd H (by simp)
        ·
         rw [if_neg c55] at H; exact absurd H (by simp)
       ·
        rw [if_neg c54] at H; exact absurd H (by simp)
      ·
       rw [if_neg c53] at H; have c53b0 : decide (x52_2 < (t270.length : Int)) = false := decide_eq_false c53; clear c53
       by_cases c78 : t259 ≥ 0
       ·
        rw [if_pos c78] at H; have c78b0 : decide (0 ≤ t259) = true := decide_eq_true c78; clear c78
        by_cases c79 : t259 ≤ 5
        ·
         rw [if_pos c79] at H; have c79b0 : decide (t259 ≤ 5) = true := decide_eq_true c79; clear c79; replace H := Option.bind_eq_some_iff.mp H; obtain ⟨t277, A800, H⟩ := H; replace H : (if t277 = 0 then ((potsherdref12_Pages.f k2 t260 t261 ji39 x270003_2 t266).bind fun t278 => ((potsherdref12_Pages.f k2 a0_0 a0_1 a0_2 l0_3 l0_4).bind fun t279 => (if t278 = (wrap64 (t279 + t259)) then ((potsherdlaw18_awake.f k2).bind fun t280 => (some t280)) else (some false)))) else (some false)) = some true := H; have A80 := Aside0.mk A800; clear A800
         by_cases c81 : t277 = 0
         ·
          rw [if_pos c81] at H; have c81b0 : (t277 == 0) = true := beq_iff_eq.mpr c81; have c81b1 : (t277 != 0) = false := bne_eq_false_iff_eq.mpr c81; clear c81; replace H := Option.bind_eq_some_iff.mp H; obtain ⟨t278, A820, H⟩ := H; replace H : ((potsherdref12_Pages.f k2 a0_0 a0_1 a0_2 l0_3 l0_4).bind fun t279 => (if t278 = (wrap64 (t279 + t259)) then ((potsherdlaw18_awake.f k2).bind fun t280 => (some t280)) else (some false))) = some true := H; have A82 := Aside0.mk A820; clear A820; replace H := Option.bind_eq_some_iff.mp H; obtain ⟨t279, A830, H⟩ := H; replace H : (if t278 = (wrap64 (t279 + t259)) then ((potsherdlaw18_awake.f k2).bind fun t280 => (some t280)) else (some false)) = some true := H; have A83 := Aside0.mk A830; clear A830
          by_cases c84 : t278 = (wrap64 (t279 + t259))
          ·
           rw [if_pos c84] at H; have c84b0 : (t278 == (wrap64 (t279 + t259))) = true := beq_iff_eq.mpr c84; have c84b1 : (t278 != (wrap64 (t279 + t259))) = false := bne_eq_false_iff_eq.mpr c84; clear c84; replace H := Option.bind_eq_some_iff.mp H; obtain ⟨t280, A850, H⟩ := H; replace H : (some t280) = some true := H; have A85 := Aside0.mk A850; clear A850; have HRET := Aside0.mk (Option.some.inj H); clear H
           try go_wp2
           have n0_ := Aside0.mk (Kd.R_drew HO_50.out); have n1_ := Aside0.mk (Kd.R_drew HO_270003.out); have n2_ := Aside0.mk (Kd.R_drew HO_270004.out); have n3_ := Aside0.mk (bD BK254.out); have n4_ := Aside0.mk (bD BK269.out); have n5_ := Aside0.mk (wD HB.out); clear HO_50; clear HO_270003; clear HO_270004; clear BK254; clear BK269; clear HB; have HO_50 := n0_; have HO_270003 := n1_; have HO_270004 := n2_; have BK254 := n3_; have BK269 := n4_; have HB := n5_; clear n0_ n1_ n2_ n3_ n4_ n5_; obtain ⟨Ao87, co87, eo87⟩ := Kd.R_slice HO_270003.out
           (first | subst eo87 | (injection eo87 with f1_ f2_ f3_; have f4_ := f1_.symm; have f5_ := f3_.symm; clear f1_ f2_ f3_; subst f4_; subst f5_))
           refine start_ (n := 26) (S := fun w' => w'.cell? ⟨gb269, 0, none⟩ = some (.int .i64 t260) ∧ w'.cell? ⟨gb269, 1, none⟩ = some (.int .i64 t261) ∧ w'.cell? ⟨gb269, 2, none⟩ = some (.int .i64 ji39) ∧ w'.cell? ⟨gb269, 3, none⟩ = some (.slice Ao87 x270003_2.length co87) ∧ w'.cell? ⟨gb269, 4, none⟩ = some (.slice Ao49 t266.length co49) ∧ w'.cell? ⟨gb254, 0, none⟩ = some (.int .i64 a0_0) ∧ w'.cell? ⟨gb254, 1, none⟩ = some (.int .i64 a0_1) ∧ w'.cell? ⟨gb254, 2, none⟩ = some (.int .i64 a0_2) ∧ w'.cell? ⟨gb254, 3, none⟩ = some (.slice A0_3 l0_3.length c0_3) ∧ w'.cell? ⟨gb254, 4, none⟩ = some (.slice A0_4 l0_4.length c0_4)) (ds := []) B19_0 (by kernel_rfl) rfl rfl ⟨(bC BK269.out 0).trans rfl, (bC BK269.out 1).trans rfl, (bC BK269.out 2).trans rfl, (bC BK269.out 3).trans rfl, (bC BK269.out 4).trans rfl, (bC BK254.out 0).trans rfl, (bC BK254.out 1).trans rfl, (bC BK254.out 2).trans rfl, (bC BK254.out 3).trans rfl, (bC BK254.out 4).trans rfl⟩ (fun hHeld => ?_); refine with_tabW potsherdlaw18_QuotaOnce.tab12 potsherdlaw18_QuotaOnce.bits12 (fun HT_ HW_ => ?_); generalize wr.drew = w86 at HO_50 HO_270003 HO_270004 BK254 BK269 HB hHeld ⊢; refine pure_ (i := 0) (N := some 72) (v := ?_) (a' := ?_) B19_1 rfl rfl (any_of HT_.out (by kernel_rfl)) (fun _ _ _ h => h) (Or.inl ⟨by rfl, ?_⟩) ?_ ?_; rotate_left
           ·
            intro w'; go_simp; with_reducible rfl
           rotate_left
           ·
            simp only [Act.put, lT, l0_, lS, i64_w, i32_w]; rfl
           refine pure_ (i := 1) (N := some 73) (v := ?_) (a' := ?_) B19_2 rfl rfl (any_of HT_.out (by kernel_rfl)) (fun _ _ _ h => h) (Or.inl ⟨by rfl, ?_⟩) ?_ ?_; rotate_left
           ·
            intro w'; go_simp; with_reducible rfl
           rotate_left
           ·
            simp only [Act.put, lT, l0_, lS, i64_w, i32_w]; rfl
           refine pure_ (i := 2) (N := some 74) (v := ?_) (a' := ?_) B19_3 rfl rfl (any_of HT_.out (by kernel_rfl)) (fun _ _ _ h => h) (Or.inl ⟨by rfl, ?_⟩) ?_ ?_; rotate_left
           ·
            intro w'; go_simp; with_reducible rfl
           rotate_left
           ·
            simp only [Act.put, lT, l0_, lS, i64_w, i32_w]; rfl
           refine pure_ (i := 3) (N := some 75) (v := ?_) (a' := ?_) B19_4 rfl rfl (any_of HT_.out (by kernel_rfl)) (fun _ _ _ h => h) (Or.inl ⟨by rfl, ?_⟩) ?_ ?_; rotate_left
           ·
            intro w'; go_simp; with_reducible rfl
           rotate_left
           ·
            simp only [Act.put, lT, l0_, lS, i64_w, i32_w]; rfl
           refine pure_ (i := 4) (N := some 76) (v := ?_) (a' := ?_) B19_5 rfl rfl (any_of HT_.out (by kernel_rfl)) (fun _ _ _ h => h) (Or.inl ⟨by rfl, ?_⟩) ?_ ?_; rotate_left
           ·
            intro w'; go_simp; with_reducible rfl
           rotate_left
           ·
            simp only [Act.put, lT, l0_, lS, i64_w, i32_w]; rfl
           refine pure_ (i := 5) (N := some 77) (v := ?_) (a' := ?_) B19_6 rfl rfl (any_of HT_.out (by kernel_rfl)) (fun _ _ _ h => h) (Or.inl ⟨by rfl, ?_⟩) ?_ ?_; rotate_left
           ·
            intro w'; go_simp; with_reducible rfl
           rotate_left
           ·
            simp only [Act.put, lT, l0_, lS, i64_w, i32_w]; rfl
           refine pure_ (i := 6) (N := some 78) (v := ?_) (a' := ?_) B19_7 rfl rfl (any_of HT_.out (by kernel_rfl)) (fun _ _ _ h => h) (Or.inl ⟨by rfl, ?_⟩) ?_ ?_; rotate_left
           ·
            intro w'; go_simp; with_reducible rfl
           rotate_left
           ·
            simp only [Act.put, lT, l0_, lS, i64_w, i32_w]; rfl
           refine pure_ (i := 8) (N := some 80) (v := ?_) (a' := ?_) B19_8 rfl rfl (any_of HT_.out (by kernel_rfl)) (fun _ _ _ h => h) (Or.inl ⟨by rfl, ?_⟩) ?_ ?_; rotate_left
           ·
            intro w'; go_simp; with_reducible rfl
           rotate_left
           ·
            simp only [Act.put, lT, l0_, lS, i64_w, i32_w]; rfl
           refine pure_ (i := 9) (N := some 81) (v := ?_) (a' := ?_) B19_9 rfl rfl (any_of HT_.out (by kernel_rfl)) (fun _ _ _ h => h) (Or.inl ⟨by rfl, ?_⟩) ?_ ?_; rotate_left
           ·
            intro w'; go_simp; with_reducible rfl
           rotate_left
           ·
            simp only [Act.put, lT, l0_, lS, i64_w, i32_w]; rfl
           refine take_ (i := 7) (N := some 79) (v := ?_) (a' := ?_) B19_10 rfl rfl (take_ofW HT_.out HW_.out (by kernel_rfl)) (fun _ _ _ h => h) (Or.inl ⟨by rfl, ?_⟩) hHeld ?_ ?_; rotate_left
           ·
            rintro w' ⟨s0, s1, s2, s3, s4, s5, s6, s7, s8, s9⟩; go_simp; with_reducible rfl
           rotate_left
           ·
            simp only [Act.put, lT, l0_, lS, i64_w, i32_w]; rfl
           refine one_ (i := 10) (N := some 82) B19_11 rfl rfl (one_of HT_.out (by kernel_rfl)) (by decide) (fun K hK => ?_); refine goes_ Try.func22 (by kernel_rfl) rfl #[.agg #[.int .i64 t260, .int .i64 t261, .int .i64 ji39, .slice Ao87 x270003_2.length co87, .slice Ao49 t266.length co49], .int .i64 a1, .int .i64 a2] (by rfl) rfl rfl (by (try simp only [List.map_toArray, List.map_cons, List.map_nil]); first | done | (simp only [hji39]; rfl) | rfl | (simp only [List.length_drop, List.length_take]; rfl)) ?_
           with_reducible refine (quota_More.calls k2 t260 t261 ji39 _ _ x270003_2 _ _ t266 a1 a2 t277 _ ?side1 ?side2 ?side3 ?side4 A80.out).mono ?_
           (case side1 => repeat (first | exact (Kd.R_reads' HO_270003.out).2.2 | (with_reducible refine Kd.C_alloc ?_ _) | (with_reducible refine Kd.C_drewN ?_ _) | (with_reducible refine Kd.C_drew ?_)))
           (case side2 => exact (Kd.R_reads' HO_270003.out).2.1)
           (case side3 => repeat (first | exact (Kd.R_reads' HO_270004.out).2.2 | (with_reducible refine Kd.C_alloc ?_ _) | (with_reducible refine Kd.C_drewN ?_ _) | (with_reducible refine Kd.C_drew ?_)))
           (case side4 => exact (Kd.R_reads' HO_270004.out).2.1)
           rintro e w88 ⟨rfl, hb⟩; refine ⟨_, rfl, ?_⟩; have n0_ := Aside0.mk (Kd.R_below (by (with_reducible repeat (first | apply Kd.R_alloc | apply Kd.R_drewN | apply Kd.R_drew)); exact HO_50.out) hb)
           have n1_ := Aside0.mk (Kd.R_below (by (with_reducible repeat (first | apply Kd.R_alloc | apply Kd.R_drewN | apply Kd.R_drew)); exact HO_270003.out) hb)
           have n2_ := Aside0.mk (Kd.R_below (by (with_reducible repeat (first | apply Kd.R_alloc | apply Kd.R_drewN | apply Kd.R_drew)); exact HO_270004.out) hb)
           have n3_ := Aside0.mk (bB (g := gb254) (o := .cells #[.int .i64 a0_0, .int .i64 a0_1, .int .i64 a0_2, .slice A0_3 l0_3.length c0_3, .slice A0_4 l0_4.length c0_4] 28 (0, 0)) (by (with_reducible repeat (first | refine bN ?_ _ | refine bD ?_ | refine bA ?_ _)); exact BK254.out) hb)
           have n4_ := Aside0.mk (bB (g := gb269) (o := .cells #[.int .i64 t260, .int .i64 t261, .int .i64 ji39, .slice Ao87 x270003_2.length co87, .slice Ao49 t266.length co49] 28 (0, 0)) (by (with_reducible repeat (first | refine bN ?_ _ | refine bD ?_ | refine bA ?_ _)); exact BK269.out) hb)
           have n5_ := Aside0.mk (below_step (by repeat (first | (with_reducible first | exact HB.out | apply wA | apply wN | apply wD | refine wS ?_ GE254.out | refine wS ?_ GE269.out) | exact HB.out)) hb); clear HO_50; clear HO_270003; clear HO_270004; clear BK254; clear BK269; clear HB; have HO_50 := n0_; have HO_270003 := n1_; have HO_270004 := n2_; have BK254 := n3_; have BK269 := n4_; have HB := n5_; clear n0_ n1_ n2_ n3_ n4_ n5_
           (try clear hb)
           (try clear hb2)
           (try clear hk)
           (try clear hi)
           refine hK.out _ _ ⟨(bC BK269.out 0).trans rfl, (bC BK269.out 1).trans rfl, (bC BK269.out 2).trans rfl, (bC BK269.out 3).trans rfl, (bC BK269.out 4).trans rfl, (bC BK254.out 0).trans rfl, (bC BK254.out 1).trans rfl, (bC BK254.out 2).trans rfl, (bC BK254.out 3).trans rfl, (bC BK254.out 4).trans rfl⟩ (fun hHeld => ?_); clear hK K; refine norm_ (a' := ?_) ?_ ?_; rotate_left
           ·
            show Act.put _ (some 82) _ = _
            simp only [Act.put, lT, l0_, lS, i64_w, i32_w]; rfl
           refine pure_ (i := 11) (N := some 83) (v := ?_) (a' := ?_) B19_12 rfl rfl (any_of HT_.out (by kernel_rfl)) (fun _ _ _ h => h) (Or.inl ⟨by rfl, ?_⟩) ?_ ?_; rotate_left
           ·
            intro w'; go_simp; with_reducible rfl
           rotate_left
           ·
            simp only [Act.put, lT, l0_, lS, i64_w, i32_w]; rfl
           refine pure_ (i := 12) (N := some 84) (v := ?_) (a' := ?_) B19_13 rfl rfl (any_of HT_.out (by kernel_rfl)) (fun _ _ _ h => h) (Or.inl ⟨by rfl, ?_⟩) ?_ ?_; rotate_left
           ·
            intro w'; go_simp; with_reducible rfl
           rotate_left
           ·
            simp only [Act.put, lT, l0_, lS, i64_w, i32_w]; rfl
           refine pure_ (i := 13) (N := some 85) (v := ?_) (a' := ?_) B19_14 rfl rfl (any_of HT_.out (by kernel_rfl)) (fun _ _ _ h => h) (Or.inl ⟨by rfl, ?_⟩) ?_ ?_; rotate_left
           ·
            intro w'; go_simp; with_reducible rfl
           rotate_left
           ·
            simp only [Act.put, lT, l0_, lS, i64_w, i32_w]; rfl
           refine pure_ (i := 18) (N := some 90) (v := ?_) (a' := ?_) B19_15 rfl rfl (any_of HT_.out (by kernel_rfl)) (fun _ _ _ h => h) (Or.inl ⟨by rfl, ?_⟩) ?_ ?_; rotate_left
           ·
            intro w'; go_simp; with_reducible rfl
           rotate_left
           ·
            simp only [Act.put, lT, l0_, lS, i64_w, i32_w]; rfl
           refine take_ (i := 14) (N := some 86) (v := ?_) (a' := ?_) B19_16 rfl rfl (take_ofW HT_.out HW_.out (by kernel_rfl)) (fun _ _ _ h => h) (Or.inl ⟨by rfl, ?_⟩) hHeld ?_ ?_; rotate_left
           ·
            rintro w' ⟨s0, s1, s2, s3, s4, s5, s6, s7, s8, s9⟩; go_simp; with_reducible rfl
           rotate_left
           ·
            simp only [Act.put, lT, l0_, lS, i64_w, i32_w]; rfl
           refine take_ (i := 16) (N := some 88) (v := ?_) (a' := ?_) B19_17 rfl rfl (take_ofW HT_.out HW_.out (by kernel_rfl)) (fun _ _ _ h => h) (Or.inl ⟨by rfl, ?_⟩) hHeld ?_ ?_; rotate_left
           ·
            rintro w' ⟨s0, s1, s2, s3, s4, s5, s6, s7, s8, s9⟩; go_simp; with_reducible rfl
           rotate_left
           ·
            simp only [Act.put, lT, l0_, lS, i64_w, i32_w]; rfl
           refine one_ (i := 15) (N := some 87) B19_18 rfl rfl (one_of HT_.out (by kernel_rfl)) (by decide) (fun K hK => ?_); refine goes_ Try.func28 (by kernel_rfl) rfl #[.agg #[.int .i64 t260, .int .i64 t261, .int .i64 ji39, .slice Ao87 x270003_2.length co87, .slice Ao49 t266.length co49]] (by rfl) rfl rfl (by (try simp only [List.map_toArray, List.map_cons, List.map_nil]); first | done | (simp only [hji39]; rfl) | rfl | (simp only [List.length_drop, List.length_take]; rfl)) ?_
           with_reducible refine (potsherdref12_Pages.calls k2 t260 t261 ji39 _ _ x270003_2 _ _ t266 t278 _ ?side1 ?side2 ?side3 ?side4 A82.out).mono ?_
           (case side1 => repeat (first | exact (Kd.R_reads' HO_270003.out).2.2 | (with_reducible refine Kd.C_alloc ?_ _) | (with_reducible refine Kd.C_drewN ?_ _) | (with_reducible refine Kd.C_drew ?_)))
           (case side2 => exact (Kd.R_reads' HO_270003.out).2.1)
           (case side3 => repeat (first | exact (Kd.R_reads' HO_270004.out).2.2 | (with_reducible refine Kd.C_alloc ?_ _) | (with_reducible refine Kd.C_drewN ?_ _) | (with_reducible refine Kd.C_drew ?_)))
           (case side4 => exact (Kd.R_reads' HO_270004.out).2.1)
           rintro e w89 ⟨rfl, hb⟩; refine ⟨_, rfl, ?_⟩; have n0_ := Aside0.mk (Kd.R_below (by (with_reducible repeat (first | apply Kd.R_alloc | apply Kd.R_drewN | apply Kd.R_drew)); exact HO_50.out) hb)
           have n1_ := Aside0.mk (Kd.R_below (by (with_reducible repeat (first | apply Kd.R_alloc | apply Kd.R_drewN | apply Kd.R_drew)); exact HO_270003.out) hb)
           have n2_ := Aside0.mk (Kd.R_below (by (with_reducible repeat (first | apply Kd.R_alloc | apply Kd.R_drewN | apply Kd.R_drew)); exact HO_270004.out) hb)
           have n3_ := Aside0.mk (bB (g := gb254) (o := .cells #[.int .i64 a0_0, .int .i64 a0_1, .int .i64 a0_2, .slice A0_3 l0_3.length c0_3, .slice A0_4 l0_4.length c0_4] 28 (0, 0)) (by (with_reducible repeat (first | refine bN ?_ _ | refine bD ?_ | refine bA ?_ _)); exact BK254.out) hb)
           have n4_ := Aside0.mk (bB (g := gb269) (o := .cells #[.int .i64 t260, .int .i64 t261, .int .i64 ji39, .slice Ao87 x270003_2.length co87, .slice Ao49 t266.length co49] 28 (0, 0)) (by (with_reducible repeat (first | refine bN ?_ _ | refine bD ?_ | refine bA ?_ _)); exact BK269.out) hb)
           have n5_ := Aside0.mk (below_step (by repeat (first | (with_reducible first | exact HB.out | apply wA | apply wN | apply wD | refine wS ?_ GE254.out | refine wS ?_ GE269.out) | exact HB.out)) hb); clear HO_50; clear HO_270003; clear HO_270004; clear BK254; clear BK269; clear HB; have HO_50 := n0_; have HO_270003 := n1_; have HO_270004 := n2_; have BK254 := n3_; have BK269 := n4_; have HB := n5_; clear n0_ n1_ n2_ n3_ n4_ n5_
           (try clear hb)
           (try clear hb2)
           (try clear hk)
           (try clear hi)
           refine hK.out _ _ ⟨(bC BK269.out 0).trans rfl, (bC BK269.out 1).trans rfl, (bC BK269.out 2).trans rfl, (bC BK269.out 3).trans rfl, (bC BK269.out 4).trans rfl, (bC BK254.out 0).trans rfl, (bC BK254.out 1).trans rfl, (bC BK254.out 2).trans rfl, (bC BK254.out 3).trans rfl, (bC BK254.out 4).trans rfl⟩ (fun hHeld => ?_); clear hK K; refine norm_ (a' := ?_) ?_ ?_; rotate_left
           ·
            show Act.put _ (some 87) _ = _
            simp only [Act.put, lT, l0_, lS, i64_w, i32_w]; rfl
           refine one_ (i := 17) (N := some 89) B19_19 rfl rfl (one_of HT_.out (by kernel_rfl)) (by decide) (fun K hK => ?_); refine goes_ Try.func28 (by kernel_rfl) rfl #[.agg #[.int .i64 a0_0, .int .i64 a0_1, .int .i64 a0_2, .slice A0_3 l0_3.length c0_3, .slice A0_4 l0_4.length c0_4]] (by rfl) rfl rfl (by (try simp only [List.map_toArray, List.map_cons, List.map_nil]); first | done | rfl | (simp only [List.length_drop, List.length_take]; rfl)) ?_
           with_reducible refine (potsherdref12_Pages.calls k2 a0_0 a0_1 a0_2 _ _ l0_3 _ _ l0_4 t279 _ ?side1 ?side2 ?side3 ?side4 A83.out).mono ?_
           (case side1 => repeat (first | exact (Kd.C_below HR0_3.out HB.out) | (with_reducible refine Kd.C_alloc ?_ _) | (with_reducible refine Kd.C_drewN ?_ _) | (with_reducible refine Kd.C_drew ?_)))
           (case side2 => exact HC0_3.out)
           (case side3 => repeat (first | exact (Kd.C_below HR0_4.out HB.out) | (with_reducible refine Kd.C_alloc ?_ _) | (with_reducible refine Kd.C_drewN ?_ _) | (with_reducible refine Kd.C_drew ?_)))
           (case side4 => exact HC0_4.out)
           rintro e w90 ⟨rfl, hb⟩; refine ⟨_, rfl, ?_⟩; have n0_ := Aside0.mk (Kd.R_below (by (with_reducible repeat (first | apply Kd.R_alloc | apply Kd.R_drewN | apply Kd.R_drew)); exact HO_50.out) hb)
           have n1_ := Aside0.mk (Kd.R_below (by (with_reducible repeat (first | apply Kd.R_alloc | apply Kd.R_drewN | apply Kd.R_drew)); exact HO_270003.out) hb)
           have n2_ := Aside0.mk (Kd.R_below (by (with_reducible repeat (first | apply Kd.R_alloc | apply Kd.R_drewN | apply Kd.R_drew)); exact HO_270004.out) hb)
           have n3_ := Aside0.mk (bB (g := gb254) (o := .cells #[.int .i64 a0_0, .int .i64 a0_1, .int .i64 a0_2, .slice A0_3 l0_3.length c0_3, .slice A0_4 l0_4.length c0_4] 28 (0, 0)) (by (with_reducible repeat (first | refine bN ?_ _ | refine bD ?_ | refine bA ?_ _)); exact BK254.out) hb)
           have n4_ := Aside0.mk (bB (g := gb269) (o := .cells #[.int .i64 t260, .int .i64 t261, .int .i64 ji39, .slice Ao87 x270003_2.length co87, .slice Ao49 t266.length co49] 28 (0, 0)) (by (with_reducible repeat (first | refine bN ?_ _ | refine bD ?_ | refine bA ?_ _)); exact BK269.out) hb)
           have n5_ := Aside0.mk (below_step (by repeat (first | (with_reducible first | exact HB.out | apply wA | apply wN | apply wD | refine wS ?_ GE254.out | refine wS ?_ GE269.out) | exact HB.out)) hb); clear HO_50; clear HO_270003; clear HO_270004; clear BK254; clear BK269; clear HB; have HO_50 := n0_; have HO_270003 := n1_; have HO_270004 := n2_; have BK254 := n3_; have BK269 := n4_; have HB := n5_; clear n0_ n1_ n2_ n3_ n4_ n5_
           (try clear hb)
           (try clear hb2)
           (try clear hk)
           (try clear hi)
           refine hK.out _ _ ⟨(bC BK269.out 0).trans rfl, (bC BK269.out 1).trans rfl, (bC BK269.out 2).trans rfl, (bC BK269.out 3).trans rfl, (bC BK269.out 4).trans rfl, (bC BK254.out 0).trans rfl, (bC BK254.out 1).trans rfl, (bC BK254.out 2).trans rfl, (bC BK254.out 3).trans rfl, (bC BK254.out 4).trans rfl⟩ (fun hHeld => ?_); clear hK K; refine norm_ (a' := ?_) ?_ ?_; rotate_left
           ·
            show Act.put _ (some 89) _ = _
            simp only [Act.put, lT, l0_, lS, i64_w, i32_w]; rfl
           refine pure_ (i := 19) (N := some 91) (v := ?_) (a' := ?_) B19_20 rfl rfl (any_of HT_.out (by kernel_rfl)) (fun _ _ _ h => h) (Or.inl ⟨by rfl, ?_⟩) ?_ ?_; rotate_left
           ·
            intro w'; go_simp; with_reducible rfl
           rotate_left
           ·
            simp only [Act.put, lT, l0_, lS, i64_w, i32_w]; rfl
           refine pure_ (i := 20) (N := some 92) (v := ?_) (a' := ?_) B19_21 rfl rfl (any_of HT_.out (by kernel_rfl)) (fun _ _ _ h => h) (Or.inl ⟨by rfl, ?_⟩) ?_ ?_; rotate_left
           ·
            intro w'; go_simp; with_reducible rfl
           rotate_left
           ·
            simp only [Act.put, lT, l0_, lS, i64_w, i32_w]; rfl
           refine pure_ (i := 21) (N := some 93) (v := ?_) (a' := ?_) B19_22 rfl rfl (any_of HT_.out (by kernel_rfl)) (fun _ _ _ h => h) (Or.inl ⟨by rfl, ?_⟩) ?_ ?_; rotate_left
           ·
            intro w'; go_simp; with_reducible rfl
           rotate_left
           ·
            simp only [Act.put, lT, l0_, lS, i64_w, i32_w]; rfl
           refine pure_ (i := 22) (N := some 94) (v := ?_) (a' := ?_) B19_23 rfl rfl (any_of HT_.out (by kernel_rfl)) (fun _ _ _ h => h) (Or.inl ⟨by rfl, ?_⟩) ?_ ?_; rotate_left
           ·
            intro w'; go_simp; with_reducible rfl
           rotate_left
           ·
            simp only [Act.put, lT, l0_, lS, i64_w, i32_w]; rfl
           refine one_ (i := 23) (N := some 95) B19_24 rfl rfl (one_of HT_.out (by kernel_rfl)) (by decide) (fun K hK => ?_); refine goes_ Try.func15 (by kernel_rfl) rfl #[] (by rfl) rfl rfl (by (try simp only [List.map_toArray, List.map_cons, List.map_nil]); first | done | rfl | (simp only [List.length_drop, List.length_take]; rfl)) ?_
           with_reducible refine (potsherdlaw18_awake.calls k2  t280 _ A85.out).mono ?_
           rintro e w91 ⟨rfl, hb⟩; refine ⟨_, rfl, ?_⟩; have n0_ := Aside0.mk (Kd.R_below (by (with_reducible repeat (first | apply Kd.R_alloc | apply Kd.R_drewN | apply Kd.R_drew)); exact HO_50.out) hb)
           have n1_ := Aside0.mk (Kd.R_below (by (with_reducible repeat (first | apply Kd.R_alloc | apply Kd.R_drewN | apply Kd.R_drew)); exact HO_270003.out) hb)
           have n2_ := Aside0.mk (Kd.R_below (by (with_reducible repeat (first | apply Kd.R_alloc | apply Kd.R_drewN | apply Kd.R_drew)); exact HO_270004.out) hb)
           have n3_ := Aside0.mk (bB (g := gb254) (o := .cells #[.int .i64 a0_0, .int .i64 a0_1, .int .i64 a0_2, .slice A0_3 l0_3.length c0_3, .slice A0_4 l0_4.length c0_4] 28 (0, 0)) (by (with_reducible repeat (first | refine bN ?_ _ | refine bD ?_ | refine bA ?_ _)); exact BK254.out) hb)
           have n4_ := Aside0.mk (bB (g := gb269) (o := .cells #[.int .i64 t260, .int .i64 t261, .int .i64 ji39, .slice Ao87 x270003_2.length co87, .slice Ao49 t266.length co49] 28 (0, 0)) (by (with_reducible repeat (first | refine bN ?_ _ | refine bD ?_ | refine bA ?_ _)); exact BK269.out) hb)
           have n5_ := Aside0.mk (below_step (by repeat (first | (with_reducible first | exact HB.out | apply wA | apply wN | apply wD | refine wS ?_ GE254.out | refine wS ?_ GE269.out) | exact HB.out)) hb); clear HO_50; clear HO_270003; clear HO_270004; clear BK254; clear BK269; clear HB; have HO_50 := n0_; have HO_270003 := n1_; have HO_270004 := n2_; have BK254 := n3_; have BK269 := n4_; have HB := n5_; clear n0_ n1_ n2_ n3_ n4_ n5_
           (try clear hb)
           (try clear hb2)
           (try clear hk)
           (try clear hi)
           refine hK.out _ _ ⟨(bC BK269.out 0).trans rfl, (bC BK269.out 1).trans rfl, (bC BK269.out 2).trans rfl, (bC BK269.out 3).trans rfl, (bC BK269.out 4).trans rfl, (bC BK254.out 0).trans rfl, (bC BK254.out 1).trans rfl, (bC BK254.out 2).trans rfl, (bC BK254.out 3).trans rfl, (bC BK254.out 4).trans rfl⟩ (fun hHeld => ?_); clear hK K; refine norm_ (a' := ?_) ?_ ?_; rotate_left
           ·
            show Act.put _ (some 95) _ = _
            simp only [Act.put, lT, l0_, lS, i64_w, i32_w]; rfl
           refine pure_ (i := 24) (N := some 96) (v := ?_) (a' := ?_) B19_25 rfl rfl (any_of HT_.out (by kernel_rfl)) (fun _ _ _ h => h) (Or.inl ⟨by rfl, ?_⟩) ?_ ?_; rotate_left
           ·
            intro w'; go_simp; with_reducible rfl
           rotate_left
           ·
            simp only [Act.put, lT, l0_, lS, i64_w, i32_w]; rfl
           refine pure_ (i := 25) (N := some 6) (v := ?_) (a' := ?_) B19_26 rfl rfl (any_of HT_.out (by kernel_rfl)) (fun _ _ _ h => h) (Or.inl ⟨by rfl, ?_⟩) ?_ ?_; rotate_left
           ·
            intro w'; go_simp; with_reducible rfl
           rotate_left
           ·
            simp only [Act.put, lT, l0_, lS, i64_w, i32_w]; rfl
           refine done_ (done_of HT_.out (by kernel_rfl)) ?_
           try go_wp2
           go_ret
           exact ⟨by first | rfl | exact congrArg (fun b_ => Ending.returned (Value.bool b_)) HRET.out | (rw [HRET.out]) | (simp [errW_none, errW_some] <;> rfl) | (simp only [← hji39]; first | rfl | (simp [errW_none, errW_some] <;> rfl)) | (simp [*, errW_none, errW_some] <;> rfl), by repeat (first | (with_reducible first | exact HB.out | apply wA | apply wN | apply wD | refine wS ?_ GE254.out | refine wS ?_ GE269.out) | exact HB.out)⟩
          ·
           rw [if_neg c84] at H; have c84b0 : (t278 == (wrap64 (t279 + t259))) = false := beq_eq_false_iff_ne.mpr c84; have c84b1 : (t278 != (wrap64 (t279 + t259))) = true := bne_iff_ne.mpr c84; exact absurd H (by simp)
         ·
          rw [if_neg c81] at H; have c81b0 : (t277 == 0) = false := beq_eq_false_iff_ne.mpr c81; have c81b1 : (t277 != 0) = true := bne_iff_ne.mpr c81; exact absurd H (by simp)
        ·
         rw [if_neg c79] at H; have c79b0 : decide (t259 ≤ 5) = false := decide_eq_false c79; clear c79; exact absurd H (by simp)
       ·
        rw [if_neg c78] at H; have c78b0 : decide (0 ≤ t259) = false := decide_eq_false c78; clear c78; exact absurd H (by simp)

end Go.Proofs.Ytkigiehkckjlhaa.PQuota
