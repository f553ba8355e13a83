/- The Go functions that this law reaches, each as a Lean function with the same answers (the law itself where it answers true), and the proof that the code comes to them; conditions: those of each theorem. Laid by a program of this session over the print. -/
import Derived.Test.YtnjnmegjbcgajaaPCostHangsx0
import Derived.Test.YtnjnmegjbcgajaaPCostHangsx1
import Derived.Test.YtnjnmegjbcgajaaPCostHangsx2
import Derived.Test.YtnjnmegjbcgajaaPCostHangsx3
namespace Go.Proofs.Ytnjnmegjbcgajaa.PCostHangs
open Go.RowKit Go.Proofs.YtnjnmegjbcgajaaW.PrintWords Go.Proofs.YtnjnmegjbcgajaaW.PrintLast Go.Proofs.YtnjnmegjbcgajaaW.PrintMore
attribute [local go_sem] max2_int min2_int max_two min_two max_three min_three max_four min_four   -- for this text's walks alone
set_option linter.unusedVariables false
set_option linter.unusedSimpArgs false

attribute [local go_sem high] eqA32
/-! ### potsherdlaw24_CostHangs: function 6 -/
mutual
def potsherdlaw24_CostHangs.j0 : Nat → Int → Bool → Int → Int → Int → Int → Int → Int → Int → Int → Int → Int → Int → ByteArray → ByteArray → Int → Int → Int → List Int → Option (Bool)
  | 0, _, _, _, _, _, _, _, _, _, _, _, _, _, _, _, _, _, _, _ => none
  | k + 1, x3, x18, x140000, x140001, x140002, x140003, x140004, x141000, x141001, x141002, x141003, x141004, x142000, x142001, x142002, x142003, x142004, x142005, x142006 => if x18 = true then ((potsherdlaw24_awake.f k).bind fun t144 => (some t144)) else ((cost_Call.f k x140000 x140001 x140002 x140003 x140004 x142000 x142001 x142002 x142003 x142004 x142005 x142006 (wrap64 (Int.tmod (IntKind.u64.wrap (x3)) 8))).bind fun bt145 => ((cost_Call.f k x141000 x141001 x141002 x141003 x141004 x142000 x142001 x142002 x142003 x142004 x142005 x142006 (wrap64 (Int.tmod (IntKind.u64.wrap (x3)) 8))).bind fun bt148 => (if x140000 ≤ x141000 then (if x140001 ≤ x141001 then ((cost_Within.f bt145.1 bt145.2.1 bt145.2.2 bt148.1 bt148.2.1 bt148.2.2).bind fun t153 => (potsherdlaw24_CostHangs.j1 k (wrap64 (Int.tmod (IntKind.u64.wrap (x3)) 8)) (!t153) x140000 x140001 x140002 x140003 x140004 x141000 x141001 x141002 x141003 x141004 x142000 x142001 x142002 x142003 x142004 x142005 x142006 bt145.1 bt145.2.1 bt145.2.2 bt148.1 bt148.2.1 bt148.2.2)) else (potsherdlaw24_CostHangs.j1 k (wrap64 (Int.tmod (IntKind.u64.wrap (x3)) 8)) false x140000 x140001 x140002 x140003 x140004 x141000 x141001 x141002 x141003 x141004 x142000 x142001 x142002 x142003 x142004 x142005 x142006 bt145.1 bt145.2.1 bt145.2.2 bt148.1 bt148.2.1 bt148.2.2)) else (potsherdlaw24_CostHangs.j1 k (wrap64 (Int.tmod (IntKind.u64.wrap (x3)) 8)) false x140000 x140001 x140002 x140003 x140004 x141000 x141001 x141002 x141003 x141004 x142000 x142001 x142002 x142003 x142004 x142005 x142006 bt145.1 bt145.2.1 bt145.2.2 bt148.1 bt148.2.1 bt148.2.2))))
def potsherdlaw24_CostHangs.j1 : Nat → Int → Bool → Int → Int → Int → Int → Int → Int → Int → Int → Int → Int → Int → ByteArray → ByteArray → Int → Int → Int → List Int → Int → Int → Int → Int → Int → Int → Option (Bool)
  | 0, _, _, _, _, _, _, _, _, _, _, _, _, _, _, _, _, _, _, _, _, _, _, _, _, _ => none
  | k + 1, x3, x49, x140000, x140001, x140002, x140003, x140004, x141000, x141001, x141002, x141003, x141004, x142000, x142001, x142002, x142003, x142004, x142005, x142006, x152000, x152001, x152002, x153000, x153001, x153002 => if x49 = true then (some false) else ((cost_Call.f k x140000 x140001 x141002 x141003 x141004 x142000 x142001 x142002 x142003 x142004 x142005 x142006 x3).bind fun bt154 => (if (bt154.1 == x152000 && (bt154.2.1 == x152001 && (bt154.2.2 == x152002))) = true then ((cost_Within.f x152000 x152001 x152002 x152000 x152001 x152002).bind fun t157 => (if t157 = true then ((cost_Less.f x152000 x152001 x152002 x152000 x152001 x152002).bind fun bt158 => (if (bt158.1 == 0 && (bt158.2.1 == 0 && (bt158.2.2 == 0))) = true then ((cost_Less.f x153000 x153001 x153002 0 0 0).bind fun bt161 => ((cost_Within.f bt161.1 bt161.2.1 bt161.2.2 x153000 x153001 x153002).bind fun t164 => (if t164 = true then ((potsherdlaw24_awake.f k).bind fun t165 => (some t165)) else (some false)))) else (some false))) else (some false))) else (some false)))
end
def potsherdlaw24_CostHangs.f (k : Nat) (a0_0 : Int) (a0_1 : Int) (a0_2 : Int) (a0_3 : Int) (a0_4 : Int) (a1_0 : Int) (a1_1 : Int) (a1_2 : Int) (a1_3 : Int) (a1_4 : Int) (a2_0 : Int) (a2_1 : ByteArray) (a2_2 : ByteArray) (a2_3 : Int) (a2_4 : Int) (a2_5 : Int) (l2_6 : List Int) (a3 : Int) : Option (Bool) := (potsherdref3_MayPlan.f a0_0 a0_1 a0_2 a0_3 a0_4).bind fun t142 => (if t142 = true then ((potsherdref3_MayPlan.f a1_0 a1_1 a1_2 a1_3 a1_4).bind fun t143 => (potsherdlaw24_CostHangs.j0 k a3 (!t143) a0_0 a0_1 a0_2 a0_3 a0_4 a1_0 a1_1 a1_2 a1_3 a1_4 a2_0 a2_1 a2_2 a2_3 a2_4 a2_5 l2_6)) else (potsherdlaw24_CostHangs.j0 k a3 true a0_0 a0_1 a0_2 a0_3 a0_4 a1_0 a1_1 a1_2 a1_3 a1_4 a2_0 a2_1 a2_2 a2_3 a2_4 a2_5 l2_6))
theorem potsherdlaw24_CostHangs.mono_l : ∀ k, (∀ y0 y1 y2 y3 y4 y5 y6 y7 y8 y9 y10 y11 y12 y13 y14 y15 y16 y17 y18, LeO (potsherdlaw24_CostHangs.j0 k y0 y1 y2 y3 y4 y5 y6 y7 y8 y9 y10 y11 y12 y13 y14 y15 y16 y17 y18) (potsherdlaw24_CostHangs.j0 (k + 1) y0 y1 y2 y3 y4 y5 y6 y7 y8 y9 y10 y11 y12 y13 y14 y15 y16 y17 y18)) ∧ (∀ y0 y1 y2 y3 y4 y5 y6 y7 y8 y9 y10 y11 y12 y13 y14 y15 y16 y17 y18 y19 y20 y21 y22 y23 y24, LeO (potsherdlaw24_CostHangs.j1 k y0 y1 y2 y3 y4 y5 y6 y7 y8 y9 y10 y11 y12 y13 y14 y15 y16 y17 y18 y19 y20 y21 y22 y23 y24) (potsherdlaw24_CostHangs.j1 (k + 1) y0 y1 y2 y3 y4 y5 y6 y7 y8 y9 y10 y11 y12 y13 y14 y15 y16 y17 y18 y19 y20 y21 y22 y23 y24))
  | 0 => ⟨fun _ _ _ _ _ _ _ _ _ _ _ _ _ _ _ _ _ _ _ r h => by simp [potsherdlaw24_CostHangs.j0] at h, fun _ _ _ _ _ _ _ _ _ _ _ _ _ _ _ _ _ _ _ _ _ _ _ _ _ r h => by simp [potsherdlaw24_CostHangs.j1] at h⟩
  | k + 1 => by
    obtain ⟨ih0, ih1⟩ := potsherdlaw24_CostHangs.mono_l k
    refine ⟨?_, ?_⟩
    · intro y0 y1 y2 y3 y4 y5 y6 y7 y8 y9 y10 y11 y12 y13 y14 y15 y16 y17 y18
      unfold potsherdlaw24_CostHangs.j0
      repeat' first
      | (with_reducible exact ih0 _ _ _ _ _ _ _ _ _ _ _ _ _ _ _ _ _ _ _)
      | (with_reducible exact ih1 _ _ _ _ _ _ _ _ _ _ _ _ _ _ _ _ _ _ _ _ _ _ _ _ _)
      | (with_reducible exact cost_Call.mono _ _ _ _ _ _ _ _ _ _ _ _ _ _)
      | (with_reducible exact potsherdlaw24_awake.mono _)
      | (with_reducible exact LeO.refl _)
      | (with_reducible exact LeO.none _)
      | (with_reducible refine LeO.ite ?_ ?_)
      | (with_reducible refine LeO.bind ?_ (fun _ => ?_))
      | exact ih0 _ _ _ _ _ _ _ _ _ _ _ _ _ _ _ _ _ _ _
      | exact ih1 _ _ _ _ _ _ _ _ _ _ _ _ _ _ _ _ _ _ _ _ _ _ _ _ _
      | exact cost_Call.mono _ _ _ _ _ _ _ _ _ _ _ _ _ _
      | exact potsherdlaw24_awake.mono _
      | exact LeO.none _
      | refine LeO.ite ?_ ?_
      | refine LeO.bind ?_ (fun _ => ?_)
    · intro y0 y1 y2 y3 y4 y5 y6 y7 y8 y9 y10 y11 y12 y13 y14 y15 y16 y17 y18 y19 y20 y21 y22 y23 y24
      unfold potsherdlaw24_CostHangs.j1
      repeat' first
      | (with_reducible exact ih0 _ _ _ _ _ _ _ _ _ _ _ _ _ _ _ _ _ _ _)
      | (with_reducible exact ih1 _ _ _ _ _ _ _ _ _ _ _ _ _ _ _ _ _ _ _ _ _ _ _ _ _)
      | (with_reducible exact cost_Call.mono _ _ _ _ _ _ _ _ _ _ _ _ _ _)
      | (with_reducible exact potsherdlaw24_awake.mono _)
      | (with_reducible exact LeO.refl _)
      | (with_reducible exact LeO.none _)
      | (with_reducible refine LeO.ite ?_ ?_)
      | (with_reducible refine LeO.bind ?_ (fun _ => ?_))
      | exact ih0 _ _ _ _ _ _ _ _ _ _ _ _ _ _ _ _ _ _ _
      | exact ih1 _ _ _ _ _ _ _ _ _ _ _ _ _ _ _ _ _ _ _ _ _ _ _ _ _
      | exact cost_Call.mono _ _ _ _ _ _ _ _ _ _ _ _ _ _
      | exact potsherdlaw24_awake.mono _
      | exact LeO.none _
      | refine LeO.ite ?_ ?_
      | refine LeO.bind ?_ (fun _ => ?_)
theorem potsherdlaw24_CostHangs.mono : ∀ a0 a1 a2 a3 a4 a5 a6 a7 a8 a9 a10 a11 a12 a13 a14 a15 a16 a17 k, LeO (potsherdlaw24_CostHangs.f k a0 a1 a2 a3 a4 a5 a6 a7 a8 a9 a10 a11 a12 a13 a14 a15 a16 a17) (potsherdlaw24_CostHangs.f (k + 1) a0 a1 a2 a3 a4 a5 a6 a7 a8 a9 a10 a11 a12 a13 a14 a15 a16 a17) := by
  intro a0 a1 a2 a3 a4 a5 a6 a7 a8 a9 a10 a11 a12 a13 a14 a15 a16 a17 k
  obtain ⟨ih0, ih1⟩ := potsherdlaw24_CostHangs.mono_l k
  unfold potsherdlaw24_CostHangs.f
  repeat' first
      | (with_reducible exact ih0 _ _ _ _ _ _ _ _ _ _ _ _ _ _ _ _ _ _ _)
      | (with_reducible exact ih1 _ _ _ _ _ _ _ _ _ _ _ _ _ _ _ _ _ _ _ _ _ _ _ _ _)
      | (with_reducible exact cost_Call.mono _ _ _ _ _ _ _ _ _ _ _ _ _ _)
      | (with_reducible exact potsherdlaw24_awake.mono _)
      | (with_reducible exact LeO.refl _)
      | (with_reducible exact LeO.none _)
      | (with_reducible refine LeO.ite ?_ ?_)
      | (with_reducible refine LeO.bind ?_ (fun _ => ?_))
      | exact ih0 _ _ _ _ _ _ _ _ _ _ _ _ _ _ _ _ _ _ _
      | exact ih1 _ _ _ _ _ _ _ _ _ _ _ _ _ _ _ _ _ _ _ _ _ _ _ _ _
      | exact cost_Call.mono _ _ _ _ _ _ _ _ _ _ _ _ _ _
      | exact potsherdlaw24_awake.mono _
      | exact LeO.none _
      | refine LeO.ite ?_ ?_
      | refine LeO.bind ?_ (fun _ => ?_)
def potsherdlaw24_CostHangs.T4 : Bool × List (List Nat × List Nat) := (true, [([], []), ([], []), ([], []), ([0, 1, 2], [0, 1, 2]), ([], []), ([], []), ([], []), ([4, 5, 6, 3], [4, 5, 6]), ([], []), ([], []), ([8, 3, 7, 0, 1, 2, 3, 8, 9], [3, 8]), ([9, 7, 10, 0, 1, 2, 3, 4, 5, 6, 7, 8, 9, 10], [7, 9])])
def potsherdlaw24_CostHangs.B4 : List Nat := [0, 0, 0, 7, 0, 0, 0, 127, 0, 0, 1023, 2047]
theorem potsherdlaw24_CostHangs.tab4 : rtab .any (opsOf Try.f6 4) = potsherdlaw24_CostHangs.T4 := by kernel_rfl
theorem potsherdlaw24_CostHangs.bits4 : waitsOk potsherdlaw24_CostHangs.T4.2 potsherdlaw24_CostHangs.B4 = true := by kernel_rfl
def potsherdlaw24_CostHangs.T7 : Bool × List (List Nat × List Nat) := (true, [([], []), ([0], [0]), ([], []), ([2], [2]), ([0, 1], []), ([4, 1, 0, 1], [1, 4]), ([0, 1, 2, 3, 4, 5], []), ([6, 3, 5, 0, 1, 2, 3, 4, 5], [3, 6])])
def potsherdlaw24_CostHangs.B7 : List Nat := [0, 1, 0, 4, 3, 19, 63, 127]
theorem potsherdlaw24_CostHangs.tab7 : rtab .any (opsOf Try.f6 7) = potsherdlaw24_CostHangs.T7 := by kernel_rfl
theorem potsherdlaw24_CostHangs.bits7 : waitsOk potsherdlaw24_CostHangs.T7.2 potsherdlaw24_CostHangs.B7 = true := by kernel_rfl
def potsherdlaw24_CostHangs.T8 : Bool × List (List Nat × List Nat) := (true, [([], []), ([], []), ([], []), ([0, 1, 2], [0, 1, 2]), ([], []), ([3, 4], [3, 4]), ([5, 3], [5]), ([6], [6]), ([6], [6]), ([7, 8, 6, 6], [6, 7, 8]), ([6, 9], [6, 9]), ([10, 9], [10]), ([11], [11]), ([11], [11]), ([12, 13, 11, 11], [11, 12, 13]), ([11], [11]), ([14, 15, 11], [11, 14, 15]), ([11, 16], [11, 16]), ([17, 14], [17]), ([18], [18]), ([18], [18]), ([19, 20, 18, 18], [18, 19, 20]), ([18], [18]), ([21, 22, 21, 18], [18, 21, 22]), ([18, 23], [18, 23]), ([24, 23], [24]), ([25, 25], [25]), ([25, 26], [25, 26]), ([27, 26, 0, 1, 2, 3, 4, 5, 6, 7, 8, 9, 10, 11, 12, 13, 14, 15, 16, 17, 18, 19, 20, 21, 22, 23, 24, 25, 26, 27], [27])])
def potsherdlaw24_CostHangs.B8 : List Nat := [0, 0, 0, 7, 0, 31, 63, 127, 127, 511, 1023, 2047, 4095, 4095, 16383, 4095, 65535, 131071, 262143, 524287, 524287, 2097151, 524287, 8388607, 16777215, 33554431, 67108863, 134217727, 268435455]
theorem potsherdlaw24_CostHangs.tab8 : rtab .any (opsOf Try.f6 8) = potsherdlaw24_CostHangs.T8 := by kernel_rfl
theorem potsherdlaw24_CostHangs.bits8 : waitsOk potsherdlaw24_CostHangs.T8.2 potsherdlaw24_CostHangs.B8 = true := by kernel_rfl
set_option maxHeartbeats 8000000 in
set_option maxRecDepth 100000 in
theorem potsherdlaw24_CostHangs.calls (k : Nat) (a0_0 : Int) (a0_1 : Int) (a0_2 : Int) (a0_3 : Int) (a0_4 : Int) (a1_0 : Int) (a1_1 : Int) (a1_2 : Int) (a1_3 : Int) (a1_4 : Int) (a2_0 : Int) (a2_1 : ByteArray) (a2_2 : ByteArray) (a2_3 : Int) (a2_4 : Int) (a2_5 : Int) (A2_6 : Option Addr) (c2_6 : Nat) (l2_6 : List Int) (a3 : Int) (w : World) (hr2_6 : Kd.C (Kd.int .u8) w A2_6 l2_6.length l2_6) (hc2_6 : l2_6.length ≤ c2_6) (h : potsherdlaw24_CostHangs.f k a0_0 a0_1 a0_2 a0_3 a0_4 a1_0 a1_1 a1_2 a1_3 a1_4 a2_0 a2_1 a2_2 a2_3 a2_4 a2_5 l2_6 a3 = some true) :
    Calls Try.prog 6 #[.agg #[.int .i64 a0_0, .int .i64 a0_1, .int .i64 a0_2, .int .i64 a0_3, .int .i64 a0_4], .agg #[.int .i64 a1_0, .int .i64 a1_1, .int .i64 a1_2, .int .i64 a1_3, .int .i64 a1_4], .agg #[.int .i64 a2_0, .string a2_1, .string a2_2, .int .i64 a2_3, .int .i64 a2_4, .int .i64 a2_5, .slice A2_6 l2_6.length c2_6], .int .i64 a3] w fun e w' => e = .returned (.bool true) ∧ Below w.heap.size w w' := by
  have hu23 := Try.underlying23
  have hu30 := Try.underlying30
  have hu32 := Try.underlying32
  have HR2_6 := Aside0.mk hr2_6
  have HC2_6 := Aside0.mk hc2_6
  clear hr2_6 hc2_6
  have HB := Aside0.mk (Below.refl w.heap.size w)
  have H : ((potsherdref3_MayPlan.f a0_0 a0_1 a0_2 a0_3 a0_4).bind fun t142 => (if t142 = true then ((potsherdref3_MayPlan.f a1_0 a1_1 a1_2 a1_3 a1_4).bind fun t143 => (potsherdlaw24_CostHangs.j0 k a3 (!t143) a0_0 a0_1 a0_2 a0_3 a0_4 a1_0 a1_1 a1_2 a1_3 a1_4 a2_0 a2_1 a2_2 a2_3 a2_4 a2_5 l2_6)) else (potsherdlaw24_CostHangs.j0 k a3 true a0_0 a0_1 a0_2 a0_3 a0_4 a1_0 a1_1 a1_2 a1_3 a1_4 a2_0 a2_1 a2_2 a2_3 a2_4 a2_5 l2_6))) = some true := h
  clear h
  have HC5 := Aside0.mk H
  clear H
  go_enter Try.func6, Try.ntmps6
  go_upto_region 1 with (first | ((with_reducible refine gate_dst (N := 4) rfl ?_); refine box_event ?hg (N := 4) ?hd (cs := #[.int .i64 a0_0, .int .i64 a0_1, .int .i64 a0_2, .int .i64 a0_3, .int .i64 a0_4]) (t := 23) ?hr ?_; (case hd => rfl); (case hg => rfl); (case hr => first | (go_simp; done) | (go_simp; rfl)); intro gb139 hg w6 hbox hb; have n0_ := Aside0.mk (below_step (by repeat (first | (with_reducible first | exact HB.out | apply below_alloc | apply pw_below_drewN | apply below_drew1) | exact HB.out)) hb); have n1_ := Aside0.mk (hbox); have n2_ := Aside0.mk ((by rw [hg]; exact (below_size (by repeat (first | (with_reducible first | exact HB.out | apply below_alloc | apply pw_below_drewN | apply below_drew1) | exact HB.out))) : w.heap.size ≤ gb139)); have n3_ := Aside0.mk ((by rw [hg]; exact (below_size (by repeat (first | (with_reducible first | exact HB.out | apply below_alloc | apply pw_below_drewN | apply below_drew1) | exact HB.out))) : w.heap.size ≤ gb139)); clear HB; have HB := n0_; have BK139 := n1_; have GW139 := n2_; have GE139 := n3_; clear n0_ n1_ n2_ n3_; clear hb hbox hg) | ((with_reducible refine gate_dst (N := 5) rfl ?_); refine box_event ?hg (N := 5) ?hd (cs := #[.int .i64 a1_0, .int .i64 a1_1, .int .i64 a1_2, .int .i64 a1_3, .int .i64 a1_4]) (t := 23) ?hr ?_; (case hd => rfl); (case hg => rfl); (case hr => first | (go_simp; done) | (go_simp; rfl)); intro gb140 hg w7 hbox hb; have n0_ := Aside0.mk (blk_below (g := gb139) (o := .cells #[.int .i64 a0_0, .int .i64 a0_1, .int .i64 a0_2, .int .i64 a0_3, .int .i64 a0_4] 23 (0, 0)) (by (with_reducible repeat (first | refine blk_drewN ?_ _ | refine blk_drew ?_ | refine blk_alloc ?_ _)); exact BK139.out) hb); have n1_ := Aside0.mk (below_step (by repeat (first | (with_reducible first | exact HB.out | apply below_alloc | apply pw_below_drewN | apply below_drew1 | refine below_set ?_ GE139.out) | exact HB.out)) hb); have n2_ := Aside0.mk (hbox); have n3_ := Aside0.mk ((by rw [hg]; exact (below_size (by repeat (first | (with_reducible first | exact HB.out | apply below_alloc | apply pw_below_drewN | apply below_drew1 | refine below_set ?_ GE139.out) | exact HB.out))) : w.heap.size ≤ gb140)); have n4_ := Aside0.mk ((by rw [hg]; exact (below_size (by repeat (first | (with_reducible first | exact HB.out | apply below_alloc | apply pw_below_drewN | apply below_drew1 | refine below_set ?_ GE139.out) | exact HB.out))) : w.heap.size ≤ gb140)); have n5_ := Aside0.mk ((by rw [hg]; exact Nat.ne_of_lt (blk_lt (g := gb139) (o := .cells #[.int .i64 a0_0, .int .i64 a0_1, .int .i64 a0_2, .int .i64 a0_3, .int .i64 a0_4] 23 (0, 0)) (by (with_reducible repeat (first | refine blk_drewN ?_ _ | refine blk_drew ?_ | refine blk_alloc ?_ _)); exact BK139.out)) : gb139 ≠ gb140)); have n6_ := Aside0.mk ((by rw [hg]; exact Nat.ne_of_gt (blk_lt (g := gb139) (o := .cells #[.int .i64 a0_0, .int .i64 a0_1, .int .i64 a0_2, .int .i64 a0_3, .int .i64 a0_4] 23 (0, 0)) (by (with_reducible repeat (first | refine blk_drewN ?_ _ | refine blk_drew ?_ | refine blk_alloc ?_ _)); exact BK139.out)) : gb140 ≠ gb139)); clear BK139; clear HB; have BK139 := n0_; have HB := n1_; have BK140 := n2_; have GW140 := n3_; have GE140 := n4_; have NB139_140 := n5_; have NB140_139 := n6_; clear n0_ n1_ n2_ n3_ n4_ n5_ n6_; clear hb hbox hg) | ((with_reducible refine gate_dst (N := 6) rfl ?_); refine box_event ?hg (N := 6) ?hd (cs := #[.int .i64 a2_0, .string a2_1, .string a2_2, .int .i64 a2_3, .int .i64 a2_4, .int .i64 a2_5, .slice A2_6 l2_6.length c2_6]) (t := 30) ?hr ?_; (case hd => rfl); (case hg => rfl); (case hr => first | (go_simp; done) | (go_simp; rfl)); intro gb141 hg w8 hbox hb; have n0_ := Aside0.mk (blk_below (g := gb139) (o := .cells #[.int .i64 a0_0, .int .i64 a0_1, .int .i64 a0_2, .int .i64 a0_3, .int .i64 a0_4] 23 (0, 0)) (by (with_reducible repeat (first | refine blk_drewN ?_ _ | refine blk_drew ?_ | refine blk_alloc ?_ _)); exact BK139.out) hb); have n1_ := Aside0.mk (blk_below (g := gb140) (o := .cells #[.int .i64 a1_0, .int .i64 a1_1, .int .i64 a1_2, .int .i64 a1_3, .int .i64 a1_4] 23 (0, 0)) (by (with_reducible repeat (first | refine blk_drewN ?_ _ | refine blk_drew ?_ | refine blk_alloc ?_ _)); exact BK140.out) hb); have n2_ := Aside0.mk (below_step (by repeat (first | (with_reducible first | exact HB.out | apply below_alloc | apply pw_below_drewN | apply below_drew1 | refine below_set ?_ GE139.out | refine below_set ?_ GE140.out) | exact HB.out)) hb); have n3_ := Aside0.mk (hbox); have n4_ := Aside0.mk ((by rw [hg]; exact (below_size (by repeat (first | (with_reducible first | exact HB.out | apply below_alloc | apply pw_below_drewN | apply below_drew1 | refine below_set ?_ GE139.out | refine below_set ?_ GE140.out) | exact HB.out))) : w.heap.size ≤ gb141)); have n5_ := Aside0.mk ((by rw [hg]; exact (below_size (by repeat (first | (with_reducible first | exact HB.out | apply below_alloc | apply pw_below_drewN | apply below_drew1 | refine below_set ?_ GE139.out | refine below_set ?_ GE140.out) | exact HB.out))) : w.heap.size ≤ gb141)); have n6_ := Aside0.mk ((by rw [hg]; exact Nat.ne_of_lt (blk_lt (g := gb139) (o := .cells #[.int .i64 a0_0, .int .i64 a0_1, .int .i64 a0_2, .int .i64 a0_3, .int .i64 a0_4] 23 (0, 0)) (by (with_reducible repeat (first | refine blk_drewN ?_ _ | refine blk_drew ?_ | refine blk_alloc ?_ _)); exact BK139.out)) : gb139 ≠ gb141)); have n7_ := Aside0.mk ((by rw [hg]; exact Nat.ne_of_gt (blk_lt (g := gb139) (o := .cells #[.int .i64 a0_0, .int .i64 a0_1, .int .i64 a0_2, .int .i64 a0_3, .int .i64 a0_4] 23 (0, 0)) (by (with_reducible repeat (first | refine blk_drewN ?_ _ | refine blk_drew ?_ | refine blk_alloc ?_ _)); exact BK139.out)) : gb141 ≠ gb139)); have n8_ := Aside0.mk ((by rw [hg]; exact Nat.ne_of_lt (blk_lt (g := gb140) (o := .cells #[.int .i64 a1_0, .int .i64 a1_1, .int .i64 a1_2, .int .i64 a1_3, .int .i64 a1_4] 23 (0, 0)) (by (with_reducible repeat (first | refine blk_drewN ?_ _ | refine blk_drew ?_ | refine blk_alloc ?_ _)); exact BK140.out)) : gb140 ≠ gb141)); have n9_ := Aside0.mk ((by rw [hg]; exact Nat.ne_of_gt (blk_lt (g := gb140) (o := .cells #[.int .i64 a1_0, .int .i64 a1_1, .int .i64 a1_2, .int .i64 a1_3, .int .i64 a1_4] 23 (0, 0)) (by (with_reducible repeat (first | refine blk_drewN ?_ _ | refine blk_drew ?_ | refine blk_alloc ?_ _)); exact BK140.out)) : gb141 ≠ gb140)); clear BK139; clear BK140; clear HB; have BK139 := n0_; have BK140 := n1_; have HB := n2_; have BK141 := n3_; have GW141 := n4_; have GE141 := n5_; have NB139_141 := n6_; have NB141_139 := n7_; have NB140_141 := n8_; have NB141_140 := n9_; clear n0_ n1_ n2_ n3_ n4_ n5_ n6_ n7_ n8_ n9_; clear hb hbox hg))
  (try simp only [Act.put, List.setIfInBounds_toArray, List.set_cons_zero, List.set_cons_succ])
  go_cut [18] (fun v18 wc => ∃ (kq : Nat) (x18_4 : Bool), v18 = .bool x18_4 ∧ Aside0 (potsherdlaw24_CostHangs.j0 kq a3 x18_4 a0_0 a0_1 a0_2 a0_3 a0_4 a1_0 a1_1 a1_2 a1_3 a1_4 a2_0 a2_1 a2_2 a2_3 a2_4 a2_5 l2_6 = some true) ∧ Aside0 (kq ≤ k) ∧ Aside0 (wc.heap[gb139]? = some (.cells #[.int .i64 a0_0, .int .i64 a0_1, .int .i64 a0_2, .int .i64 a0_3, .int .i64 a0_4] 23 (0, 0))) ∧ Aside0 (wc.heap[gb140]? = some (.cells #[.int .i64 a1_0, .int .i64 a1_1, .int .i64 a1_2, .int .i64 a1_3, .int .i64 a1_4] 23 (0, 0))) ∧ Aside0 (wc.heap[gb141]? = some (.cells #[.int .i64 a2_0, .string a2_1, .string a2_2, .int .i64 a2_3, .int .i64 a2_4, .int .i64 a2_5, (.slice A2_6 l2_6.length c2_6)] 30 (0, 0))) ∧ Aside0 (Below w.heap.size w wc))
  case first =>
    have H := HC5.out
    clear HC5
    replace H := Option.bind_eq_some_iff.mp H
    obtain ⟨t142, A90, H⟩ := H
    replace H : (if t142 = true then ((potsherdref3_MayPlan.f a1_0 a1_1 a1_2 a1_3 a1_4).bind fun t143 => (potsherdlaw24_CostHangs.j0 k a3 (!t143) a0_0 a0_1 a0_2 a0_3 a0_4 a1_0 a1_1 a1_2 a1_3 a1_4 a2_0 a2_1 a2_2 a2_3 a2_4 a2_5 l2_6)) else (potsherdlaw24_CostHangs.j0 k a3 true a0_0 a0_1 a0_2 a0_3 a0_4 a1_0 a1_1 a1_2 a1_3 a1_4 a2_0 a2_1 a2_2 a2_3 a2_4 a2_5 l2_6)) = some true := H
    have A9 := Aside0.mk A90
    clear A90
    by_cases c10 : t142 = true
    · subst c10
      have H1 : ((potsherdref3_MayPlan.f a1_0 a1_1 a1_2 a1_3 a1_4).bind fun t143 => (potsherdlaw24_CostHangs.j0 k a3 (!t143) a0_0 a0_1 a0_2 a0_3 a0_4 a1_0 a1_1 a1_2 a1_3 a1_4 a2_0 a2_1 a2_2 a2_3 a2_4 a2_5 l2_6)) = some true := by rw [if_pos rfl] at H; exact H
      clear H
      have H := H1
      clear H1
      replace H := Option.bind_eq_some_iff.mp H
      obtain ⟨t143, A110, H⟩ := H
      replace H : (potsherdlaw24_CostHangs.j0 k a3 (!t143) a0_0 a0_1 a0_2 a0_3 a0_4 a1_0 a1_1 a1_2 a1_3 a1_4 a2_0 a2_1 a2_2 a2_3 a2_4 a2_5 l2_6) = some true := H
      have A11 := Aside0.mk A110
      clear A110
      have H' := Aside0.mk H
      clear H
      have hnb12 := NB139_140.out
      have hnc12 := NB140_139.out
      have hnb13 := NB139_141.out
      have hnc13 := NB141_139.out
      have hcz14_0 : w8.cell? ⟨gb139, 0, none⟩ = some (.int .i64 a0_0) := (blk_cell BK139.out 0).trans rfl
      have hcz14_1 : w8.cell? ⟨gb139, 1, none⟩ = some (.int .i64 a0_1) := (blk_cell BK139.out 1).trans rfl
      have hcz14_2 : w8.cell? ⟨gb139, 2, none⟩ = some (.int .i64 a0_2) := (blk_cell BK139.out 2).trans rfl
      have hcz14_3 : w8.cell? ⟨gb139, 3, none⟩ = some (.int .i64 a0_3) := (blk_cell BK139.out 3).trans rfl
      have hcz14_4 : w8.cell? ⟨gb139, 4, none⟩ = some (.int .i64 a0_4) := (blk_cell BK139.out 4).trans rfl
      have hfz14_0 := blk_frozen BK139.out 0
      have hfz14_1 := blk_frozen BK139.out 1
      have hfz14_2 := blk_frozen BK139.out 2
      have hfz14_3 := blk_frozen BK139.out 3
      have hfz14_4 := blk_frozen BK139.out 4
      go_wp2_with (first | ((with_reducible refine gate_callee (f := 11) rfl ?_); refine goesL_ (some 12) rfl rfl Try.func11 (by kernel_rfl) rfl #[.agg #[.int .i64 a0_0, .int .i64 a0_1, .int .i64 a0_2, .int .i64 a0_3, .int .i64 a0_4]] rfl (by (try simp only [List.map_toArray, List.map_cons, List.map_nil]); first | done | rfl | (simp only [List.length_drop, List.length_take]; rfl)) ?_; (with_reducible refine (potsherdref3_MayPlan.calls a0_0 a0_1 a0_2 a0_3 a0_4 true _ A9.out).mono ?_); rintro e w15 ⟨rfl, hb⟩; refine ⟨_, rfl, ?_⟩; have n0_ := Aside0.mk (blk_below (g := gb139) (o := .cells #[.int .i64 a0_0, .int .i64 a0_1, .int .i64 a0_2, .int .i64 a0_3, .int .i64 a0_4] 23 (0, 0)) (by (with_reducible repeat (first | refine blk_drewN ?_ _ | refine blk_drew ?_ | refine blk_alloc ?_ _)); exact BK139.out) hb); have n1_ := Aside0.mk (blk_below (g := gb140) (o := .cells #[.int .i64 a1_0, .int .i64 a1_1, .int .i64 a1_2, .int .i64 a1_3, .int .i64 a1_4] 23 (0, 0)) (by (with_reducible repeat (first | refine blk_drewN ?_ _ | refine blk_drew ?_ | refine blk_alloc ?_ _)); exact BK140.out) hb); have n2_ := Aside0.mk (blk_below (g := gb141) (o := .cells #[.int .i64 a2_0, .string a2_1, .string a2_2, .int .i64 a2_3, .int .i64 a2_4, .int .i64 a2_5, .slice A2_6 l2_6.length c2_6] 30 (0, 0)) (by (with_reducible repeat (first | refine blk_drewN ?_ _ | refine blk_drew ?_ | refine blk_alloc ?_ _)); exact BK141.out) hb); have n3_ := Aside0.mk (below_step (by repeat (first | (with_reducible first | exact HB.out | apply below_alloc | apply pw_below_drewN | apply below_drew1 | refine below_set ?_ GE139.out | refine below_set ?_ GE140.out | refine below_set ?_ GE141.out) | exact HB.out)) hb); clear BK139; clear BK140; clear BK141; clear HB; have BK139 := n0_; have BK140 := n1_; have BK141 := n2_; have HB := n3_; clear n0_ n1_ n2_ n3_; (try clear hb); (try clear hb2); (try clear hk); (try clear hi); have hnb16 := NB140_141.out; have hnc16 := NB141_140.out; have hcz17_0 : w15.cell? ⟨gb140, 0, none⟩ = some (.int .i64 a1_0) := (blk_cell BK140.out 0).trans rfl; have hcz17_1 : w15.cell? ⟨gb140, 1, none⟩ = some (.int .i64 a1_1) := (blk_cell BK140.out 1).trans rfl; have hcz17_2 : w15.cell? ⟨gb140, 2, none⟩ = some (.int .i64 a1_2) := (blk_cell BK140.out 2).trans rfl; have hcz17_3 : w15.cell? ⟨gb140, 3, none⟩ = some (.int .i64 a1_3) := (blk_cell BK140.out 3).trans rfl; have hcz17_4 : w15.cell? ⟨gb140, 4, none⟩ = some (.int .i64 a1_4) := (blk_cell BK140.out 4).trans rfl; have hfz17_0 := blk_frozen BK140.out 0; have hfz17_1 := blk_frozen BK140.out 1; have hfz17_2 := blk_frozen BK140.out 2; have hfz17_3 := blk_frozen BK140.out 3; have hfz17_4 := blk_frozen BK140.out 4) | (go_at_call 11; (with_reducible refine (potsherdref3_MayPlan.calls a1_0 a1_1 a1_2 a1_3 a1_4 t143 _ A11.out).mono ?_); rintro e w18 ⟨rfl, hb⟩; have n0_ := Aside0.mk (blk_below (g := gb139) (o := .cells #[.int .i64 a0_0, .int .i64 a0_1, .int .i64 a0_2, .int .i64 a0_3, .int .i64 a0_4] 23 (0, 0)) (by (with_reducible repeat (first | refine blk_drewN ?_ _ | refine blk_drew ?_ | refine blk_alloc ?_ _)); exact BK139.out) hb); have n1_ := Aside0.mk (blk_below (g := gb140) (o := .cells #[.int .i64 a1_0, .int .i64 a1_1, .int .i64 a1_2, .int .i64 a1_3, .int .i64 a1_4] 23 (0, 0)) (by (with_reducible repeat (first | refine blk_drewN ?_ _ | refine blk_drew ?_ | refine blk_alloc ?_ _)); exact BK140.out) hb); have n2_ := Aside0.mk (blk_below (g := gb141) (o := .cells #[.int .i64 a2_0, .string a2_1, .string a2_2, .int .i64 a2_3, .int .i64 a2_4, .int .i64 a2_5, .slice A2_6 l2_6.length c2_6] 30 (0, 0)) (by (with_reducible repeat (first | refine blk_drewN ?_ _ | refine blk_drew ?_ | refine blk_alloc ?_ _)); exact BK141.out) hb); have n3_ := Aside0.mk (below_step (by repeat (first | (with_reducible first | exact HB.out | apply below_alloc | apply pw_below_drewN | apply below_drew1 | refine below_set ?_ GE139.out | refine below_set ?_ GE140.out | refine below_set ?_ GE141.out) | exact HB.out)) hb); clear BK139; clear BK140; clear BK141; clear HB; have BK139 := n0_; have BK140 := n1_; have BK141 := n2_; have HB := n3_; clear n0_ n1_ n2_ n3_; (try clear hb); (try clear hb2); (try clear hk); (try clear hi)))
      go_meet
      case rel => exact ⟨_, (!t143), (by first | rfl | (simp; done) | (simp [*]; done)), H', ⟨by first | omega | exact Nat.le_refl _⟩, ⟨by (with_reducible repeat (first | refine blk_drewN ?_ _ | refine blk_drew ?_ | refine blk_alloc ?_ _)); exact BK139.out⟩, ⟨by (with_reducible repeat (first | refine blk_drewN ?_ _ | refine blk_drew ?_ | refine blk_alloc ?_ _)); exact BK140.out⟩, ⟨by (with_reducible repeat (first | refine blk_drewN ?_ _ | refine blk_drew ?_ | refine blk_alloc ?_ _)); exact BK141.out⟩, ⟨by repeat (first | (with_reducible first | exact HB.out | apply below_alloc | apply pw_below_drewN | apply below_drew1 | refine below_set ?_ GE139.out | refine below_set ?_ GE140.out | refine below_set ?_ GE141.out) | exact HB.out)⟩⟩
    · replace c10 := Bool.eq_false_iff.mpr c10
      subst c10
      have H1 : (potsherdlaw24_CostHangs.j0 k a3 true a0_0 a0_1 a0_2 a0_3 a0_4 a1_0 a1_1 a1_2 a1_3 a1_4 a2_0 a2_1 a2_2 a2_3 a2_4 a2_5 l2_6) = some true := by rw [if_neg (show ¬ (false = true) by decide)] at H; exact H
      clear H
      have H := H1
      clear H1
      have H' := Aside0.mk H
      clear H
      have hnb19 := NB139_140.out
      have hnc19 := NB140_139.out
      have hnb20 := NB139_141.out
      have hnc20 := NB141_139.out
      have hcz21_0 : w8.cell? ⟨gb139, 0, none⟩ = some (.int .i64 a0_0) := (blk_cell BK139.out 0).trans rfl
      have hcz21_1 : w8.cell? ⟨gb139, 1, none⟩ = some (.int .i64 a0_1) := (blk_cell BK139.out 1).trans rfl
      have hcz21_2 : w8.cell? ⟨gb139, 2, none⟩ = some (.int .i64 a0_2) := (blk_cell BK139.out 2).trans rfl
      have hcz21_3 : w8.cell? ⟨gb139, 3, none⟩ = some (.int .i64 a0_3) := (blk_cell BK139.out 3).trans rfl
      have hcz21_4 : w8.cell? ⟨gb139, 4, none⟩ = some (.int .i64 a0_4) := (blk_cell BK139.out 4).trans rfl
      have hfz21_0 := blk_frozen BK139.out 0
      have hfz21_1 := blk_frozen BK139.out 1
      have hfz21_2 := blk_frozen BK139.out 2
      have hfz21_3 := blk_frozen BK139.out 3
      have hfz21_4 := blk_frozen BK139.out 4
      go_wp2_with (first | ((with_reducible refine gate_callee (f := 11) rfl ?_); refine goesL_ (some 12) rfl rfl Try.func11 (by kernel_rfl) rfl #[.agg #[.int .i64 a0_0, .int .i64 a0_1, .int .i64 a0_2, .int .i64 a0_3, .int .i64 a0_4]] rfl (by (try simp only [List.map_toArray, List.map_cons, List.map_nil]); first | done | rfl | (simp only [List.length_drop, List.length_take]; rfl)) ?_; (with_reducible refine (potsherdref3_MayPlan.calls a0_0 a0_1 a0_2 a0_3 a0_4 false _ A9.out).mono ?_); rintro e w22 ⟨rfl, hb⟩; refine ⟨_, rfl, ?_⟩; have n0_ := Aside0.mk (blk_below (g := gb139) (o := .cells #[.int .i64 a0_0, .int .i64 a0_1, .int .i64 a0_2, .int .i64 a0_3, .int .i64 a0_4] 23 (0, 0)) (by (with_reducible repeat (first | refine blk_drewN ?_ _ | refine blk_drew ?_ | refine blk_alloc ?_ _)); exact BK139.out) hb); have n1_ := Aside0.mk (blk_below (g := gb140) (o := .cells #[.int .i64 a1_0, .int .i64 a1_1, .int .i64 a1_2, .int .i64 a1_3, .int .i64 a1_4] 23 (0, 0)) (by (with_reducible repeat (first | refine blk_drewN ?_ _ | refine blk_drew ?_ | refine blk_alloc ?_ _)); exact BK140.out) hb); have n2_ := Aside0.mk (blk_below (g := gb141) (o := .cells #[.int .i64 a2_0, .string a2_1, .string a2_2, .int .i64 a2_3, .int .i64 a2_4, .int .i64 a2_5, .slice A2_6 l2_6.length c2_6] 30 (0, 0)) (by (with_reducible repeat (first | refine blk_drewN ?_ _ | refine blk_drew ?_ | refine blk_alloc ?_ _)); exact BK141.out) hb); have n3_ := Aside0.mk (below_step (by repeat (first | (with_reducible first | exact HB.out | apply below_alloc | apply pw_below_drewN | apply below_drew1 | refine below_set ?_ GE139.out | refine below_set ?_ GE140.out | refine below_set ?_ GE141.out) | exact HB.out)) hb); clear BK139; clear BK140; clear BK141; clear HB; have BK139 := n0_; have BK140 := n1_; have BK141 := n2_; have HB := n3_; clear n0_ n1_ n2_ n3_; (try clear hb); (try clear hb2); (try clear hk); (try clear hi)))
      go_meet
      case rel => exact ⟨_, (true), (by first | rfl | (simp; done) | (simp [*]; done)), H', ⟨by first | omega | exact Nat.le_refl _⟩, ⟨by (with_reducible repeat (first | refine blk_drewN ?_ _ | refine blk_drew ?_ | refine blk_alloc ?_ _)); exact BK139.out⟩, ⟨by (with_reducible repeat (first | refine blk_drewN ?_ _ | refine blk_drew ?_ | refine blk_alloc ?_ _)); exact BK140.out⟩, ⟨by (with_reducible repeat (first | refine blk_drewN ?_ _ | refine blk_drew ?_ | refine blk_alloc ?_ _)); exact BK141.out⟩, ⟨by repeat (first | (with_reducible first | exact HB.out | apply below_alloc | apply pw_below_drewN | apply below_drew1 | refine below_set ?_ GE139.out | refine below_set ?_ GE140.out | refine below_set ?_ GE141.out) | exact HB.out)⟩⟩
  case rest =>
    clear HC5
    try clear c1
    try clear c2
    try clear p2
    try clear c6
    try clear c10
    try clear c11
    try clear c12
    try clear c13
    try clear c16
    try clear c19
    try clear c20
    try clear hcz14_0
    try clear hcz14_1
    try clear hcz14_2
    try clear hcz14_3
    try clear hcz14_4
    try clear hcz17_0
    try clear hcz17_1
    try clear hcz17_2
    try clear hcz17_3
    try clear hcz17_4
    try clear hcz21_0
    try clear hcz21_1
    try clear hcz21_2
    try clear hcz21_3
    try clear hcz21_4
    try clear hfz14_0
    try clear hfz14_1
    try clear hfz14_2
    try clear hfz14_3
    try clear hfz14_4
    try clear hfz17_0
    try clear hfz17_1
    try clear hfz17_2
    try clear hfz17_3
    try clear hfz17_4
    try clear hfz21_0
    try clear hfz21_1
    try clear hfz21_2
    try clear hfz21_3
    try clear hfz21_4
    obtain ⟨kq, x18_4, rfl, HA, HJ4, BK139, BK140, BK141, HB⟩ := hcut
    cases kq with
    | zero => exact absurd HA.out (by simp [potsherdlaw24_CostHangs.j0])
    | succ kj4 =>
      have H := HA.out
      clear HA
      simp only [potsherdlaw24_CostHangs.j0] at H
      by_cases c23 : x18_4 = true
      · subst c23
        have H1 : ((potsherdlaw24_awake.f kj4).bind fun t144 => (some t144)) = some true := by rw [if_pos rfl] at H; exact H
        clear H
        have H := H1
        clear H1
        replace H := Option.bind_eq_some_iff.mp H
        obtain ⟨t144, A240, H⟩ := H
        replace H : (some t144) = some true := H
        have A24 := Aside0.mk A240
        clear A240
        have HRET := Aside0.mk (Option.some.inj H)
        clear H
        go_wp2_with (first | ((with_reducible refine gate_callee (f := 12) rfl ?_); refine goesL_ (some 19) rfl rfl Try.func12 (by kernel_rfl) rfl #[] rfl (by (try simp only [List.map_toArray, List.map_cons, List.map_nil]); first | done | rfl | (simp only [List.length_drop, List.length_take]; rfl)) ?_; (with_reducible refine (potsherdlaw24_awake.calls kj4  t144 _ A24.out).mono ?_); rintro e w25 ⟨rfl, hb⟩; refine ⟨_, rfl, ?_⟩; have n0_ := Aside0.mk (blk_below (g := gb139) (o := .cells #[.int .i64 a0_0, .int .i64 a0_1, .int .i64 a0_2, .int .i64 a0_3, .int .i64 a0_4] 23 (0, 0)) (by (with_reducible repeat (first | refine blk_drewN ?_ _ | refine blk_drew ?_ | refine blk_alloc ?_ _)); exact BK139.out) hb); have n1_ := Aside0.mk (blk_below (g := gb140) (o := .cells #[.int .i64 a1_0, .int .i64 a1_1, .int .i64 a1_2, .int .i64 a1_3, .int .i64 a1_4] 23 (0, 0)) (by (with_reducible repeat (first | refine blk_drewN ?_ _ | refine blk_drew ?_ | refine blk_alloc ?_ _)); exact BK140.out) hb); have n2_ := Aside0.mk (blk_below (g := gb141) (o := .cells #[.int .i64 a2_0, .string a2_1, .string a2_2, .int .i64 a2_3, .int .i64 a2_4, .int .i64 a2_5, .slice A2_6 l2_6.length c2_6] 30 (0, 0)) (by (with_reducible repeat (first | refine blk_drewN ?_ _ | refine blk_drew ?_ | refine blk_alloc ?_ _)); exact BK141.out) hb); have n3_ := Aside0.mk (below_step (by repeat (first | (with_reducible first | exact HB.out | apply below_alloc | apply pw_below_drewN | apply below_drew1 | refine below_set ?_ GE139.out | refine below_set ?_ GE140.out | refine below_set ?_ GE141.out) | exact HB.out)) hb); clear BK139; clear BK140; clear BK141; clear HB; have BK139 := n0_; have BK140 := n1_; have BK141 := n2_; have HB := n3_; clear n0_ n1_ n2_ n3_; (try clear hb); (try clear hb2); (try clear hk); (try clear hi)))
        go_ret
        exact ⟨by first | rfl | exact congrArg (fun b_ => Ending.returned (Value.bool b_)) HRET.out | (rw [HRET.out]) | (simp [errW_none, errW_some] <;> rfl) | (simp [*, errW_none, errW_some] <;> rfl), by repeat (first | (with_reducible first | exact HB.out | apply below_alloc | apply pw_below_drewN | apply below_drew1 | refine below_set ?_ GE139.out | refine below_set ?_ GE140.out | refine below_set ?_ GE141.out) | exact HB.out)⟩
      · replace c23 := Bool.eq_false_iff.mpr c23
        subst c23
        have H1 : ((cost_Call.f kj4 a0_0 a0_1 a0_2 a0_3 a0_4 a2_0 a2_1 a2_2 a2_3 a2_4 a2_5 l2_6 (wrap64 (Int.tmod (IntKind.u64.wrap (a3)) 8))).bind fun bt145 => ((cost_Call.f kj4 a1_0 a1_1 a1_2 a1_3 a1_4 a2_0 a2_1 a2_2 a2_3 a2_4 a2_5 l2_6 (wrap64 (Int.tmod (IntKind.u64.wrap (a3)) 8))).bind fun bt148 => (if a0_0 ≤ a1_0 then (if a0_1 ≤ a1_1 then ((cost_Within.f bt145.1 bt145.2.1 bt145.2.2 bt148.1 bt148.2.1 bt148.2.2).bind fun t153 => (potsherdlaw24_CostHangs.j1 kj4 (wrap64 (Int.tmod (IntKind.u64.wrap (a3)) 8)) (!t153) a0_0 a0_1 a0_2 a0_3 a0_4 a1_0 a1_1 a1_2 a1_3 a1_4 a2_0 a2_1 a2_2 a2_3 a2_4 a2_5 l2_6 bt145.1 bt145.2.1 bt145.2.2 bt148.1 bt148.2.1 bt148.2.2)) else (potsherdlaw24_CostHangs.j1 kj4 (wrap64 (Int.tmod (IntKind.u64.wrap (a3)) 8)) false a0_0 a0_1 a0_2 a0_3 a0_4 a1_0 a1_1 a1_2 a1_3 a1_4 a2_0 a2_1 a2_2 a2_3 a2_4 a2_5 l2_6 bt145.1 bt145.2.1 bt145.2.2 bt148.1 bt148.2.1 bt148.2.2)) else (potsherdlaw24_CostHangs.j1 kj4 (wrap64 (Int.tmod (IntKind.u64.wrap (a3)) 8)) false a0_0 a0_1 a0_2 a0_3 a0_4 a1_0 a1_1 a1_2 a1_3 a1_4 a2_0 a2_1 a2_2 a2_3 a2_4 a2_5 l2_6 bt145.1 bt145.2.1 bt145.2.2 bt148.1 bt148.2.1 bt148.2.2)))) = some true := by rw [if_neg (show ¬ (false = true) by decide)] at H; exact H
        clear H
        have H := H1
        clear H1
        replace H := Option.bind_eq_some_iff.mp H
        obtain ⟨⟨t145, t146, t147⟩, A260, H⟩ := H
        replace H : ((cost_Call.f kj4 a1_0 a1_1 a1_2 a1_3 a1_4 a2_0 a2_1 a2_2 a2_3 a2_4 a2_5 l2_6 (wrap64 (Int.tmod (IntKind.u64.wrap (a3)) 8))).bind fun bt148 => (if a0_0 ≤ a1_0 then (if a0_1 ≤ a1_1 then ((cost_Within.f t145 t146 t147 bt148.1 bt148.2.1 bt148.2.2).bind fun t153 => (potsherdlaw24_CostHangs.j1 kj4 (wrap64 (Int.tmod (IntKind.u64.wrap (a3)) 8)) (!t153) a0_0 a0_1 a0_2 a0_3 a0_4 a1_0 a1_1 a1_2 a1_3 a1_4 a2_0 a2_1 a2_2 a2_3 a2_4 a2_5 l2_6 t145 t146 t147 bt148.1 bt148.2.1 bt148.2.2)) else (potsherdlaw24_CostHangs.j1 kj4 (wrap64 (Int.tmod (IntKind.u64.wrap (a3)) 8)) false a0_0 a0_1 a0_2 a0_3 a0_4 a1_0 a1_1 a1_2 a1_3 a1_4 a2_0 a2_1 a2_2 a2_3 a2_4 a2_5 l2_6 t145 t146 t147 bt148.1 bt148.2.1 bt148.2.2)) else (potsherdlaw24_CostHangs.j1 kj4 (wrap64 (Int.tmod (IntKind.u64.wrap (a3)) 8)) false a0_0 a0_1 a0_2 a0_3 a0_4 a1_0 a1_1 a1_2 a1_3 a1_4 a2_0 a2_1 a2_2 a2_3 a2_4 a2_5 l2_6 t145 t146 t147 bt148.1 bt148.2.1 bt148.2.2))) = some true := H
        have A26 := Aside0.mk A260
        clear A260
        replace H := Option.bind_eq_some_iff.mp H
        obtain ⟨⟨t148, t149, t150⟩, A270, H⟩ := H
        replace H : (if a0_0 ≤ a1_0 then (if a0_1 ≤ a1_1 then ((cost_Within.f t145 t146 t147 t148 t149 t150).bind fun t153 => (potsherdlaw24_CostHangs.j1 kj4 (wrap64 (Int.tmod (IntKind.u64.wrap (a3)) 8)) (!t153) a0_0 a0_1 a0_2 a0_3 a0_4 a1_0 a1_1 a1_2 a1_3 a1_4 a2_0 a2_1 a2_2 a2_3 a2_4 a2_5 l2_6 t145 t146 t147 t148 t149 t150)) else (potsherdlaw24_CostHangs.j1 kj4 (wrap64 (Int.tmod (IntKind.u64.wrap (a3)) 8)) false a0_0 a0_1 a0_2 a0_3 a0_4 a1_0 a1_1 a1_2 a1_3 a1_4 a2_0 a2_1 a2_2 a2_3 a2_4 a2_5 l2_6 t145 t146 t147 t148 t149 t150)) else (potsherdlaw24_CostHangs.j1 kj4 (wrap64 (Int.tmod (IntKind.u64.wrap (a3)) 8)) false a0_0 a0_1 a0_2 a0_3 a0_4 a1_0 a1_1 a1_2 a1_3 a1_4 a2_0 a2_1 a2_2 a2_3 a2_4 a2_5 l2_6 t145 t146 t147 t148 t149 t150)) = some true := H
        have A27 := Aside0.mk A270
        clear A270
        have HC28 := Aside0.mk H
        clear H
        try go_wp2
        have n0_ := Aside0.mk (blk_drew BK139.out)
        have n1_ := Aside0.mk (blk_drew BK140.out)
        have n2_ := Aside0.mk (blk_drew BK141.out)
        have n3_ := Aside0.mk (below_drew1 HB.out)
        clear BK139
        clear BK140
        clear BK141
        clear HB
        have BK139 := n0_
        have BK140 := n1_
        have BK141 := n2_
        have HB := n3_
        clear n0_ n1_ n2_ n3_
        refine start_ (n := 12) (S := fun w' => True) (ds := []) #[false, false, false, false, false, false, false, false, false, false, false, false] (by kernel_rfl) rfl rfl trivial (fun hHeld => ?_); refine with_tabW potsherdlaw24_CostHangs.tab4 potsherdlaw24_CostHangs.bits4 (fun HT_ HW_ => ?_)
        generalize wc.drew = w29 at BK139 BK140 BK141 HB hHeld ⊢
        refine pure_ (i := 2) (N := some 26) (v := ?_) (a' := ?_) #[false, false, true, false, false, false, false, false, false, false, false, false] rfl rfl (any_of HT_.out (by kernel_rfl)) (fun _ _ _ h => h) (Or.inl ⟨by rfl, ?_⟩) ?_ ?_
        rotate_left
        · intro w'
          go_simp
          with_reducible rfl
        rotate_left
        · simp only [Act.put, List.setIfInBounds_toArray, List.set_cons_zero, List.set_cons_succ, i64_w, i32_w]
          rfl
        refine pure_ (i := 6) (N := some 30) (v := ?_) (a' := ?_) #[false, false, true, false, false, false, true, false, false, false, false, false] rfl rfl (any_of HT_.out (by kernel_rfl)) (fun _ _ _ h => h) (Or.inl ⟨by rfl, ?_⟩) ?_ ?_
        rotate_left
        · intro w'
          go_simp
          with_reducible rfl
        rotate_left
        · simp only [Act.put, List.setIfInBounds_toArray, List.set_cons_zero, List.set_cons_succ, i64_w, i32_w]
          rfl
        refine inv_at [0, 1, 3, 4, 5, 7, 8, 9, 10, 11] (fun a0_ b a w' => ∃ (gb151 : Nat) (gb152 : Nat) (m8_ : Value) (m9_ : Value), a = putSel a0_ b [(0, 24, .agg #[.int .i64 a0_0, .int .i64 a0_1, .int .i64 a0_2, .int .i64 a0_3, .int .i64 a0_4]), (1, 25, .agg #[.int .i64 a2_0, .string a2_1, .string a2_2, .int .i64 a2_3, .int .i64 a2_4, .int .i64 a2_5, .slice A2_6 l2_6.length c2_6]), (3, 27, .agg #[.int .i64 t145, .int .i64 t146, .int .i64 t147]), (4, 28, .agg #[.int .i64 a1_0, .int .i64 a1_1, .int .i64 a1_2, .int .i64 a1_3, .int .i64 a1_4]), (5, 29, .agg #[.int .i64 a2_0, .string a2_1, .string a2_2, .int .i64 a2_3, .int .i64 a2_4, .int .i64 a2_5, .slice A2_6 l2_6.length c2_6]), (7, 31, .agg #[.int .i64 t148, .int .i64 t149, .int .i64 t150]), (8, 9, m8_), (9, 10, m9_)] ∧ (w'.heap[gb139]? = some (.cells #[.int .i64 a0_0, .int .i64 a0_1, .int .i64 a0_2, .int .i64 a0_3, .int .i64 a0_4] 23 (0, 0))) ∧ (w'.heap[gb140]? = some (.cells #[.int .i64 a1_0, .int .i64 a1_1, .int .i64 a1_2, .int .i64 a1_3, .int .i64 a1_4] 23 (0, 0))) ∧ (w'.heap[gb141]? = some (.cells #[.int .i64 a2_0, .string a2_1, .string a2_2, .int .i64 a2_3, .int .i64 a2_4, .int .i64 a2_5, .slice A2_6 l2_6.length c2_6] 30 (0, 0))) ∧ (Below w.heap.size w w') ∧ (b 8 = true → b 9 = true → gb152 ≠ gb151) ∧ (b 8 = true → b 9 = true → gb151 ≠ gb152) ∧ (b 8 = true → b 10 = false → w'.heap[gb151]? = some (.cells #[.int .i64 0, .int .i64 0, .int .i64 0] 32 (0, 0))) ∧ (b 8 = true → w.heap.size ≤ gb151) ∧ (b 8 = true → w.heap.size ≤ gb151) ∧ (b 8 = true → gb139 ≠ gb151) ∧ (b 8 = true → gb151 ≠ gb139) ∧ (b 8 = true → gb140 ≠ gb151) ∧ (b 8 = true → gb151 ≠ gb140) ∧ (b 8 = true → gb141 ≠ gb151) ∧ (b 8 = true → gb151 ≠ gb141) ∧ (b 9 = true → b 11 = false → w'.heap[gb152]? = some (.cells #[.int .i64 0, .int .i64 0, .int .i64 0] 32 (0, 0))) ∧ (b 9 = true → w.heap.size ≤ gb152) ∧ (b 9 = true → w.heap.size ≤ gb152) ∧ (b 9 = true → gb139 ≠ gb152) ∧ (b 9 = true → gb152 ≠ gb139) ∧ (b 9 = true → gb140 ≠ gb152) ∧ (b 9 = true → gb152 ≠ gb140) ∧ (b 9 = true → gb141 ≠ gb152) ∧ (b 9 = true → gb152 ≠ gb141) ∧ (b 10 = true → w'.heap[gb151]? = some (.cells #[.int .i64 t145, .int .i64 t146, .int .i64 t147] 32 (0, 0))) ∧ (b 11 = true → w'.heap[gb152]? = some (.cells #[.int .i64 t148, .int .i64 t149, .int .i64 t150] 32 (0, 0))) ∧ (b 8 = true → (m8_ : Value) = .pointer (some ⟨gb151, 0, none⟩)) ∧ (b 9 = true → (m9_ : Value) = .pointer (some ⟨gb152, 0, none⟩))) HT_.out HW_.out (by kernel_rfl) (by kernel_rfl) ?_ ?_ ?_
        · exact ⟨0, 0, .bool false, .bool false, by simp only [putSel, Bool.false_eq_true, if_false], BK139.out, BK140.out, BK141.out, HB.out, fun h_ => absurd h_ (by decide), fun h_ => absurd h_ (by decide), fun h_ => absurd h_ (by decide), fun h_ => absurd h_ (by decide), fun h_ => absurd h_ (by decide), fun h_ => absurd h_ (by decide), fun h_ => absurd h_ (by decide), fun h_ => absurd h_ (by decide), fun h_ => absurd h_ (by decide), fun h_ => absurd h_ (by decide), fun h_ => absurd h_ (by decide), fun h_ => absurd h_ (by decide), fun h_ => absurd h_ (by decide), fun h_ => absurd h_ (by decide), fun h_ => absurd h_ (by decide), fun h_ => absurd h_ (by decide), fun h_ => absurd h_ (by decide), fun h_ => absurd h_ (by decide), fun h_ => absurd h_ (by decide), fun h_ => absurd h_ (by decide), fun h_ => absurd h_ (by decide), fun h_ => absurd h_ (by decide), fun h_ => absurd h_ (by decide), fun h_ => absurd h_ (by decide)⟩
        · skip
          clear BK139 BK140 BK141 HB
          refine steps_cons ?_ ?_
          · rintro b a w' ⟨gb151, gb152, m8_, m9_, ha, Q_BK139, Q_BK140, Q_BK141, Q_HB, Q_NB152_151, Q_NB151_152, Q_BK151, Q_GW151, Q_GE151, Q_NB139_151, Q_NB151_139, Q_NB140_151, Q_NB151_140, Q_NB141_151, Q_NB151_141, Q_BK152, Q_GW152, Q_GE152, Q_NB139_152, Q_NB152_139, Q_NB140_152, Q_NB152_140, Q_NB141_152, Q_NB152_141, Q_BK151_e10, Q_BK152_e11, Q_X8_, Q_X9_⟩ hb_ hon hoff
            refine ⟨_, rfl, fun K hK => ?_⟩
            have e4 : a.tmps[4]? = some (.pointer (some ⟨gb139, 0, none⟩)) := by rw [ha]; exact (putSel_off rfl).trans rfl
            replace ha := Aside0.mk ha
            have BK139 := Aside0.mk Q_BK139
            have BK140 := Aside0.mk Q_BK140
            have BK141 := Aside0.mk Q_BK141
            have HB := Aside0.mk Q_HB
            have hc0_ : w'.cell? ⟨gb139, 0, none⟩ = some (.int .i64 a0_0) := (blk_cell BK139.out 0).trans rfl
            have hc1_ : w'.cell? ⟨gb139, 1, none⟩ = some (.int .i64 a0_1) := (blk_cell BK139.out 1).trans rfl
            have hc2_ : w'.cell? ⟨gb139, 2, none⟩ = some (.int .i64 a0_2) := (blk_cell BK139.out 2).trans rfl
            have hc3_ : w'.cell? ⟨gb139, 3, none⟩ = some (.int .i64 a0_3) := (blk_cell BK139.out 3).trans rfl
            have hc4_ : w'.cell? ⟨gb139, 4, none⟩ = some (.int .i64 a0_4) := (blk_cell BK139.out 4).trans rfl
            refine value_ (w1 := w') (v := .agg #[.int .i64 a0_0, .int .i64 a0_1, .int .i64 a0_2, .int .i64 a0_3, .int .i64 a0_4]) (by rfl) rfl ?_ ?_
            · go_simp
              (try simp only [i64_w])
              try rfl
            refine hK.out _ _ ⟨gb151, gb152, m8_, m9_, (by rw [ha.out]; exact putSel_upk 0 hb_ rfl rfl rfl), Q_BK139, Q_BK140, Q_BK141, Q_HB, Q_NB152_151, Q_NB151_152, Q_BK151, Q_GW151, Q_GE151, Q_NB139_151, Q_NB151_139, Q_NB140_151, Q_NB151_140, Q_NB141_151, Q_NB151_141, Q_BK152, Q_GW152, Q_GE152, Q_NB139_152, Q_NB152_139, Q_NB140_152, Q_NB152_140, Q_NB141_152, Q_NB152_141, fun h0_ => absurd ((hoff 10 (by kernel_rfl)).symm.trans h0_) (by decide), fun h0_ => absurd ((hoff 11 (by kernel_rfl)).symm.trans h0_) (by decide), Q_X8_, Q_X9_⟩
          refine steps_cons ?_ ?_
          · rintro b a w' ⟨gb151, gb152, m8_, m9_, ha, Q_BK139, Q_BK140, Q_BK141, Q_HB, Q_NB152_151, Q_NB151_152, Q_BK151, Q_GW151, Q_GE151, Q_NB139_151, Q_NB151_139, Q_NB140_151, Q_NB151_140, Q_NB141_151, Q_NB151_141, Q_BK152, Q_GW152, Q_GE152, Q_NB139_152, Q_NB152_139, Q_NB140_152, Q_NB152_140, Q_NB141_152, Q_NB152_141, Q_BK151_e10, Q_BK152_e11, Q_X8_, Q_X9_⟩ hb_ hon hoff
            refine ⟨_, rfl, fun K hK => ?_⟩
            have e6 : a.tmps[6]? = some (.pointer (some ⟨gb141, 0, none⟩)) := by rw [ha]; exact (putSel_off rfl).trans rfl
            replace ha := Aside0.mk ha
            have BK139 := Aside0.mk Q_BK139
            have BK140 := Aside0.mk Q_BK140
            have BK141 := Aside0.mk Q_BK141
            have HB := Aside0.mk Q_HB
            have hc0_ : w'.cell? ⟨gb141, 0, none⟩ = some (.int .i64 a2_0) := (blk_cell BK141.out 0).trans rfl
            have hc1_ : w'.cell? ⟨gb141, 1, none⟩ = some (.string a2_1) := (blk_cell BK141.out 1).trans rfl
            have hc2_ : w'.cell? ⟨gb141, 2, none⟩ = some (.string a2_2) := (blk_cell BK141.out 2).trans rfl
            have hc3_ : w'.cell? ⟨gb141, 3, none⟩ = some (.int .i64 a2_3) := (blk_cell BK141.out 3).trans rfl
            have hc4_ : w'.cell? ⟨gb141, 4, none⟩ = some (.int .i64 a2_4) := (blk_cell BK141.out 4).trans rfl
            have hc5_ : w'.cell? ⟨gb141, 5, none⟩ = some (.int .i64 a2_5) := (blk_cell BK141.out 5).trans rfl
            have hc6_ : w'.cell? ⟨gb141, 6, none⟩ = some (.slice A2_6 l2_6.length c2_6) := (blk_cell BK141.out 6).trans rfl
            refine value_ (w1 := w') (v := .agg #[.int .i64 a2_0, .string a2_1, .string a2_2, .int .i64 a2_3, .int .i64 a2_4, .int .i64 a2_5, .slice A2_6 l2_6.length c2_6]) (by rfl) rfl ?_ ?_
            · go_simp
              (try simp only [i64_w])
              try rfl
            refine hK.out _ _ ⟨gb151, gb152, m8_, m9_, (by rw [ha.out]; exact putSel_upk 1 hb_ rfl rfl rfl), Q_BK139, Q_BK140, Q_BK141, Q_HB, Q_NB152_151, Q_NB151_152, Q_BK151, Q_GW151, Q_GE151, Q_NB139_151, Q_NB151_139, Q_NB140_151, Q_NB151_140, Q_NB141_151, Q_NB151_141, Q_BK152, Q_GW152, Q_GE152, Q_NB139_152, Q_NB152_139, Q_NB140_152, Q_NB152_140, Q_NB141_152, Q_NB152_141, fun h0_ => absurd ((hoff 10 (by kernel_rfl)).symm.trans h0_) (by decide), fun h0_ => absurd ((hoff 11 (by kernel_rfl)).symm.trans h0_) (by decide), Q_X8_, Q_X9_⟩
          refine steps_cons ?_ ?_
          · rintro b a w' ⟨gb151, gb152, m8_, m9_, ha, Q_BK139, Q_BK140, Q_BK141, Q_HB, Q_NB152_151, Q_NB151_152, Q_BK151, Q_GW151, Q_GE151, Q_NB139_151, Q_NB151_139, Q_NB140_151, Q_NB151_140, Q_NB141_151, Q_NB151_141, Q_BK152, Q_GW152, Q_GE152, Q_NB139_152, Q_NB152_139, Q_NB140_152, Q_NB152_140, Q_NB141_152, Q_NB152_141, Q_BK151_e10, Q_BK152_e11, Q_X8_, Q_X9_⟩ hb_ hon hoff
            refine ⟨_, rfl, fun K hK => ?_⟩
            have e24 : a.tmps[24]? = some (.agg #[.int .i64 a0_0, .int .i64 a0_1, .int .i64 a0_2, .int .i64 a0_3, .int .i64 a0_4]) := by rw [ha]; exact putSel_on (e := (0, 24, .agg #[.int .i64 a0_0, .int .i64 a0_1, .int .i64 a0_2, .int .i64 a0_3, .int .i64 a0_4])) 0 rfl rfl (hon 0 (by kernel_rfl)) rfl
            have e25 : a.tmps[25]? = some (.agg #[.int .i64 a2_0, .string a2_1, .string a2_2, .int .i64 a2_3, .int .i64 a2_4, .int .i64 a2_5, .slice A2_6 l2_6.length c2_6]) := by rw [ha]; exact putSel_on (e := (1, 25, .agg #[.int .i64 a2_0, .string a2_1, .string a2_2, .int .i64 a2_3, .int .i64 a2_4, .int .i64 a2_5, .slice A2_6 l2_6.length c2_6])) 1 rfl rfl (hon 1 (by kernel_rfl)) rfl
            have e26 : a.tmps[26]? = some (.int .i64 (wrap64 (Int.tmod (IntKind.u64.wrap (a3)) 8))) := by rw [ha]; exact (putSel_off rfl).trans rfl
            replace ha := Aside0.mk ha
            have BK139 := Aside0.mk Q_BK139
            have BK140 := Aside0.mk Q_BK140
            have BK141 := Aside0.mk Q_BK141
            have HB := Aside0.mk Q_HB
            refine goes_ Try.func16 (by kernel_rfl) rfl #[.agg #[.int .i64 a0_0, .int .i64 a0_1, .int .i64 a0_2, .int .i64 a0_3, .int .i64 a0_4], .agg #[.int .i64 a2_0, .string a2_1, .string a2_2, .int .i64 a2_3, .int .i64 a2_4, .int .i64 a2_5, .slice A2_6 l2_6.length c2_6], .int .i64 (wrap64 (Int.tmod (IntKind.u64.wrap (a3)) 8))] (by rfl) rfl rfl (by first | (simp only [List.map_toArray, List.map_cons, List.map_nil, Act.eval, Array.getD_eq_getD_getElem?, Option.getD_some, e24, e25, e26]; done) | (simp only [List.map_toArray, List.map_cons, List.map_nil, Act.eval, Array.getD_eq_getD_getElem?, Option.getD_some, e24, e25, e26]; rfl)) ?_
            with_reducible refine (cost_Call.calls kj4 a0_0 a0_1 a0_2 a0_3 a0_4 a2_0 a2_1 a2_2 a2_3 a2_4 a2_5 _ _ l2_6 (wrap64 (Int.tmod (IntKind.u64.wrap (a3)) 8)) t145 t146 t147 _ ?side1 ?side2 A26.out).mono ?_
            (case side1 => repeat (first | exact (Kd.C_below HR2_6.out HB.out) | (with_reducible refine Kd.C_alloc ?_ _) | (with_reducible refine Kd.C_drewN ?_ _) | (with_reducible refine Kd.C_drew ?_)))
            (case side2 => exact HC2_6.out)
            rintro e w30 ⟨rfl, hb⟩
            refine ⟨_, rfl, ?_⟩
            have n0_ := Aside0.mk (blk_below (g := gb139) (o := .cells #[.int .i64 a0_0, .int .i64 a0_1, .int .i64 a0_2, .int .i64 a0_3, .int .i64 a0_4] 23 (0, 0)) (by (with_reducible repeat (first | refine blk_drewN ?_ _ | refine blk_drew ?_ | refine blk_alloc ?_ _)); exact BK139.out) hb)
            have n1_ := Aside0.mk (blk_below (g := gb140) (o := .cells #[.int .i64 a1_0, .int .i64 a1_1, .int .i64 a1_2, .int .i64 a1_3, .int .i64 a1_4] 23 (0, 0)) (by (with_reducible repeat (first | refine blk_drewN ?_ _ | refine blk_drew ?_ | refine blk_alloc ?_ _)); exact BK140.out) hb)
            have n2_ := Aside0.mk (blk_below (g := gb141) (o := .cells #[.int .i64 a2_0, .string a2_1, .string a2_2, .int .i64 a2_3, .int .i64 a2_4, .int .i64 a2_5, .slice A2_6 l2_6.length c2_6] 30 (0, 0)) (by (with_reducible repeat (first | refine blk_drewN ?_ _ | refine blk_drew ?_ | refine blk_alloc ?_ _)); exact BK141.out) hb)
            have n3_ := Aside0.mk (below_step (by repeat (first | (with_reducible first | exact HB.out | apply below_alloc | apply pw_below_drewN | apply below_drew1 | refine below_set ?_ GE139.out | refine below_set ?_ GE140.out | refine below_set ?_ GE141.out) | exact HB.out)) hb)
            have z_BK151 := fun (h0_ : b 8 = true) (h1_ : b 10 = false) => (show w30.heap[gb151]? = some (.cells #[.int .i64 0, .int .i64 0, .int .i64 0] 32 (0, 0)) from by first | exact (blk_below (g := gb151) (o := .cells #[.int .i64 0, .int .i64 0, .int .i64 0] 32 (0, 0)) (by (with_reducible repeat (first | refine blk_drewN ?_ _ | refine blk_drew ?_ | refine blk_alloc ?_ _)); exact (Q_BK151 h0_ h1_)) hb))
            have z_BK152 := fun (h0_ : b 9 = true) (h1_ : b 11 = false) => (show w30.heap[gb152]? = some (.cells #[.int .i64 0, .int .i64 0, .int .i64 0] 32 (0, 0)) from by first | exact (blk_below (g := gb152) (o := .cells #[.int .i64 0, .int .i64 0, .int .i64 0] 32 (0, 0)) (by (with_reducible repeat (first | refine blk_drewN ?_ _ | refine blk_drew ?_ | refine blk_alloc ?_ _)); exact (Q_BK152 h0_ h1_)) hb))
            clear BK139
            clear BK140
            clear BK141
            clear HB
            have BK139 := n0_
            have BK140 := n1_
            have BK141 := n2_
            have HB := n3_
            clear n0_ n1_ n2_ n3_
            (try clear hb)
            (try clear hb2)
            (try clear hk)
            (try clear hi)
            refine hK.out _ _ ⟨gb151, gb152, m8_, m9_, (by rw [ha.out]; exact putSel_upk 2 hb_ rfl rfl rfl), (by (with_reducible repeat (first | refine blk_drewN ?_ _ | refine blk_drew ?_ | refine blk_alloc ?_ _)); exact BK139.out), (by (with_reducible repeat (first | refine blk_drewN ?_ _ | refine blk_drew ?_ | refine blk_alloc ?_ _)); exact BK140.out), (by (with_reducible repeat (first | refine blk_drewN ?_ _ | refine blk_drew ?_ | refine blk_alloc ?_ _)); exact BK141.out), (by repeat (first | (with_reducible first | exact HB.out | apply below_alloc | apply pw_below_drewN | apply below_drew1 | refine below_set ?_ GE139.out | refine below_set ?_ GE140.out | refine below_set ?_ GE141.out) | exact HB.out)), Q_NB152_151, Q_NB151_152, z_BK151, Q_GW151, Q_GE151, Q_NB139_151, Q_NB151_139, Q_NB140_151, Q_NB151_140, Q_NB141_151, Q_NB151_141, z_BK152, Q_GW152, Q_GE152, Q_NB139_152, Q_NB152_139, Q_NB140_152, Q_NB152_140, Q_NB141_152, Q_NB152_141, fun h0_ => absurd ((hoff 10 (by kernel_rfl)).symm.trans h0_) (by decide), fun h0_ => absurd ((hoff 11 (by kernel_rfl)).symm.trans h0_) (by decide), Q_X8_, Q_X9_⟩
          refine steps_cons ?_ ?_
          · rintro b a w' ⟨gb151, gb152, m8_, m9_, ha, Q_BK139, Q_BK140, Q_BK141, Q_HB, Q_NB152_151, Q_NB151_152, Q_BK151, Q_GW151, Q_GE151, Q_NB139_151, Q_NB151_139, Q_NB140_151, Q_NB151_140, Q_NB141_151, Q_NB151_141, Q_BK152, Q_GW152, Q_GE152, Q_NB139_152, Q_NB152_139, Q_NB140_152, Q_NB152_140, Q_NB141_152, Q_NB152_141, Q_BK151_e10, Q_BK152_e11, Q_X8_, Q_X9_⟩ hb_ hon hoff
            refine ⟨_, rfl, fun K hK => ?_⟩
            have e5 : a.tmps[5]? = some (.pointer (some ⟨gb140, 0, none⟩)) := by rw [ha]; exact (putSel_off rfl).trans rfl
            replace ha := Aside0.mk ha
            have BK139 := Aside0.mk Q_BK139
            have BK140 := Aside0.mk Q_BK140
            have BK141 := Aside0.mk Q_BK141
            have HB := Aside0.mk Q_HB
            have hc0_ : w'.cell? ⟨gb140, 0, none⟩ = some (.int .i64 a1_0) := (blk_cell BK140.out 0).trans rfl
            have hc1_ : w'.cell? ⟨gb140, 1, none⟩ = some (.int .i64 a1_1) := (blk_cell BK140.out 1).trans rfl
            have hc2_ : w'.cell? ⟨gb140, 2, none⟩ = some (.int .i64 a1_2) := (blk_cell BK140.out 2).trans rfl
            have hc3_ : w'.cell? ⟨gb140, 3, none⟩ = some (.int .i64 a1_3) := (blk_cell BK140.out 3).trans rfl
            have hc4_ : w'.cell? ⟨gb140, 4, none⟩ = some (.int .i64 a1_4) := (blk_cell BK140.out 4).trans rfl
            refine value_ (w1 := w') (v := .agg #[.int .i64 a1_0, .int .i64 a1_1, .int .i64 a1_2, .int .i64 a1_3, .int .i64 a1_4]) (by rfl) rfl ?_ ?_
            · go_simp
              (try simp only [i64_w])
              try rfl
            refine hK.out _ _ ⟨gb151, gb152, m8_, m9_, (by rw [ha.out]; exact putSel_upk 3 hb_ rfl rfl rfl), Q_BK139, Q_BK140, Q_BK141, Q_HB, Q_NB152_151, Q_NB151_152, Q_BK151, Q_GW151, Q_GE151, Q_NB139_151, Q_NB151_139, Q_NB140_151, Q_NB151_140, Q_NB141_151, Q_NB151_141, Q_BK152, Q_GW152, Q_GE152, Q_NB139_152, Q_NB152_139, Q_NB140_152, Q_NB152_140, Q_NB141_152, Q_NB152_141, fun h0_ => absurd ((hoff 10 (by kernel_rfl)).symm.trans h0_) (by decide), fun h0_ => absurd ((hoff 11 (by kernel_rfl)).symm.trans h0_) (by decide), Q_X8_, Q_X9_⟩
          refine steps_cons ?_ ?_
          · rintro b a w' ⟨gb151, gb152, m8_, m9_, ha, Q_BK139, Q_BK140, Q_BK141, Q_HB, Q_NB152_151, Q_NB151_152, Q_BK151, Q_GW151, Q_GE151, Q_NB139_151, Q_NB151_139, Q_NB140_151, Q_NB151_140, Q_NB141_151, Q_NB151_141, Q_BK152, Q_GW152, Q_GE152, Q_NB139_152, Q_NB152_139, Q_NB140_152, Q_NB152_140, Q_NB141_152, Q_NB152_141, Q_BK151_e10, Q_BK152_e11, Q_X8_, Q_X9_⟩ hb_ hon hoff
            refine ⟨_, rfl, fun K hK => ?_⟩
            have e6 : a.tmps[6]? = some (.pointer (some ⟨gb141, 0, none⟩)) := by rw [ha]; exact (putSel_off rfl).trans rfl
            replace ha := Aside0.mk ha
            have BK139 := Aside0.mk Q_BK139
            have BK140 := Aside0.mk Q_BK140
            have BK141 := Aside0.mk Q_BK141
            have HB := Aside0.mk Q_HB
            have hc0_ : w'.cell? ⟨gb141, 0, none⟩ = some (.int .i64 a2_0) := (blk_cell BK141.out 0).trans rfl
            have hc1_ : w'.cell? ⟨gb141, 1, none⟩ = some (.string a2_1) := (blk_cell BK141.out 1).trans rfl
            have hc2_ : w'.cell? ⟨gb141, 2, none⟩ = some (.string a2_2) := (blk_cell BK141.out 2).trans rfl
            have hc3_ : w'.cell? ⟨gb141, 3, none⟩ = some (.int .i64 a2_3) := (blk_cell BK141.out 3).trans rfl
            have hc4_ : w'.cell? ⟨gb141, 4, none⟩ = some (.int .i64 a2_4) := (blk_cell BK141.out 4).trans rfl
            have hc5_ : w'.cell? ⟨gb141, 5, none⟩ = some (.int .i64 a2_5) := (blk_cell BK141.out 5).trans rfl
            have hc6_ : w'.cell? ⟨gb141, 6, none⟩ = some (.slice A2_6 l2_6.length c2_6) := (blk_cell BK141.out 6).trans rfl
            refine value_ (w1 := w') (v := .agg #[.int .i64 a2_0, .string a2_1, .string a2_2, .int .i64 a2_3, .int .i64 a2_4, .int .i64 a2_5, .slice A2_6 l2_6.length c2_6]) (by rfl) rfl ?_ ?_
            · go_simp
              (try simp only [i64_w])
              try rfl
            refine hK.out _ _ ⟨gb151, gb152, m8_, m9_, (by rw [ha.out]; exact putSel_upk 4 hb_ rfl rfl rfl), Q_BK139, Q_BK140, Q_BK141, Q_HB, Q_NB152_151, Q_NB151_152, Q_BK151, Q_GW151, Q_GE151, Q_NB139_151, Q_NB151_139, Q_NB140_151, Q_NB151_140, Q_NB141_151, Q_NB151_141, Q_BK152, Q_GW152, Q_GE152, Q_NB139_152, Q_NB152_139, Q_NB140_152, Q_NB152_140, Q_NB141_152, Q_NB152_141, fun h0_ => absurd ((hoff 10 (by kernel_rfl)).symm.trans h0_) (by decide), fun h0_ => absurd ((hoff 11 (by kernel_rfl)).symm.trans h0_) (by decide), Q_X8_, Q_X9_⟩
          refine steps_cons ?_ ?_
          · rintro b a w' ⟨gb151, gb152, m8_, m9_, ha, Q_BK139, Q_BK140, Q_BK141, Q_HB, Q_NB152_151, Q_NB151_152, Q_BK151, Q_GW151, Q_GE151, Q_NB139_151, Q_NB151_139, Q_NB140_151, Q_NB151_140, Q_NB141_151, Q_NB151_141, Q_BK152, Q_GW152, Q_GE152, Q_NB139_152, Q_NB152_139, Q_NB140_152, Q_NB152_140, Q_NB141_152, Q_NB152_141, Q_BK151_e10, Q_BK152_e11, Q_X8_, Q_X9_⟩ hb_ hon hoff
            refine ⟨_, rfl, fun K hK => ?_⟩
            have e28 : a.tmps[28]? = some (.agg #[.int .i64 a1_0, .int .i64 a1_1, .int .i64 a1_2, .int .i64 a1_3, .int .i64 a1_4]) := by rw [ha]; exact putSel_on (e := (4, 28, .agg #[.int .i64 a1_0, .int .i64 a1_1, .int .i64 a1_2, .int .i64 a1_3, .int .i64 a1_4])) 3 rfl rfl (hon 4 (by kernel_rfl)) rfl
            have e29 : a.tmps[29]? = some (.agg #[.int .i64 a2_0, .string a2_1, .string a2_2, .int .i64 a2_3, .int .i64 a2_4, .int .i64 a2_5, .slice A2_6 l2_6.length c2_6]) := by rw [ha]; exact putSel_on (e := (5, 29, .agg #[.int .i64 a2_0, .string a2_1, .string a2_2, .int .i64 a2_3, .int .i64 a2_4, .int .i64 a2_5, .slice A2_6 l2_6.length c2_6])) 4 rfl rfl (hon 5 (by kernel_rfl)) rfl
            have e30 : a.tmps[30]? = some (.int .i64 (wrap64 (Int.tmod (IntKind.u64.wrap (a3)) 8))) := by rw [ha]; exact (putSel_off rfl).trans rfl
            replace ha := Aside0.mk ha
            have BK139 := Aside0.mk Q_BK139
            have BK140 := Aside0.mk Q_BK140
            have BK141 := Aside0.mk Q_BK141
            have HB := Aside0.mk Q_HB
            refine goes_ Try.func16 (by kernel_rfl) rfl #[.agg #[.int .i64 a1_0, .int .i64 a1_1, .int .i64 a1_2, .int .i64 a1_3, .int .i64 a1_4], .agg #[.int .i64 a2_0, .string a2_1, .string a2_2, .int .i64 a2_3, .int .i64 a2_4, .int .i64 a2_5, .slice A2_6 l2_6.length c2_6], .int .i64 (wrap64 (Int.tmod (IntKind.u64.wrap (a3)) 8))] (by rfl) rfl rfl (by first | (simp only [List.map_toArray, List.map_cons, List.map_nil, Act.eval, Array.getD_eq_getD_getElem?, Option.getD_some, e28, e29, e30]; done) | (simp only [List.map_toArray, List.map_cons, List.map_nil, Act.eval, Array.getD_eq_getD_getElem?, Option.getD_some, e28, e29, e30]; rfl)) ?_
            with_reducible refine (cost_Call.calls kj4 a1_0 a1_1 a1_2 a1_3 a1_4 a2_0 a2_1 a2_2 a2_3 a2_4 a2_5 _ _ l2_6 (wrap64 (Int.tmod (IntKind.u64.wrap (a3)) 8)) t148 t149 t150 _ ?side1 ?side2 A27.out).mono ?_
            (case side1 => repeat (first | exact (Kd.C_below HR2_6.out HB.out) | (with_reducible refine Kd.C_alloc ?_ _) | (with_reducible refine Kd.C_drewN ?_ _) | (with_reducible refine Kd.C_drew ?_)))
            (case side2 => exact HC2_6.out)
            rintro e w32 ⟨rfl, hb⟩
            refine ⟨_, rfl, ?_⟩
            have n0_ := Aside0.mk (blk_below (g := gb139) (o := .cells #[.int .i64 a0_0, .int .i64 a0_1, .int .i64 a0_2, .int .i64 a0_3, .int .i64 a0_4] 23 (0, 0)) (by (with_reducible repeat (first | refine blk_drewN ?_ _ | refine blk_drew ?_ | refine blk_alloc ?_ _)); exact BK139.out) hb)
            have n1_ := Aside0.mk (blk_below (g := gb140) (o := .cells #[.int .i64 a1_0, .int .i64 a1_1, .int .i64 a1_2, .int .i64 a1_3, .int .i64 a1_4] 23 (0, 0)) (by (with_reducible repeat (first | refine blk_drewN ?_ _ | refine blk_drew ?_ | refine blk_alloc ?_ _)); exact BK140.out) hb)
            have n2_ := Aside0.mk (blk_below (g := gb141) (o := .cells #[.int .i64 a2_0, .string a2_1, .string a2_2, .int .i64 a2_3, .int .i64 a2_4, .int .i64 a2_5, .slice A2_6 l2_6.length c2_6] 30 (0, 0)) (by (with_reducible repeat (first | refine blk_drewN ?_ _ | refine blk_drew ?_ | refine blk_alloc ?_ _)); exact BK141.out) hb)
            have n3_ := Aside0.mk (below_step (by repeat (first | (with_reducible first | exact HB.out | apply below_alloc | apply pw_below_drewN | apply below_drew1 | refine below_set ?_ GE139.out | refine below_set ?_ GE140.out | refine below_set ?_ GE141.out) | exact HB.out)) hb)
            have z_BK151 := fun (h0_ : b 8 = true) (h1_ : b 10 = false) => (show w32.heap[gb151]? = some (.cells #[.int .i64 0, .int .i64 0, .int .i64 0] 32 (0, 0)) from by first | exact (blk_below (g := gb151) (o := .cells #[.int .i64 0, .int .i64 0, .int .i64 0] 32 (0, 0)) (by (with_reducible repeat (first | refine blk_drewN ?_ _ | refine blk_drew ?_ | refine blk_alloc ?_ _)); exact (Q_BK151 h0_ h1_)) hb))
            have z_BK152 := fun (h0_ : b 9 = true) (h1_ : b 11 = false) => (show w32.heap[gb152]? = some (.cells #[.int .i64 0, .int .i64 0, .int .i64 0] 32 (0, 0)) from by first | exact (blk_below (g := gb152) (o := .cells #[.int .i64 0, .int .i64 0, .int .i64 0] 32 (0, 0)) (by (with_reducible repeat (first | refine blk_drewN ?_ _ | refine blk_drew ?_ | refine blk_alloc ?_ _)); exact (Q_BK152 h0_ h1_)) hb))
            clear BK139
            clear BK140
            clear BK141
            clear HB
            have BK139 := n0_
            have BK140 := n1_
            have BK141 := n2_
            have HB := n3_
            clear n0_ n1_ n2_ n3_
            (try clear hb)
            (try clear hb2)
            (try clear hk)
            (try clear hi)
            refine hK.out _ _ ⟨gb151, gb152, m8_, m9_, (by rw [ha.out]; exact putSel_upk 5 hb_ rfl rfl rfl), (by (with_reducible repeat (first | refine blk_drewN ?_ _ | refine blk_drew ?_ | refine blk_alloc ?_ _)); exact BK139.out), (by (with_reducible repeat (first | refine blk_drewN ?_ _ | refine blk_drew ?_ | refine blk_alloc ?_ _)); exact BK140.out), (by (with_reducible repeat (first | refine blk_drewN ?_ _ | refine blk_drew ?_ | refine blk_alloc ?_ _)); exact BK141.out), (by repeat (first | (with_reducible first | exact HB.out | apply below_alloc | apply pw_below_drewN | apply below_drew1 | refine below_set ?_ GE139.out | refine below_set ?_ GE140.out | refine below_set ?_ GE141.out) | exact HB.out)), Q_NB152_151, Q_NB151_152, z_BK151, Q_GW151, Q_GE151, Q_NB139_151, Q_NB151_139, Q_NB140_151, Q_NB151_140, Q_NB141_151, Q_NB151_141, z_BK152, Q_GW152, Q_GE152, Q_NB139_152, Q_NB152_139, Q_NB140_152, Q_NB152_140, Q_NB141_152, Q_NB152_141, fun h0_ => absurd ((hoff 10 (by kernel_rfl)).symm.trans h0_) (by decide), fun h0_ => absurd ((hoff 11 (by kernel_rfl)).symm.trans h0_) (by decide), Q_X8_, Q_X9_⟩
          refine steps_cons ?_ ?_
          · rintro b a w' ⟨gb151, gb152, m8_, m9_, ha, Q_BK139, Q_BK140, Q_BK141, Q_HB, Q_NB152_151, Q_NB151_152, Q_BK151, Q_GW151, Q_GE151, Q_NB139_151, Q_NB151_139, Q_NB140_151, Q_NB151_140, Q_NB141_151, Q_NB151_141, Q_BK152, Q_GW152, Q_GE152, Q_NB139_152, Q_NB152_139, Q_NB140_152, Q_NB152_140, Q_NB141_152, Q_NB152_141, Q_BK151_e10, Q_BK152_e11, Q_X8_, Q_X9_⟩ hb_ hon hoff
            refine ⟨_, rfl, fun K hK => ?_⟩
            replace ha := Aside0.mk ha
            have BK139 := Aside0.mk Q_BK139
            have BK140 := Aside0.mk Q_BK140
            have BK141 := Aside0.mk Q_BK141
            have HB := Aside0.mk Q_HB
            refine box_step ?hg (N := 9) ?hd (cs := #[.int .i64 0, .int .i64 0, .int .i64 0]) (t := 32) ?hr ?_; (case hd => rfl); (case hg => rfl); (case hr => first | (go_simp; done) | (go_simp; rfl))
            intro gb151 hg w30 hbox hb
            have n0_ := Aside0.mk (blk_below (g := gb139) (o := .cells #[.int .i64 a0_0, .int .i64 a0_1, .int .i64 a0_2, .int .i64 a0_3, .int .i64 a0_4] 23 (0, 0)) (by (with_reducible repeat (first | refine blk_drewN ?_ _ | refine blk_drew ?_ | refine blk_alloc ?_ _)); exact BK139.out) hb)
            have n1_ := Aside0.mk (blk_below (g := gb140) (o := .cells #[.int .i64 a1_0, .int .i64 a1_1, .int .i64 a1_2, .int .i64 a1_3, .int .i64 a1_4] 23 (0, 0)) (by (with_reducible repeat (first | refine blk_drewN ?_ _ | refine blk_drew ?_ | refine blk_alloc ?_ _)); exact BK140.out) hb)
            have n2_ := Aside0.mk (blk_below (g := gb141) (o := .cells #[.int .i64 a2_0, .string a2_1, .string a2_2, .int .i64 a2_3, .int .i64 a2_4, .int .i64 a2_5, .slice A2_6 l2_6.length c2_6] 30 (0, 0)) (by (with_reducible repeat (first | refine blk_drewN ?_ _ | refine blk_drew ?_ | refine blk_alloc ?_ _)); exact BK141.out) hb)
            have n3_ := Aside0.mk (below_step (by repeat (first | (with_reducible first | exact HB.out | apply below_alloc | apply pw_below_drewN | apply below_drew1 | refine below_set ?_ GE139.out | refine below_set ?_ GE140.out | refine below_set ?_ GE141.out) | exact HB.out)) hb)
            have n4_ := Aside0.mk (hbox)
            have n5_ := Aside0.mk ((by rw [hg]; exact (below_size (by repeat (first | (with_reducible first | exact HB.out | apply below_alloc | apply pw_below_drewN | apply below_drew1 | refine below_set ?_ GE139.out | refine below_set ?_ GE140.out | refine below_set ?_ GE141.out) | exact HB.out))) : w.heap.size ≤ gb151))
            have n6_ := Aside0.mk ((by rw [hg]; exact (below_size (by repeat (first | (with_reducible first | exact HB.out | apply below_alloc | apply pw_below_drewN | apply below_drew1 | refine below_set ?_ GE139.out | refine below_set ?_ GE140.out | refine below_set ?_ GE141.out) | exact HB.out))) : w.heap.size ≤ gb151))
            have n7_ := Aside0.mk ((by rw [hg]; exact Nat.ne_of_lt (blk_lt (g := gb139) (o := .cells #[.int .i64 a0_0, .int .i64 a0_1, .int .i64 a0_2, .int .i64 a0_3, .int .i64 a0_4] 23 (0, 0)) (by (with_reducible repeat (first | refine blk_drewN ?_ _ | refine blk_drew ?_ | refine blk_alloc ?_ _)); exact BK139.out)) : gb139 ≠ gb151))
            have n8_ := Aside0.mk ((by rw [hg]; exact Nat.ne_of_gt (blk_lt (g := gb139) (o := .cells #[.int .i64 a0_0, .int .i64 a0_1, .int .i64 a0_2, .int .i64 a0_3, .int .i64 a0_4] 23 (0, 0)) (by (with_reducible repeat (first | refine blk_drewN ?_ _ | refine blk_drew ?_ | refine blk_alloc ?_ _)); exact BK139.out)) : gb151 ≠ gb139))
            have n9_ := Aside0.mk ((by rw [hg]; exact Nat.ne_of_lt (blk_lt (g := gb140) (o := .cells #[.int .i64 a1_0, .int .i64 a1_1, .int .i64 a1_2, .int .i64 a1_3, .int .i64 a1_4] 23 (0, 0)) (by (with_reducible repeat (first | refine blk_drewN ?_ _ | refine blk_drew ?_ | refine blk_alloc ?_ _)); exact BK140.out)) : gb140 ≠ gb151))
            have n10_ := Aside0.mk ((by rw [hg]; exact Nat.ne_of_gt (blk_lt (g := gb140) (o := .cells #[.int .i64 a1_0, .int .i64 a1_1, .int .i64 a1_2, .int .i64 a1_3, .int .i64 a1_4] 23 (0, 0)) (by (with_reducible repeat (first | refine blk_drewN ?_ _ | refine blk_drew ?_ | refine blk_alloc ?_ _)); exact BK140.out)) : gb151 ≠ gb140))
            have n11_ := Aside0.mk ((by rw [hg]; exact Nat.ne_of_lt (blk_lt (g := gb141) (o := .cells #[.int .i64 a2_0, .string a2_1, .string a2_2, .int .i64 a2_3, .int .i64 a2_4, .int .i64 a2_5, .slice A2_6 l2_6.length c2_6] 30 (0, 0)) (by (with_reducible repeat (first | refine blk_drewN ?_ _ | refine blk_drew ?_ | refine blk_alloc ?_ _)); exact BK141.out)) : gb141 ≠ gb151))
            have n12_ := Aside0.mk ((by rw [hg]; exact Nat.ne_of_gt (blk_lt (g := gb141) (o := .cells #[.int .i64 a2_0, .string a2_1, .string a2_2, .int .i64 a2_3, .int .i64 a2_4, .int .i64 a2_5, .slice A2_6 l2_6.length c2_6] 30 (0, 0)) (by (with_reducible repeat (first | refine blk_drewN ?_ _ | refine blk_drew ?_ | refine blk_alloc ?_ _)); exact BK141.out)) : gb151 ≠ gb141))
            have z_NB152_151 := fun (h0_ : up b 8 8 = true) (h1_ : up b 8 9 = true) => (show gb152 ≠ gb151 from by have h_ := h1_; rw [up_ne (by decide)] at h_; have lt_ : gb152 < w'.heap.size := (by (cases hq_ : b 11 with | false => exact blk_lt (Q_BK152 h_ hq_) | true => exact blk_lt (Q_BK152_e11 hq_))); rw [hg]; exact Nat.ne_of_lt lt_)
            have z_NB151_152 := fun (h0_ : up b 8 8 = true) (h1_ : up b 8 9 = true) => (show gb151 ≠ gb152 from by have h_ := h1_; rw [up_ne (by decide)] at h_; have lt_ : gb152 < w'.heap.size := (by (cases hq_ : b 11 with | false => exact blk_lt (Q_BK152 h_ hq_) | true => exact blk_lt (Q_BK152_e11 hq_))); rw [hg]; exact Nat.ne_of_gt lt_)
            have z_BK152 := fun (h0_ : b 9 = true) (h1_ : b 11 = false) => (show w30.heap[gb152]? = some (.cells #[.int .i64 0, .int .i64 0, .int .i64 0] 32 (0, 0)) from by first | exact (blk_below (g := gb152) (o := .cells #[.int .i64 0, .int .i64 0, .int .i64 0] 32 (0, 0)) (by (with_reducible repeat (first | refine blk_drewN ?_ _ | refine blk_drew ?_ | refine blk_alloc ?_ _)); exact (Q_BK152 h0_ h1_)) hb))
            clear BK139
            clear BK140
            clear BK141
            clear HB
            have BK139 := n0_
            have BK140 := n1_
            have BK141 := n2_
            have HB := n3_
            have BK151 := n4_
            have GW151 := n5_
            have GE151 := n6_
            have NB139_151 := n7_
            have NB151_139 := n8_
            have NB140_151 := n9_
            have NB151_140 := n10_
            have NB141_151 := n11_
            have NB151_141 := n12_
            clear n0_ n1_ n2_ n3_ n4_ n5_ n6_ n7_ n8_ n9_ n10_ n11_ n12_
            clear hb hbox hg
            refine hK.out _ _ ⟨gb151, gb152, (.pointer (some ⟨gb151, 0, none⟩)), m9_, (by rw [ha.out]; exact putSel_upk 6 hb_ rfl rfl rfl), (by (with_reducible repeat (first | refine blk_drewN ?_ _ | refine blk_drew ?_ | refine blk_alloc ?_ _)); exact BK139.out), (by (with_reducible repeat (first | refine blk_drewN ?_ _ | refine blk_drew ?_ | refine blk_alloc ?_ _)); exact BK140.out), (by (with_reducible repeat (first | refine blk_drewN ?_ _ | refine blk_drew ?_ | refine blk_alloc ?_ _)); exact BK141.out), (by repeat (first | (with_reducible first | exact HB.out | apply below_alloc | apply pw_below_drewN | apply below_drew1 | refine below_set ?_ GE139.out | refine below_set ?_ GE140.out | refine below_set ?_ GE141.out | refine below_set ?_ GE151.out) | exact HB.out)), @z_NB152_151, @z_NB151_152, fun _ _ => (by (with_reducible repeat (first | refine blk_drewN ?_ _ | refine blk_drew ?_ | refine blk_alloc ?_ _)); exact BK151.out), fun _ => GW151.out, fun _ => GE151.out, fun _ => NB139_151.out, fun _ => NB151_139.out, fun _ => NB140_151.out, fun _ => NB151_140.out, fun _ => NB141_151.out, fun _ => NB151_141.out, z_BK152, Q_GW152, Q_GE152, Q_NB139_152, Q_NB152_139, Q_NB140_152, Q_NB152_140, Q_NB141_152, Q_NB152_141, fun h0_ => absurd ((hoff 10 (by kernel_rfl)).symm.trans h0_) (by decide), fun h0_ => absurd ((hoff 11 (by kernel_rfl)).symm.trans h0_) (by decide), fun _ => rfl, Q_X9_⟩
          refine steps_cons ?_ ?_
          · rintro b a w' ⟨gb151, gb152, m8_, m9_, ha, Q_BK139, Q_BK140, Q_BK141, Q_HB, Q_NB152_151, Q_NB151_152, Q_BK151, Q_GW151, Q_GE151, Q_NB139_151, Q_NB151_139, Q_NB140_151, Q_NB151_140, Q_NB141_151, Q_NB151_141, Q_BK152, Q_GW152, Q_GE152, Q_NB139_152, Q_NB152_139, Q_NB140_152, Q_NB152_140, Q_NB141_152, Q_NB152_141, Q_BK151_e10, Q_BK152_e11, Q_X8_, Q_X9_⟩ hb_ hon hoff
            refine ⟨_, rfl, fun K hK => ?_⟩
            replace ha := Aside0.mk ha
            have BK139 := Aside0.mk Q_BK139
            have BK140 := Aside0.mk Q_BK140
            have BK141 := Aside0.mk Q_BK141
            have HB := Aside0.mk Q_HB
            refine box_step ?hg (N := 10) ?hd (cs := #[.int .i64 0, .int .i64 0, .int .i64 0]) (t := 32) ?hr ?_; (case hd => rfl); (case hg => rfl); (case hr => first | (go_simp; done) | (go_simp; rfl))
            intro gb152 hg w30 hbox hb
            have n0_ := Aside0.mk (blk_below (g := gb139) (o := .cells #[.int .i64 a0_0, .int .i64 a0_1, .int .i64 a0_2, .int .i64 a0_3, .int .i64 a0_4] 23 (0, 0)) (by (with_reducible repeat (first | refine blk_drewN ?_ _ | refine blk_drew ?_ | refine blk_alloc ?_ _)); exact BK139.out) hb)
            have n1_ := Aside0.mk (blk_below (g := gb140) (o := .cells #[.int .i64 a1_0, .int .i64 a1_1, .int .i64 a1_2, .int .i64 a1_3, .int .i64 a1_4] 23 (0, 0)) (by (with_reducible repeat (first | refine blk_drewN ?_ _ | refine blk_drew ?_ | refine blk_alloc ?_ _)); exact BK140.out) hb)
            have n2_ := Aside0.mk (blk_below (g := gb141) (o := .cells #[.int .i64 a2_0, .string a2_1, .string a2_2, .int .i64 a2_3, .int .i64 a2_4, .int .i64 a2_5, .slice A2_6 l2_6.length c2_6] 30 (0, 0)) (by (with_reducible repeat (first | refine blk_drewN ?_ _ | refine blk_drew ?_ | refine blk_alloc ?_ _)); exact BK141.out) hb)
            have n3_ := Aside0.mk (below_step (by repeat (first | (with_reducible first | exact HB.out | apply below_alloc | apply pw_below_drewN | apply below_drew1 | refine below_set ?_ GE139.out | refine below_set ?_ GE140.out | refine below_set ?_ GE141.out) | exact HB.out)) hb)
            have n4_ := Aside0.mk (hbox)
            have n5_ := Aside0.mk ((by rw [hg]; exact (below_size (by repeat (first | (with_reducible first | exact HB.out | apply below_alloc | apply pw_below_drewN | apply below_drew1 | refine below_set ?_ GE139.out | refine below_set ?_ GE140.out | refine below_set ?_ GE141.out) | exact HB.out))) : w.heap.size ≤ gb152))
            have n6_ := Aside0.mk ((by rw [hg]; exact (below_size (by repeat (first | (with_reducible first | exact HB.out | apply below_alloc | apply pw_below_drewN | apply below_drew1 | refine below_set ?_ GE139.out | refine below_set ?_ GE140.out | refine below_set ?_ GE141.out) | exact HB.out))) : w.heap.size ≤ gb152))
            have n7_ := Aside0.mk ((by rw [hg]; exact Nat.ne_of_lt (blk_lt (g := gb139) (o := .cells #[.int .i64 a0_0, .int .i64 a0_1, .int .i64 a0_2, .int .i64 a0_3, .int .i64 a0_4] 23 (0, 0)) (by (with_reducible repeat (first | refine blk_drewN ?_ _ | refine blk_drew ?_ | refine blk_alloc ?_ _)); exact BK139.out)) : gb139 ≠ gb152))
            have n8_ := Aside0.mk ((by rw [hg]; exact Nat.ne_of_gt (blk_lt (g := gb139) (o := .cells #[.int .i64 a0_0, .int .i64 a0_1, .int .i64 a0_2, .int .i64 a0_3, .int .i64 a0_4] 23 (0, 0)) (by (with_reducible repeat (first | refine blk_drewN ?_ _ | refine blk_drew ?_ | refine blk_alloc ?_ _)); exact BK139.out)) : gb152 ≠ gb139))
            have n9_ := Aside0.mk ((by rw [hg]; exact Nat.ne_of_lt (blk_lt (g := gb140) (o := .cells #[.int .i64 a1_0, .int .i64 a1_1, .int .i64 a1_2, .int .i64 a1_3, .int .i64 a1_4] 23 (0, 0)) (by (with_reducible repeat (first | refine blk_drewN ?_ _ | refine blk_drew ?_ | refine blk_alloc ?_ _)); exact BK140.out)) : gb140 ≠ gb152))
            have n10_ := Aside0.mk ((by rw [hg]; exact Nat.ne_of_gt (blk_lt (g := gb140) (o := .cells #[.int .i64 a1_0, .int .i64 a1_1, .int .i64 a1_2, .int .i64 a1_3, .int .i64 a1_4] 23 (0, 0)) (by (with_reducible repeat (first | refine blk_drewN ?_ _ | refine blk_drew ?_ | refine blk_alloc ?_ _)); exact BK140.out)) : gb152 ≠ gb140))
            have n11_ := Aside0.mk ((by rw [hg]; exact Nat.ne_of_lt (blk_lt (g := gb141) (o := .cells #[.int .i64 a2_0, .string a2_1, .string a2_2, .int .i64 a2_3, .int .i64 a2_4, .int .i64 a2_5, .slice A2_6 l2_6.length c2_6] 30 (0, 0)) (by (with_reducible repeat (first | refine blk_drewN ?_ _ | refine blk_drew ?_ | refine blk_alloc ?_ _)); exact BK141.out)) : gb141 ≠ gb152))
            have n12_ := Aside0.mk ((by rw [hg]; exact Nat.ne_of_gt (blk_lt (g := gb141) (o := .cells #[.int .i64 a2_0, .string a2_1, .string a2_2, .int .i64 a2_3, .int .i64 a2_4, .int .i64 a2_5, .slice A2_6 l2_6.length c2_6] 30 (0, 0)) (by (with_reducible repeat (first | refine blk_drewN ?_ _ | refine blk_drew ?_ | refine blk_alloc ?_ _)); exact BK141.out)) : gb152 ≠ gb141))
            have z_NB152_151 := fun (h0_ : up b 9 8 = true) (h1_ : up b 9 9 = true) => (show gb152 ≠ gb151 from by have h_ := h0_; rw [up_ne (by decide)] at h_; have lt_ : gb151 < w'.heap.size := (by (cases hq_ : b 10 with | false => exact blk_lt (Q_BK151 h_ hq_) | true => exact blk_lt (Q_BK151_e10 hq_))); rw [hg]; exact Nat.ne_of_gt lt_)
            have z_NB151_152 := fun (h0_ : up b 9 8 = true) (h1_ : up b 9 9 = true) => (show gb151 ≠ gb152 from by have h_ := h0_; rw [up_ne (by decide)] at h_; have lt_ : gb151 < w'.heap.size := (by (cases hq_ : b 10 with | false => exact blk_lt (Q_BK151 h_ hq_) | true => exact blk_lt (Q_BK151_e10 hq_))); rw [hg]; exact Nat.ne_of_lt lt_)
            have z_BK151 := fun (h0_ : b 8 = true) (h1_ : b 10 = false) => (show w30.heap[gb151]? = some (.cells #[.int .i64 0, .int .i64 0, .int .i64 0] 32 (0, 0)) from by first | exact (blk_below (g := gb151) (o := .cells #[.int .i64 0, .int .i64 0, .int .i64 0] 32 (0, 0)) (by (with_reducible repeat (first | refine blk_drewN ?_ _ | refine blk_drew ?_ | refine blk_alloc ?_ _)); exact (Q_BK151 h0_ h1_)) hb))
            clear BK139
            clear BK140
            clear BK141
            clear HB
            have BK139 := n0_
            have BK140 := n1_
            have BK141 := n2_
            have HB := n3_
            have BK152 := n4_
            have GW152 := n5_
            have GE152 := n6_
            have NB139_152 := n7_
            have NB152_139 := n8_
            have NB140_152 := n9_
            have NB152_140 := n10_
            have NB141_152 := n11_
            have NB152_141 := n12_
            clear n0_ n1_ n2_ n3_ n4_ n5_ n6_ n7_ n8_ n9_ n10_ n11_ n12_
            clear hb hbox hg
            refine hK.out _ _ ⟨gb151, gb152, m8_, (.pointer (some ⟨gb152, 0, none⟩)), (by rw [ha.out]; exact putSel_upk 7 hb_ rfl rfl rfl), (by (with_reducible repeat (first | refine blk_drewN ?_ _ | refine blk_drew ?_ | refine blk_alloc ?_ _)); exact BK139.out), (by (with_reducible repeat (first | refine blk_drewN ?_ _ | refine blk_drew ?_ | refine blk_alloc ?_ _)); exact BK140.out), (by (with_reducible repeat (first | refine blk_drewN ?_ _ | refine blk_drew ?_ | refine blk_alloc ?_ _)); exact BK141.out), (by repeat (first | (with_reducible first | exact HB.out | apply below_alloc | apply pw_below_drewN | apply below_drew1 | refine below_set ?_ GE139.out | refine below_set ?_ GE140.out | refine below_set ?_ GE141.out | refine below_set ?_ GE152.out) | exact HB.out)), @z_NB152_151, @z_NB151_152, z_BK151, Q_GW151, Q_GE151, Q_NB139_151, Q_NB151_139, Q_NB140_151, Q_NB151_140, Q_NB141_151, Q_NB151_141, fun _ _ => (by (with_reducible repeat (first | refine blk_drewN ?_ _ | refine blk_drew ?_ | refine blk_alloc ?_ _)); exact BK152.out), fun _ => GW152.out, fun _ => GE152.out, fun _ => NB139_152.out, fun _ => NB152_139.out, fun _ => NB140_152.out, fun _ => NB152_140.out, fun _ => NB141_152.out, fun _ => NB152_141.out, fun h0_ => absurd ((hoff 10 (by kernel_rfl)).symm.trans h0_) (by decide), fun h0_ => absurd ((hoff 11 (by kernel_rfl)).symm.trans h0_) (by decide), Q_X8_, fun _ => rfl⟩
          refine steps_cons ?_ ?_
          · rintro b a w' ⟨gb151, gb152, m8_, m9_, ha, Q_BK139, Q_BK140, Q_BK141, Q_HB, Q_NB152_151, Q_NB151_152, Q_BK151, Q_GW151, Q_GE151, Q_NB139_151, Q_NB151_139, Q_NB140_151, Q_NB151_140, Q_NB141_151, Q_NB151_141, Q_BK152, Q_GW152, Q_GE152, Q_NB139_152, Q_NB152_139, Q_NB140_152, Q_NB152_140, Q_NB141_152, Q_NB152_141, Q_BK151_e10, Q_BK152_e11, Q_X8_, Q_X9_⟩ hb_ hon hoff
            refine ⟨_, rfl, fun K hK => ?_⟩
            have e9 : a.tmps[9]? = some (m8_) := by rw [ha]; exact putSel_on (e := (8, 9, m8_)) 6 rfl rfl (hon 8 (by kernel_rfl)) rfl
            rw [Q_X8_ (hon 8 (by kernel_rfl))] at e9
            have e27 : a.tmps[27]? = some (.agg #[.int .i64 t145, .int .i64 t146, .int .i64 t147]) := by rw [ha]; exact putSel_on (e := (3, 27, .agg #[.int .i64 t145, .int .i64 t146, .int .i64 t147])) 2 rfl rfl (hon 3 (by kernel_rfl)) rfl
            replace ha := Aside0.mk ha
            have BK139 := Aside0.mk Q_BK139
            have BK140 := Aside0.mk Q_BK140
            have BK141 := Aside0.mk Q_BK141
            have HB := Aside0.mk Q_HB
            have NB152_151 := Aside0.mk (Q_NB152_151 (hon 8 (by kernel_rfl)) (hon 9 (by kernel_rfl)))
            have NB151_152 := Aside0.mk (Q_NB151_152 (hon 8 (by kernel_rfl)) (hon 9 (by kernel_rfl)))
            have BK151 := Aside0.mk (Q_BK151 (hon 8 (by kernel_rfl)) hb_)
            have GW151 := Aside0.mk (Q_GW151 (hon 8 (by kernel_rfl)))
            have GE151 := Aside0.mk (Q_GE151 (hon 8 (by kernel_rfl)))
            have NB139_151 := Aside0.mk (Q_NB139_151 (hon 8 (by kernel_rfl)))
            have NB151_139 := Aside0.mk (Q_NB151_139 (hon 8 (by kernel_rfl)))
            have NB140_151 := Aside0.mk (Q_NB140_151 (hon 8 (by kernel_rfl)))
            have NB151_140 := Aside0.mk (Q_NB151_140 (hon 8 (by kernel_rfl)))
            have NB141_151 := Aside0.mk (Q_NB141_151 (hon 8 (by kernel_rfl)))
            have NB151_141 := Aside0.mk (Q_NB151_141 (hon 8 (by kernel_rfl)))
            have BK152 := Aside0.mk (Q_BK152 (hon 9 (by kernel_rfl)) (hoff 11 (by kernel_rfl)))
            have GW152 := Aside0.mk (Q_GW152 (hon 9 (by kernel_rfl)))
            have GE152 := Aside0.mk (Q_GE152 (hon 9 (by kernel_rfl)))
            have NB139_152 := Aside0.mk (Q_NB139_152 (hon 9 (by kernel_rfl)))
            have NB152_139 := Aside0.mk (Q_NB152_139 (hon 9 (by kernel_rfl)))
            have NB140_152 := Aside0.mk (Q_NB140_152 (hon 9 (by kernel_rfl)))
            have NB152_140 := Aside0.mk (Q_NB152_140 (hon 9 (by kernel_rfl)))
            have NB141_152 := Aside0.mk (Q_NB141_152 (hon 9 (by kernel_rfl)))
            have NB152_141 := Aside0.mk (Q_NB152_141 (hon 9 (by kernel_rfl)))
            have hs35 : w'.cell? ⟨gb151, 0, none⟩ = some (.int .i64 0) := (blk_cell BK151.out 0).trans rfl
            have hfs35 := blk_frozen BK151.out 0
            have hns35_0 := NB139_151.out
            have hns35_1 := NB140_151.out
            have hns35_2 := NB141_151.out
            have hns35_4 := NB152_151.out
            have hms35_0 := NB151_139.out
            have hms35_1 := NB151_140.out
            have hms35_2 := NB151_141.out
            have hms35_4 := NB151_152.out
            have hs36 : w'.cell? ⟨gb151, 1, none⟩ = some (.int .i64 0) := (blk_cell BK151.out 1).trans rfl
            have hfs36 := blk_frozen BK151.out 1
            have hns36_0 := NB139_151.out
            have hns36_1 := NB140_151.out
            have hns36_2 := NB141_151.out
            have hns36_4 := NB152_151.out
            have hms36_0 := NB151_139.out
            have hms36_1 := NB151_140.out
            have hms36_2 := NB151_141.out
            have hms36_4 := NB151_152.out
            have hs37 : w'.cell? ⟨gb151, 2, none⟩ = some (.int .i64 0) := (blk_cell BK151.out 2).trans rfl
            have hfs37 := blk_frozen BK151.out 2
            have hns37_0 := NB139_151.out
            have hns37_1 := NB140_151.out
            have hns37_2 := NB141_151.out
            have hns37_4 := NB152_151.out
            have hms37_0 := NB151_139.out
            have hms37_1 := NB151_140.out
            have hms37_2 := NB151_141.out
            have hms37_4 := NB151_152.out
            refine skip_ (w1 := ?_) (by rfl) rfl ?_ ?_
            rotate_left
            · go_simp
              rfl
            refine hK.out _ _ ⟨gb151, gb152, m8_, m9_, (by rw [ha.out]; exact putSel_none (v := undef) rfl), (by (with_reducible repeat (first | refine blk_drewN ?_ _ | refine blk_drew ?_ | refine blk_alloc ?_ _)); refine blk_far ?_ NB139_151.out _; (with_reducible repeat (first | refine blk_drewN ?_ _ | refine blk_drew ?_ | refine blk_alloc ?_ _)); refine blk_far ?_ NB139_151.out _; (with_reducible repeat (first | refine blk_drewN ?_ _ | refine blk_drew ?_ | refine blk_alloc ?_ _)); refine blk_far ?_ NB139_151.out _; (with_reducible repeat (first | refine blk_drewN ?_ _ | refine blk_drew ?_ | refine blk_alloc ?_ _)); exact BK139.out), (by (with_reducible repeat (first | refine blk_drewN ?_ _ | refine blk_drew ?_ | refine blk_alloc ?_ _)); refine blk_far ?_ NB140_151.out _; (with_reducible repeat (first | refine blk_drewN ?_ _ | refine blk_drew ?_ | refine blk_alloc ?_ _)); refine blk_far ?_ NB140_151.out _; (with_reducible repeat (first | refine blk_drewN ?_ _ | refine blk_drew ?_ | refine blk_alloc ?_ _)); refine blk_far ?_ NB140_151.out _; (with_reducible repeat (first | refine blk_drewN ?_ _ | refine blk_drew ?_ | refine blk_alloc ?_ _)); exact BK140.out), (by (with_reducible repeat (first | refine blk_drewN ?_ _ | refine blk_drew ?_ | refine blk_alloc ?_ _)); refine blk_far ?_ NB141_151.out _; (with_reducible repeat (first | refine blk_drewN ?_ _ | refine blk_drew ?_ | refine blk_alloc ?_ _)); refine blk_far ?_ NB141_151.out _; (with_reducible repeat (first | refine blk_drewN ?_ _ | refine blk_drew ?_ | refine blk_alloc ?_ _)); refine blk_far ?_ NB141_151.out _; (with_reducible repeat (first | refine blk_drewN ?_ _ | refine blk_drew ?_ | refine blk_alloc ?_ _)); exact BK141.out), (by repeat (first | (with_reducible first | exact HB.out | apply below_alloc | apply pw_below_drewN | apply below_drew1 | refine below_set ?_ GE139.out | refine below_set ?_ GE140.out | refine below_set ?_ GE141.out | refine below_set ?_ GE151.out | refine below_set ?_ GE152.out) | exact HB.out)), fun _ _ => NB152_151.out, fun _ _ => NB151_152.out, fun _ h1_ => absurd ((up_self b 10).symm.trans h1_) (by decide), fun _ => GW151.out, fun _ => GE151.out, fun _ => NB139_151.out, fun _ => NB151_139.out, fun _ => NB140_151.out, fun _ => NB151_140.out, fun _ => NB141_151.out, fun _ => NB151_141.out, fun _ _ => (by (with_reducible repeat (first | refine blk_drewN ?_ _ | refine blk_drew ?_ | refine blk_alloc ?_ _)); refine blk_far ?_ NB152_151.out _; (with_reducible repeat (first | refine blk_drewN ?_ _ | refine blk_drew ?_ | refine blk_alloc ?_ _)); refine blk_far ?_ NB152_151.out _; (with_reducible repeat (first | refine blk_drewN ?_ _ | refine blk_drew ?_ | refine blk_alloc ?_ _)); refine blk_far ?_ NB152_151.out _; (with_reducible repeat (first | refine blk_drewN ?_ _ | refine blk_drew ?_ | refine blk_alloc ?_ _)); exact BK152.out), fun _ => GW152.out, fun _ => GE152.out, fun _ => NB139_152.out, fun _ => NB152_139.out, fun _ => NB140_152.out, fun _ => NB152_140.out, fun _ => NB141_152.out, fun _ => NB152_141.out, fun _ => (by (with_reducible repeat (first | refine blk_drewN ?_ _ | refine blk_drew ?_ | refine blk_alloc ?_ _)); refine blk_put (cs := #[.int .i64 t145, .int .i64 t146, .int .i64 0]) ?_ 2 _ rfl; (with_reducible repeat (first | refine blk_drewN ?_ _ | refine blk_drew ?_ | refine blk_alloc ?_ _)); refine blk_put (cs := #[.int .i64 t145, .int .i64 0, .int .i64 0]) ?_ 1 _ rfl; (with_reducible repeat (first | refine blk_drewN ?_ _ | refine blk_drew ?_ | refine blk_alloc ?_ _)); refine blk_put (cs := #[.int .i64 0, .int .i64 0, .int .i64 0]) ?_ 0 _ rfl; (with_reducible repeat (first | refine blk_drewN ?_ _ | refine blk_drew ?_ | refine blk_alloc ?_ _)); exact BK151.out), fun h0_ => absurd ((hoff 11 (by kernel_rfl)).symm.trans h0_) (by decide), Q_X8_, Q_X9_⟩
          refine steps_cons ?_ ?_
          · rintro b a w' ⟨gb151, gb152, m8_, m9_, ha, Q_BK139, Q_BK140, Q_BK141, Q_HB, Q_NB152_151, Q_NB151_152, Q_BK151, Q_GW151, Q_GE151, Q_NB139_151, Q_NB151_139, Q_NB140_151, Q_NB151_140, Q_NB141_151, Q_NB151_141, Q_BK152, Q_GW152, Q_GE152, Q_NB139_152, Q_NB152_139, Q_NB140_152, Q_NB152_140, Q_NB141_152, Q_NB152_141, Q_BK151_e10, Q_BK152_e11, Q_X8_, Q_X9_⟩ hb_ hon hoff
            refine ⟨_, rfl, fun K hK => ?_⟩
            have e10 : a.tmps[10]? = some (m9_) := by rw [ha]; exact putSel_on (e := (9, 10, m9_)) 7 rfl rfl (hon 9 (by kernel_rfl)) rfl
            rw [Q_X9_ (hon 9 (by kernel_rfl))] at e10
            have e31 : a.tmps[31]? = some (.agg #[.int .i64 t148, .int .i64 t149, .int .i64 t150]) := by rw [ha]; exact putSel_on (e := (7, 31, .agg #[.int .i64 t148, .int .i64 t149, .int .i64 t150])) 5 rfl rfl (hon 7 (by kernel_rfl)) rfl
            replace ha := Aside0.mk ha
            have BK139 := Aside0.mk Q_BK139
            have BK140 := Aside0.mk Q_BK140
            have BK141 := Aside0.mk Q_BK141
            have HB := Aside0.mk Q_HB
            have NB152_151 := Aside0.mk (Q_NB152_151 (hon 8 (by kernel_rfl)) (hon 9 (by kernel_rfl)))
            have NB151_152 := Aside0.mk (Q_NB151_152 (hon 8 (by kernel_rfl)) (hon 9 (by kernel_rfl)))
            have GW151 := Aside0.mk (Q_GW151 (hon 8 (by kernel_rfl)))
            have GE151 := Aside0.mk (Q_GE151 (hon 8 (by kernel_rfl)))
            have NB139_151 := Aside0.mk (Q_NB139_151 (hon 8 (by kernel_rfl)))
            have NB151_139 := Aside0.mk (Q_NB151_139 (hon 8 (by kernel_rfl)))
            have NB140_151 := Aside0.mk (Q_NB140_151 (hon 8 (by kernel_rfl)))
            have NB151_140 := Aside0.mk (Q_NB151_140 (hon 8 (by kernel_rfl)))
            have NB141_151 := Aside0.mk (Q_NB141_151 (hon 8 (by kernel_rfl)))
            have NB151_141 := Aside0.mk (Q_NB151_141 (hon 8 (by kernel_rfl)))
            have BK152 := Aside0.mk (Q_BK152 (hon 9 (by kernel_rfl)) hb_)
            have GW152 := Aside0.mk (Q_GW152 (hon 9 (by kernel_rfl)))
            have GE152 := Aside0.mk (Q_GE152 (hon 9 (by kernel_rfl)))
            have NB139_152 := Aside0.mk (Q_NB139_152 (hon 9 (by kernel_rfl)))
            have NB152_139 := Aside0.mk (Q_NB152_139 (hon 9 (by kernel_rfl)))
            have NB140_152 := Aside0.mk (Q_NB140_152 (hon 9 (by kernel_rfl)))
            have NB152_140 := Aside0.mk (Q_NB152_140 (hon 9 (by kernel_rfl)))
            have NB141_152 := Aside0.mk (Q_NB141_152 (hon 9 (by kernel_rfl)))
            have NB152_141 := Aside0.mk (Q_NB152_141 (hon 9 (by kernel_rfl)))
            have BK151 := Aside0.mk (Q_BK151_e10 (hon 10 (by kernel_rfl)))
            have hs38 : w'.cell? ⟨gb152, 0, none⟩ = some (.int .i64 0) := (blk_cell BK152.out 0).trans rfl
            have hfs38 := blk_frozen BK152.out 0
            have hns38_0 := NB139_152.out
            have hns38_1 := NB140_152.out
            have hns38_2 := NB141_152.out
            have hns38_3 := NB151_152.out
            have hms38_0 := NB152_139.out
            have hms38_1 := NB152_140.out
            have hms38_2 := NB152_141.out
            have hms38_3 := NB152_151.out
            have hs39 : w'.cell? ⟨gb152, 1, none⟩ = some (.int .i64 0) := (blk_cell BK152.out 1).trans rfl
            have hfs39 := blk_frozen BK152.out 1
            have hns39_0 := NB139_152.out
            have hns39_1 := NB140_152.out
            have hns39_2 := NB141_152.out
            have hns39_3 := NB151_152.out
            have hms39_0 := NB152_139.out
            have hms39_1 := NB152_140.out
            have hms39_2 := NB152_141.out
            have hms39_3 := NB152_151.out
            have hs40 : w'.cell? ⟨gb152, 2, none⟩ = some (.int .i64 0) := (blk_cell BK152.out 2).trans rfl
            have hfs40 := blk_frozen BK152.out 2
            have hns40_0 := NB139_152.out
            have hns40_1 := NB140_152.out
            have hns40_2 := NB141_152.out
            have hns40_3 := NB151_152.out
            have hms40_0 := NB152_139.out
            have hms40_1 := NB152_140.out
            have hms40_2 := NB152_141.out
            have hms40_3 := NB152_151.out
            refine skip_ (w1 := ?_) (by rfl) rfl ?_ ?_
            rotate_left
            · go_simp
              rfl
            refine hK.out _ _ ⟨gb151, gb152, m8_, m9_, (by rw [ha.out]; exact putSel_none (v := undef) rfl), (by (with_reducible repeat (first | refine blk_drewN ?_ _ | refine blk_drew ?_ | refine blk_alloc ?_ _)); refine blk_far ?_ NB139_152.out _; (with_reducible repeat (first | refine blk_drewN ?_ _ | refine blk_drew ?_ | refine blk_alloc ?_ _)); refine blk_far ?_ NB139_152.out _; (with_reducible repeat (first | refine blk_drewN ?_ _ | refine blk_drew ?_ | refine blk_alloc ?_ _)); refine blk_far ?_ NB139_152.out _; (with_reducible repeat (first | refine blk_drewN ?_ _ | refine blk_drew ?_ | refine blk_alloc ?_ _)); exact BK139.out), (by (with_reducible repeat (first | refine blk_drewN ?_ _ | refine blk_drew ?_ | refine blk_alloc ?_ _)); refine blk_far ?_ NB140_152.out _; (with_reducible repeat (first | refine blk_drewN ?_ _ | refine blk_drew ?_ | refine blk_alloc ?_ _)); refine blk_far ?_ NB140_152.out _; (with_reducible repeat (first | refine blk_drewN ?_ _ | refine blk_drew ?_ | refine blk_alloc ?_ _)); refine blk_far ?_ NB140_152.out _; (with_reducible repeat (first | refine blk_drewN ?_ _ | refine blk_drew ?_ | refine blk_alloc ?_ _)); exact BK140.out), (by (with_reducible repeat (first | refine blk_drewN ?_ _ | refine blk_drew ?_ | refine blk_alloc ?_ _)); refine blk_far ?_ NB141_152.out _; (with_reducible repeat (first | refine blk_drewN ?_ _ | refine blk_drew ?_ | refine blk_alloc ?_ _)); refine blk_far ?_ NB141_152.out _; (with_reducible repeat (first | refine blk_drewN ?_ _ | refine blk_drew ?_ | refine blk_alloc ?_ _)); refine blk_far ?_ NB141_152.out _; (with_reducible repeat (first | refine blk_drewN ?_ _ | refine blk_drew ?_ | refine blk_alloc ?_ _)); exact BK141.out), (by repeat (first | (with_reducible first | exact HB.out | apply below_alloc | apply pw_below_drewN | apply below_drew1 | refine below_set ?_ GE139.out | refine below_set ?_ GE140.out | refine below_set ?_ GE141.out | refine below_set ?_ GE151.out | refine below_set ?_ GE152.out) | exact HB.out)), fun _ _ => NB152_151.out, fun _ _ => NB151_152.out, fun _ h1_ => absurd ((hon 10 (by kernel_rfl)).symm.trans h1_) (by decide), fun _ => GW151.out, fun _ => GE151.out, fun _ => NB139_151.out, fun _ => NB151_139.out, fun _ => NB140_151.out, fun _ => NB151_140.out, fun _ => NB141_151.out, fun _ => NB151_141.out, fun _ h1_ => absurd ((up_self b 11).symm.trans h1_) (by decide), fun _ => GW152.out, fun _ => GE152.out, fun _ => NB139_152.out, fun _ => NB152_139.out, fun _ => NB140_152.out, fun _ => NB152_140.out, fun _ => NB141_152.out, fun _ => NB152_141.out, fun _ => (by (with_reducible repeat (first | refine blk_drewN ?_ _ | refine blk_drew ?_ | refine blk_alloc ?_ _)); refine blk_far ?_ NB151_152.out _; (with_reducible repeat (first | refine blk_drewN ?_ _ | refine blk_drew ?_ | refine blk_alloc ?_ _)); refine blk_far ?_ NB151_152.out _; (with_reducible repeat (first | refine blk_drewN ?_ _ | refine blk_drew ?_ | refine blk_alloc ?_ _)); refine blk_far ?_ NB151_152.out _; (with_reducible repeat (first | refine blk_drewN ?_ _ | refine blk_drew ?_ | refine blk_alloc ?_ _)); exact BK151.out), fun _ => (by (with_reducible repeat (first | refine blk_drewN ?_ _ | refine blk_drew ?_ | refine blk_alloc ?_ _)); refine blk_put (cs := #[.int .i64 t148, .int .i64 t149, .int .i64 0]) ?_ 2 _ rfl; (with_reducible repeat (first | refine blk_drewN ?_ _ | refine blk_drew ?_ | refine blk_alloc ?_ _)); refine blk_put (cs := #[.int .i64 t148, .int .i64 0, .int .i64 0]) ?_ 1 _ rfl; (with_reducible repeat (first | refine blk_drewN ?_ _ | refine blk_drew ?_ | refine blk_alloc ?_ _)); refine blk_put (cs := #[.int .i64 0, .int .i64 0, .int .i64 0]) ?_ 0 _ rfl; (with_reducible repeat (first | refine blk_drewN ?_ _ | refine blk_drew ?_ | refine blk_alloc ?_ _)); exact BK152.out), Q_X8_, Q_X9_⟩
          exact steps_nil
        rintro b a w40 hall ⟨gb151, gb152, m8_, m9_, ha, Q_BK139, Q_BK140, Q_BK141, Q_HB, Q_NB152_151, Q_NB151_152, Q_BK151, Q_GW151, Q_GE151, Q_NB139_151, Q_NB151_139, Q_NB140_151, Q_NB151_140, Q_NB141_151, Q_NB151_141, Q_BK152, Q_GW152, Q_GE152, Q_NB139_152, Q_NB152_139, Q_NB140_152, Q_NB152_140, Q_NB141_152, Q_NB152_141, Q_BK151_e10, Q_BK152_e11, Q_X8_, Q_X9_⟩
        clear BK139 BK140 BK141 HB
        have hb0_ := hall 0 (by kernel_rfl)
        have hb1_ := hall 1 (by kernel_rfl)
        have hb3_ := hall 3 (by kernel_rfl)
        have hb4_ := hall 4 (by kernel_rfl)
        have hb5_ := hall 5 (by kernel_rfl)
        have hb7_ := hall 7 (by kernel_rfl)
        have hb8_ := hall 8 (by kernel_rfl)
        have hb9_ := hall 9 (by kernel_rfl)
        have hb10_ := hall 10 (by kernel_rfl)
        have hb11_ := hall 11 (by kernel_rfl)
        subst ha
        obtain rfl := Q_X8_ hb8_
        obtain rfl := Q_X9_ hb9_
        simp only [putSel, hb0_, hb1_, hb3_, hb4_, hb5_, hb7_, hb8_, hb9_, hb10_, hb11_, if_true, Act.put, List.setIfInBounds_toArray, List.set_cons_zero, List.set_cons_succ]
        have BK139 := Aside0.mk Q_BK139
        clear Q_BK139
        have BK140 := Aside0.mk Q_BK140
        clear Q_BK140
        have BK141 := Aside0.mk Q_BK141
        clear Q_BK141
        have HB := Aside0.mk Q_HB
        clear Q_HB
        have NB152_151 := Aside0.mk (Q_NB152_151 hb8_ hb9_)
        clear Q_NB152_151
        have NB151_152 := Aside0.mk (Q_NB151_152 hb8_ hb9_)
        clear Q_NB151_152
        clear Q_BK151
        have GW151 := Aside0.mk (Q_GW151 hb8_)
        clear Q_GW151
        have GE151 := Aside0.mk (Q_GE151 hb8_)
        clear Q_GE151
        have NB139_151 := Aside0.mk (Q_NB139_151 hb8_)
        clear Q_NB139_151
        have NB151_139 := Aside0.mk (Q_NB151_139 hb8_)
        clear Q_NB151_139
        have NB140_151 := Aside0.mk (Q_NB140_151 hb8_)
        clear Q_NB140_151
        have NB151_140 := Aside0.mk (Q_NB151_140 hb8_)
        clear Q_NB151_140
        have NB141_151 := Aside0.mk (Q_NB141_151 hb8_)
        clear Q_NB141_151
        have NB151_141 := Aside0.mk (Q_NB151_141 hb8_)
        clear Q_NB151_141
        clear Q_BK152
        have GW152 := Aside0.mk (Q_GW152 hb9_)
        clear Q_GW152
        have GE152 := Aside0.mk (Q_GE152 hb9_)
        clear Q_GE152
        have NB139_152 := Aside0.mk (Q_NB139_152 hb9_)
        clear Q_NB139_152
        have NB152_139 := Aside0.mk (Q_NB152_139 hb9_)
        clear Q_NB152_139
        have NB140_152 := Aside0.mk (Q_NB140_152 hb9_)
        clear Q_NB140_152
        have NB152_140 := Aside0.mk (Q_NB152_140 hb9_)
        clear Q_NB152_140
        have NB141_152 := Aside0.mk (Q_NB141_152 hb9_)
        clear Q_NB141_152
        have NB152_141 := Aside0.mk (Q_NB152_141 hb9_)
        clear Q_NB152_141
        have BK151 := Aside0.mk (Q_BK151_e10 hb10_)
        clear Q_BK151_e10
        have BK152 := Aside0.mk (Q_BK152_e11 hb11_)
        clear Q_BK152_e11
        clear hall hb0_ hb1_ hb3_ hb4_ hb5_ hb7_ hb8_ hb9_ hb10_ hb11_
        go_upto_region 5 with (fail)
        go_cut [49] (fun v49 wc => ∃ (kq : Nat) (x49_27 : Bool), v49 = .bool x49_27 ∧ Aside0 (potsherdlaw24_CostHangs.j1 kq (wrap64 (Int.tmod (IntKind.u64.wrap (a3)) 8)) x49_27 a0_0 a0_1 a0_2 a0_3 a0_4 a1_0 a1_1 a1_2 a1_3 a1_4 a2_0 a2_1 a2_2 a2_3 a2_4 a2_5 l2_6 t145 t146 t147 t148 t149 t150 = some true) ∧ Aside0 (kq ≤ kj4) ∧ Aside0 (wc.heap[gb139]? = some (.cells #[.int .i64 a0_0, .int .i64 a0_1, .int .i64 a0_2, .int .i64 a0_3, .int .i64 a0_4] 23 (0, 0))) ∧ Aside0 (wc.heap[gb140]? = some (.cells #[.int .i64 a1_0, .int .i64 a1_1, .int .i64 a1_2, .int .i64 a1_3, .int .i64 a1_4] 23 (0, 0))) ∧ Aside0 (wc.heap[gb141]? = some (.cells #[.int .i64 a2_0, .string a2_1, .string a2_2, .int .i64 a2_3, .int .i64 a2_4, .int .i64 a2_5, (.slice A2_6 l2_6.length c2_6)] 30 (0, 0))) ∧ Aside0 (wc.heap[gb151]? = some (.cells #[.int .i64 t145, .int .i64 t146, .int .i64 t147] 32 (0, 0))) ∧ Aside0 (wc.heap[gb152]? = some (.cells #[.int .i64 t148, .int .i64 t149, .int .i64 t150] 32 (0, 0))) ∧ Aside0 (Below w.heap.size w wc))
        case first =>
          have H := HC28.out
          clear HC28
          by_cases c41 : a0_0 ≤ a1_0
          · rw [if_pos c41] at H
            have c41b0 : decide (a0_0 ≤ a1_0) = true := decide_eq_true c41
            clear c41
            (first | rw [c41b0] | (simp only [i64_w, i32_w]; rw [c41b0]) | skip)
            by_cases c42 : a0_1 ≤ a1_1
            · rw [if_pos c42] at H
              have c42b0 : decide (a0_1 ≤ a1_1) = true := decide_eq_true c42
              clear c42
              replace H := Option.bind_eq_some_iff.mp H
              obtain ⟨t153, A430, H⟩ := H
              replace H : (potsherdlaw24_CostHangs.j1 kj4 (wrap64 (Int.tmod (IntKind.u64.wrap (a3)) 8)) (!t153) a0_0 a0_1 a0_2 a0_3 a0_4 a1_0 a1_1 a1_2 a1_3 a1_4 a2_0 a2_1 a2_2 a2_3 a2_4 a2_5 l2_6 t145 t146 t147 t148 t149 t150) = some true := H
              have A43 := Aside0.mk A430
              clear A430
              have H' := Aside0.mk H
              clear H
              have hnb44 := NB139_140.out
              have hnc44 := NB140_139.out
              have hnb45 := NB139_141.out
              have hnc45 := NB141_139.out
              have hnb46 := NB139_151.out
              have hnc46 := NB151_139.out
              have hnb47 := NB139_152.out
              have hnc47 := NB152_139.out
              have hcz48_0 : w40.cell? ⟨gb139, 0, none⟩ = some (.int .i64 a0_0) := (blk_cell BK139.out 0).trans rfl
              have hcz48_1 : w40.cell? ⟨gb139, 1, none⟩ = some (.int .i64 a0_1) := (blk_cell BK139.out 1).trans rfl
              have hcz48_2 : w40.cell? ⟨gb139, 2, none⟩ = some (.int .i64 a0_2) := (blk_cell BK139.out 2).trans rfl
              have hcz48_3 : w40.cell? ⟨gb139, 3, none⟩ = some (.int .i64 a0_3) := (blk_cell BK139.out 3).trans rfl
              have hcz48_4 : w40.cell? ⟨gb139, 4, none⟩ = some (.int .i64 a0_4) := (blk_cell BK139.out 4).trans rfl
              have hfz48_0 := blk_frozen BK139.out 0
              have hfz48_1 := blk_frozen BK139.out 1
              have hfz48_2 := blk_frozen BK139.out 2
              have hfz48_3 := blk_frozen BK139.out 3
              have hfz48_4 := blk_frozen BK139.out 4
              have hnb49 := NB140_141.out
              have hnc49 := NB141_140.out
              have hnb50 := NB140_151.out
              have hnc50 := NB151_140.out
              have hnb51 := NB140_152.out
              have hnc51 := NB152_140.out
              have hcz52_0 : w40.cell? ⟨gb140, 0, none⟩ = some (.int .i64 a1_0) := (blk_cell BK140.out 0).trans rfl
              have hcz52_1 : w40.cell? ⟨gb140, 1, none⟩ = some (.int .i64 a1_1) := (blk_cell BK140.out 1).trans rfl
              have hcz52_2 : w40.cell? ⟨gb140, 2, none⟩ = some (.int .i64 a1_2) := (blk_cell BK140.out 2).trans rfl
              have hcz52_3 : w40.cell? ⟨gb140, 3, none⟩ = some (.int .i64 a1_3) := (blk_cell BK140.out 3).trans rfl
              have hcz52_4 : w40.cell? ⟨gb140, 4, none⟩ = some (.int .i64 a1_4) := (blk_cell BK140.out 4).trans rfl
              have hfz52_0 := blk_frozen BK140.out 0
              have hfz52_1 := blk_frozen BK140.out 1
              have hfz52_2 := blk_frozen BK140.out 2
              have hfz52_3 := blk_frozen BK140.out 3
              have hfz52_4 := blk_frozen BK140.out 4
              have hnb53 := NB151_141.out
              have hnc53 := NB141_151.out
              have hnb54 := NB151_152.out
              have hnc54 := NB152_151.out
              have hcz55_0 : w40.cell? ⟨gb151, 0, none⟩ = some (.int .i64 t145) := (blk_cell BK151.out 0).trans rfl
              have hcz55_1 : w40.cell? ⟨gb151, 1, none⟩ = some (.int .i64 t146) := (blk_cell BK151.out 1).trans rfl
              have hcz55_2 : w40.cell? ⟨gb151, 2, none⟩ = some (.int .i64 t147) := (blk_cell BK151.out 2).trans rfl
              have hfz55_0 := blk_frozen BK151.out 0
              have hfz55_1 := blk_frozen BK151.out 1
              have hfz55_2 := blk_frozen BK151.out 2
              have hnb56 := NB152_141.out
              have hnc56 := NB141_152.out
              have hcz57_0 : w40.cell? ⟨gb152, 0, none⟩ = some (.int .i64 t148) := (blk_cell BK152.out 0).trans rfl
              have hcz57_1 : w40.cell? ⟨gb152, 1, none⟩ = some (.int .i64 t149) := (blk_cell BK152.out 1).trans rfl
              have hcz57_2 : w40.cell? ⟨gb152, 2, none⟩ = some (.int .i64 t150) := (blk_cell BK152.out 2).trans rfl
              have hfz57_0 := blk_frozen BK152.out 0
              have hfz57_1 := blk_frozen BK152.out 1
              have hfz57_2 := blk_frozen BK152.out 2
              go_wp2_with (first | (go_at_call 19; (with_reducible refine (cost_Within.calls t145 t146 t147 t148 t149 t150 t153 _ A43.out).mono ?_); rintro e w58 ⟨rfl, hb⟩; have n0_ := Aside0.mk (blk_below (g := gb139) (o := .cells #[.int .i64 a0_0, .int .i64 a0_1, .int .i64 a0_2, .int .i64 a0_3, .int .i64 a0_4] 23 (0, 0)) (by (with_reducible repeat (first | refine blk_drewN ?_ _ | refine blk_drew ?_ | refine blk_alloc ?_ _)); exact BK139.out) hb); have n1_ := Aside0.mk (blk_below (g := gb140) (o := .cells #[.int .i64 a1_0, .int .i64 a1_1, .int .i64 a1_2, .int .i64 a1_3, .int .i64 a1_4] 23 (0, 0)) (by (with_reducible repeat (first | refine blk_drewN ?_ _ | refine blk_drew ?_ | refine blk_alloc ?_ _)); exact BK140.out) hb); have n2_ := Aside0.mk (blk_below (g := gb141) (o := .cells #[.int .i64 a2_0, .string a2_1, .string a2_2, .int .i64 a2_3, .int .i64 a2_4, .int .i64 a2_5, .slice A2_6 l2_6.length c2_6] 30 (0, 0)) (by (with_reducible repeat (first | refine blk_drewN ?_ _ | refine blk_drew ?_ | refine blk_alloc ?_ _)); exact BK141.out) hb); have n3_ := Aside0.mk (blk_below (g := gb151) (o := .cells #[.int .i64 t145, .int .i64 t146, .int .i64 t147] 32 (0, 0)) (by (with_reducible repeat (first | refine blk_drewN ?_ _ | refine blk_drew ?_ | refine blk_alloc ?_ _)); exact BK151.out) hb); have n4_ := Aside0.mk (blk_below (g := gb152) (o := .cells #[.int .i64 t148, .int .i64 t149, .int .i64 t150] 32 (0, 0)) (by (with_reducible repeat (first | refine blk_drewN ?_ _ | refine blk_drew ?_ | refine blk_alloc ?_ _)); exact BK152.out) hb); have n5_ := Aside0.mk (below_step (by repeat (first | (with_reducible first | exact HB.out | apply below_alloc | apply pw_below_drewN | apply below_drew1 | refine below_set ?_ GE139.out | refine below_set ?_ GE140.out | refine below_set ?_ GE141.out | refine below_set ?_ GE151.out | refine below_set ?_ GE152.out) | exact HB.out)) hb); clear BK139; clear BK140; clear BK141; clear BK151; clear BK152; clear HB; have BK139 := n0_; have BK140 := n1_; have BK141 := n2_; have BK151 := n3_; have BK152 := n4_; have HB := n5_; clear n0_ n1_ n2_ n3_ n4_ n5_; (try clear hb); (try clear hb2); (try clear hk); (try clear hi)))
              go_meet
              case rel => exact ⟨_, (!t153), (by first | rfl | (simp; done) | (simp [*]; done)), H', ⟨by have := HJ4.out; first | omega | exact Nat.le_refl _⟩, ⟨by (with_reducible repeat (first | refine blk_drewN ?_ _ | refine blk_drew ?_ | refine blk_alloc ?_ _)); exact BK139.out⟩, ⟨by (with_reducible repeat (first | refine blk_drewN ?_ _ | refine blk_drew ?_ | refine blk_alloc ?_ _)); exact BK140.out⟩, ⟨by (with_reducible repeat (first | refine blk_drewN ?_ _ | refine blk_drew ?_ | refine blk_alloc ?_ _)); exact BK141.out⟩, ⟨by (with_reducible repeat (first | refine blk_drewN ?_ _ | refine blk_drew ?_ | refine blk_alloc ?_ _)); exact BK151.out⟩, ⟨by (with_reducible repeat (first | refine blk_drewN ?_ _ | refine blk_drew ?_ | refine blk_alloc ?_ _)); exact BK152.out⟩, ⟨by repeat (first | (with_reducible first | exact HB.out | apply below_alloc | apply pw_below_drewN | apply below_drew1 | refine below_set ?_ GE139.out | refine below_set ?_ GE140.out | refine below_set ?_ GE141.out | refine below_set ?_ GE151.out | refine below_set ?_ GE152.out) | exact HB.out)⟩⟩
            · rw [if_neg c42] at H
              have c42b0 : decide (a0_1 ≤ a1_1) = false := decide_eq_false c42
              clear c42
              have H' := Aside0.mk H
              clear H
              have hnb59 := NB139_140.out
              have hnc59 := NB140_139.out
              have hnb60 := NB139_141.out
              have hnc60 := NB141_139.out
              have hnb61 := NB139_151.out
              have hnc61 := NB151_139.out
              have hnb62 := NB139_152.out
              have hnc62 := NB152_139.out
              have hcz63_0 : w40.cell? ⟨gb139, 0, none⟩ = some (.int .i64 a0_0) := (blk_cell BK139.out 0).trans rfl
              have hcz63_1 : w40.cell? ⟨gb139, 1, none⟩ = some (.int .i64 a0_1) := (blk_cell BK139.out 1).trans rfl
              have hcz63_2 : w40.cell? ⟨gb139, 2, none⟩ = some (.int .i64 a0_2) := (blk_cell BK139.out 2).trans rfl
              have hcz63_3 : w40.cell? ⟨gb139, 3, none⟩ = some (.int .i64 a0_3) := (blk_cell BK139.out 3).trans rfl
              have hcz63_4 : w40.cell? ⟨gb139, 4, none⟩ = some (.int .i64 a0_4) := (blk_cell BK139.out 4).trans rfl
              have hfz63_0 := blk_frozen BK139.out 0
              have hfz63_1 := blk_frozen BK139.out 1
              have hfz63_2 := blk_frozen BK139.out 2
              have hfz63_3 := blk_frozen BK139.out 3
              have hfz63_4 := blk_frozen BK139.out 4
              have hnb64 := NB140_141.out
              have hnc64 := NB141_140.out
              have hnb65 := NB140_151.out
              have hnc65 := NB151_140.out
              have hnb66 := NB140_152.out
              have hnc66 := NB152_140.out
              have hcz67_0 : w40.cell? ⟨gb140, 0, none⟩ = some (.int .i64 a1_0) := (blk_cell BK140.out 0).trans rfl
              have hcz67_1 : w40.cell? ⟨gb140, 1, none⟩ = some (.int .i64 a1_1) := (blk_cell BK140.out 1).trans rfl
              have hcz67_2 : w40.cell? ⟨gb140, 2, none⟩ = some (.int .i64 a1_2) := (blk_cell BK140.out 2).trans rfl
              have hcz67_3 : w40.cell? ⟨gb140, 3, none⟩ = some (.int .i64 a1_3) := (blk_cell BK140.out 3).trans rfl
              have hcz67_4 : w40.cell? ⟨gb140, 4, none⟩ = some (.int .i64 a1_4) := (blk_cell BK140.out 4).trans rfl
              have hfz67_0 := blk_frozen BK140.out 0
              have hfz67_1 := blk_frozen BK140.out 1
              have hfz67_2 := blk_frozen BK140.out 2
              have hfz67_3 := blk_frozen BK140.out 3
              have hfz67_4 := blk_frozen BK140.out 4
              go_wp2
              go_meet
              case rel => exact ⟨_, (false), (by first | rfl | (simp; done) | (simp [*]; done)), H', ⟨by have := HJ4.out; first | omega | exact Nat.le_refl _⟩, ⟨by (with_reducible repeat (first | refine blk_drewN ?_ _ | refine blk_drew ?_ | refine blk_alloc ?_ _)); exact BK139.out⟩, ⟨by (with_reducible repeat (first | refine blk_drewN ?_ _ | refine blk_drew ?_ | refine blk_alloc ?_ _)); exact BK140.out⟩, ⟨by (with_reducible repeat (first | refine blk_drewN ?_ _ | refine blk_drew ?_ | refine blk_alloc ?_ _)); exact BK141.out⟩, ⟨by (with_reducible repeat (first | refine blk_drewN ?_ _ | refine blk_drew ?_ | refine blk_alloc ?_ _)); exact BK151.out⟩, ⟨by (with_reducible repeat (first | refine blk_drewN ?_ _ | refine blk_drew ?_ | refine blk_alloc ?_ _)); exact BK152.out⟩, ⟨by repeat (first | (with_reducible first | exact HB.out | apply below_alloc | apply pw_below_drewN | apply below_drew1 | refine below_set ?_ GE139.out | refine below_set ?_ GE140.out | refine below_set ?_ GE141.out | refine below_set ?_ GE151.out | refine below_set ?_ GE152.out) | exact HB.out)⟩⟩
          · rw [if_neg c41] at H
            have c41b0 : decide (a0_0 ≤ a1_0) = false := decide_eq_false c41
            clear c41
            (first | rw [c41b0] | (simp only [i64_w, i32_w]; rw [c41b0]) | skip)
            have H' := Aside0.mk H
            clear H
            have hnb68 := NB139_140.out
            have hnc68 := NB140_139.out
            have hnb69 := NB139_141.out
            have hnc69 := NB141_139.out
            have hnb70 := NB139_151.out
            have hnc70 := NB151_139.out
            have hnb71 := NB139_152.out
            have hnc71 := NB152_139.out
            have hcz72_0 : w40.cell? ⟨gb139, 0, none⟩ = some (.int .i64 a0_0) := (blk_cell BK139.out 0).trans rfl
            have hcz72_1 : w40.cell? ⟨gb139, 1, none⟩ = some (.int .i64 a0_1) := (blk_cell BK139.out 1).trans rfl
            have hcz72_2 : w40.cell? ⟨gb139, 2, none⟩ = some (.int .i64 a0_2) := (blk_cell BK139.out 2).trans rfl
            have hcz72_3 : w40.cell? ⟨gb139, 3, none⟩ = some (.int .i64 a0_3) := (blk_cell BK139.out 3).trans rfl
            have hcz72_4 : w40.cell? ⟨gb139, 4, none⟩ = some (.int .i64 a0_4) := (blk_cell BK139.out 4).trans rfl
            have hfz72_0 := blk_frozen BK139.out 0
            have hfz72_1 := blk_frozen BK139.out 1
            have hfz72_2 := blk_frozen BK139.out 2
            have hfz72_3 := blk_frozen BK139.out 3
            have hfz72_4 := blk_frozen BK139.out 4
            have hnb73 := NB140_141.out
            have hnc73 := NB141_140.out
            have hnb74 := NB140_151.out
            have hnc74 := NB151_140.out
            have hnb75 := NB140_152.out
            have hnc75 := NB152_140.out
            have hcz76_0 : w40.cell? ⟨gb140, 0, none⟩ = some (.int .i64 a1_0) := (blk_cell BK140.out 0).trans rfl
            have hcz76_1 : w40.cell? ⟨gb140, 1, none⟩ = some (.int .i64 a1_1) := (blk_cell BK140.out 1).trans rfl
            have hcz76_2 : w40.cell? ⟨gb140, 2, none⟩ = some (.int .i64 a1_2) := (blk_cell BK140.out 2).trans rfl
            have hcz76_3 : w40.cell? ⟨gb140, 3, none⟩ = some (.int .i64 a1_3) := (blk_cell BK140.out 3).trans rfl
            have hcz76_4 : w40.cell? ⟨gb140, 4, none⟩ = some (.int .i64 a1_4) := (blk_cell BK140.out 4).trans rfl
            have hfz76_0 := blk_frozen BK140.out 0
            have hfz76_1 := blk_frozen BK140.out 1
            have hfz76_2 := blk_frozen BK140.out 2
            have hfz76_3 := blk_frozen BK140.out 3
            have hfz76_4 := blk_frozen BK140.out 4
            go_wp2
            go_meet
            case rel => exact ⟨_, (false), (by first | rfl | (simp; done) | (simp [*]; done)), H', ⟨by have := HJ4.out; first | omega | exact Nat.le_refl _⟩, ⟨by (with_reducible repeat (first | refine blk_drewN ?_ _ | refine blk_drew ?_ | refine blk_alloc ?_ _)); exact BK139.out⟩, ⟨by (with_reducible repeat (first | refine blk_drewN ?_ _ | refine blk_drew ?_ | refine blk_alloc ?_ _)); exact BK140.out⟩, ⟨by (with_reducible repeat (first | refine blk_drewN ?_ _ | refine blk_drew ?_ | refine blk_alloc ?_ _)); exact BK141.out⟩, ⟨by (with_reducible repeat (first | refine blk_drewN ?_ _ | refine blk_drew ?_ | refine blk_alloc ?_ _)); exact BK151.out⟩, ⟨by (with_reducible repeat (first | refine blk_drewN ?_ _ | refine blk_drew ?_ | refine blk_alloc ?_ _)); exact BK152.out⟩, ⟨by repeat (first | (with_reducible first | exact HB.out | apply below_alloc | apply pw_below_drewN | apply below_drew1 | refine below_set ?_ GE139.out | refine below_set ?_ GE140.out | refine below_set ?_ GE141.out | refine below_set ?_ GE151.out | refine below_set ?_ GE152.out) | exact HB.out)⟩⟩
        case rest =>
          clear HC28
          try clear c1
          try clear c2
          try clear p2
          try clear c3
          try clear c4
          try clear c5
          try clear c6
          try clear p6
          try clear c7
          try clear c16
          try clear c41
          try clear c41b0
          try clear c42
          try clear c42b0
          try clear c44
          try clear c45
          try clear c46
          try clear c47
          try clear c49
          try clear c50
          try clear c51
          try clear c53
          try clear c54
          try clear c56
          try clear c59
          try clear c60
          try clear c61
          try clear c62
          try clear c64
          try clear p64
          try clear c65
          try clear c66
          try clear c68
          try clear c69
          try clear c70
          try clear c71
          try clear c73
          try clear c74
          try clear c75
          try clear hcz48_0
          try clear hcz48_1
          try clear hcz48_2
          try clear hcz48_3
          try clear hcz48_4
          try clear hcz52_0
          try clear hcz52_1
          try clear hcz52_2
          try clear hcz52_3
          try clear hcz52_4
          try clear hcz55_0
          try clear hcz55_1
          try clear hcz55_2
          try clear hcz57_0
          try clear hcz57_1
          try clear hcz57_2
          try clear hcz63_0
          try clear hcz63_1
          try clear hcz63_2
          try clear hcz63_3
          try clear hcz63_4
          try clear hcz67_0
          try clear hcz67_1
          try clear hcz67_2
          try clear hcz67_3
          try clear hcz67_4
          try clear hcz72_0
          try clear hcz72_1
          try clear hcz72_2
          try clear hcz72_3
          try clear hcz72_4
          try clear hcz76_0
          try clear hcz76_1
          try clear hcz76_2
          try clear hcz76_3
          try clear hcz76_4
          try clear hfz48_0
          try clear hfz48_1
          try clear hfz48_2
          try clear hfz48_3
          try clear hfz48_4
          try clear hfz52_0
          try clear hfz52_1
          try clear hfz52_2
          try clear hfz52_3
          try clear hfz52_4
          try clear hfz55_0
          try clear hfz55_1
          try clear hfz55_2
          try clear hfz57_0
          try clear hfz57_1
          try clear hfz57_2
          try clear hfz63_0
          try clear hfz63_1
          try clear hfz63_2
          try clear hfz63_3
          try clear hfz63_4
          try clear hfz67_0
          try clear hfz67_1
          try clear hfz67_2
          try clear hfz67_3
          try clear hfz67_4
          try clear hfz72_0
          try clear hfz72_1
          try clear hfz72_2
          try clear hfz72_3
          try clear hfz72_4
          try clear hfz76_0
          try clear hfz76_1
          try clear hfz76_2
          try clear hfz76_3
          try clear hfz76_4
          obtain ⟨kq, x49_27, rfl, HA, HJ27, BK139, BK140, BK141, BK151, BK152, HB⟩ := hcut
          cases kq with
          | zero => exact absurd HA.out (by simp [potsherdlaw24_CostHangs.j1])
          | succ kj27 =>
            have H := HA.out
            clear HA
            simp only [potsherdlaw24_CostHangs.j1] at H
            by_cases c77 : x49_27 = true
            · subst c77
              have H1 : (some false) = some true := by rw [if_pos rfl] at H; exact H
              clear H
              have H := H1
              clear H1
              exact absurd H (by simp)
            · replace c77 := Bool.eq_false_iff.mpr c77
              subst c77
              have H1 : ((cost_Call.f kj27 a0_0 a0_1 a1_2 a1_3 a1_4 a2_0 a2_1 a2_2 a2_3 a2_4 a2_5 l2_6 (wrap64 (Int.tmod (IntKind.u64.wrap (a3)) 8))).bind fun bt154 => (if (bt154.1 == t145 && (bt154.2.1 == t146 && (bt154.2.2 == t147))) = true then ((cost_Within.f t145 t146 t147 t145 t146 t147).bind fun t157 => (if t157 = true then ((cost_Less.f t145 t146 t147 t145 t146 t147).bind fun bt158 => (if (bt158.1 == 0 && (bt158.2.1 == 0 && (bt158.2.2 == 0))) = true then ((cost_Less.f t148 t149 t150 0 0 0).bind fun bt161 => ((cost_Within.f bt161.1 bt161.2.1 bt161.2.2 t148 t149 t150).bind fun t164 => (if t164 = true then ((potsherdlaw24_awake.f kj27).bind fun t165 => (some t165)) else (some false)))) else (some false))) else (some false))) else (some false))) = some true := by rw [if_neg (show ¬ (false = true) by decide)] at H; exact H
              clear H
              have H := H1
              clear H1
              replace H := Option.bind_eq_some_iff.mp H
              obtain ⟨⟨t154, t155, t156⟩, A780, H⟩ := H
              replace H : (if (t154 == t145 && (t155 == t146 && (t156 == t147))) = true then ((cost_Within.f t145 t146 t147 t145 t146 t147).bind fun t157 => (if t157 = true then ((cost_Less.f t145 t146 t147 t145 t146 t147).bind fun bt158 => (if (bt158.1 == 0 && (bt158.2.1 == 0 && (bt158.2.2 == 0))) = true then ((cost_Less.f t148 t149 t150 0 0 0).bind fun bt161 => ((cost_Within.f bt161.1 bt161.2.1 bt161.2.2 t148 t149 t150).bind fun t164 => (if t164 = true then ((potsherdlaw24_awake.f kj27).bind fun t165 => (some t165)) else (some false)))) else (some false))) else (some false))) else (some false)) = some true := H
              have A78 := Aside0.mk A780
              clear A780
              by_cases c79 : (t154 == t145 && (t155 == t146 && (t156 == t147))) = true
              · rw [if_pos c79] at H
                have c79b0 : (t154 == t145 && (t155 == t146 && (t156 == t147))) = true := c79
                (try (have c79b1 : decide (t154 = t145 && (t155 == t146 && (t156 == t147))) = true := by simpa using c79))
                (try (have c79b2 : (t154 == t145 && (t155 == t146 && (t156 == t147))) = true := by simpa using c79))
                clear c79
                replace H := Option.bind_eq_some_iff.mp H
                obtain ⟨t157, A800, H⟩ := H
                replace H : (if t157 = true then ((cost_Less.f t145 t146 t147 t145 t146 t147).bind fun bt158 => (if (bt158.1 == 0 && (bt158.2.1 == 0 && (bt158.2.2 == 0))) = true then ((cost_Less.f t148 t149 t150 0 0 0).bind fun bt161 => ((cost_Within.f bt161.1 bt161.2.1 bt161.2.2 t148 t149 t150).bind fun t164 => (if t164 = true then ((potsherdlaw24_awake.f kj27).bind fun t165 => (some t165)) else (some false)))) else (some false))) else (some false)) = some true := H
                have A80 := Aside0.mk A800
                clear A800
                by_cases c81 : t157 = true
                · subst c81
                  have H1 : ((cost_Less.f t145 t146 t147 t145 t146 t147).bind fun bt158 => (if (bt158.1 == 0 && (bt158.2.1 == 0 && (bt158.2.2 == 0))) = true then ((cost_Less.f t148 t149 t150 0 0 0).bind fun bt161 => ((cost_Within.f bt161.1 bt161.2.1 bt161.2.2 t148 t149 t150).bind fun t164 => (if t164 = true then ((potsherdlaw24_awake.f kj27).bind fun t165 => (some t165)) else (some false)))) else (some false))) = some true := by rw [if_pos rfl] at H; exact H
                  clear H
                  have H := H1
                  clear H1
                  replace H := Option.bind_eq_some_iff.mp H
                  obtain ⟨⟨t158, t159, t160⟩, A820, H⟩ := H
                  replace H : (if (t158 == 0 && (t159 == 0 && (t160 == 0))) = true then ((cost_Less.f t148 t149 t150 0 0 0).bind fun bt161 => ((cost_Within.f bt161.1 bt161.2.1 bt161.2.2 t148 t149 t150).bind fun t164 => (if t164 = true then ((potsherdlaw24_awake.f kj27).bind fun t165 => (some t165)) else (some false)))) else (some false)) = some true := H
                  have A82 := Aside0.mk A820
                  clear A820
                  by_cases c83 : (t158 == 0 && (t159 == 0 && (t160 == 0))) = true
                  · rw [if_pos c83] at H
                    have c83b0 : (t158 == 0 && (t159 == 0 && (t160 == 0))) = true := c83
                    (try (have c83b1 : decide (t158 = 0 && (t159 == 0 && (t160 == 0))) = true := by simpa using c83))
                    (try (have c83b2 : (t158 == 0 && (t159 == 0 && (t160 == 0))) = true := by simpa using c83))
                    clear c83
                    replace H := Option.bind_eq_some_iff.mp H
                    obtain ⟨⟨t161, t162, t163⟩, A840, H⟩ := H
                    replace H : ((cost_Within.f t161 t162 t163 t148 t149 t150).bind fun t164 => (if t164 = true then ((potsherdlaw24_awake.f kj27).bind fun t165 => (some t165)) else (some false))) = some true := H
                    have A84 := Aside0.mk A840
                    clear A840
                    replace H := Option.bind_eq_some_iff.mp H
                    obtain ⟨t164, A850, H⟩ := H
                    replace H : (if t164 = true then ((potsherdlaw24_awake.f kj27).bind fun t165 => (some t165)) else (some false)) = some true := H
                    have A85 := Aside0.mk A850
                    clear A850
                    by_cases c86 : t164 = true
                    · subst c86
                      have H1 : ((potsherdlaw24_awake.f kj27).bind fun t165 => (some t165)) = some true := by rw [if_pos rfl] at H; exact H
                      clear H
                      have H := H1
                      clear H1
                      replace H := Option.bind_eq_some_iff.mp H
                      obtain ⟨t165, A870, H⟩ := H
                      replace H : (some t165) = some true := H
                      have A87 := Aside0.mk A870
                      clear A870
                      have HRET := Aside0.mk (Option.some.inj H)
                      clear H
                      try go_wp2
                      have n0_ := Aside0.mk (blk_drew BK139.out)
                      have n1_ := Aside0.mk (blk_drew BK140.out)
                      have n2_ := Aside0.mk (blk_drew BK141.out)
                      have n3_ := Aside0.mk (blk_drew BK151.out)
                      have n4_ := Aside0.mk (blk_drew BK152.out)
                      have n5_ := Aside0.mk (below_drew1 HB.out)
                      clear BK139
                      clear BK140
                      clear BK141
                      clear BK151
                      clear BK152
                      clear HB
                      have BK139 := n0_
                      have BK140 := n1_
                      have BK141 := n2_
                      have BK151 := n3_
                      have BK152 := n4_
                      have HB := n5_
                      clear n0_ n1_ n2_ n3_ n4_ n5_
                      refine start_ (n := 8) (S := fun w' => w'.cell? ⟨gb139, 0, none⟩ = some (.int .i64 a0_0) ∧ w'.cell? ⟨gb139, 1, none⟩ = some (.int .i64 a0_1) ∧ w'.cell? ⟨gb139, 2, none⟩ = some (.int .i64 a0_2) ∧ w'.cell? ⟨gb139, 3, none⟩ = some (.int .i64 a0_3) ∧ w'.cell? ⟨gb139, 4, none⟩ = some (.int .i64 a0_4)) (ds := []) #[false, false, false, false, false, false, false, false] (by kernel_rfl) rfl rfl ⟨(blk_cell BK139.out 0).trans rfl, (blk_cell BK139.out 1).trans rfl, (blk_cell BK139.out 2).trans rfl, (blk_cell BK139.out 3).trans rfl, (blk_cell BK139.out 4).trans rfl⟩ (fun hHeld => ?_); refine with_tabW potsherdlaw24_CostHangs.tab7 potsherdlaw24_CostHangs.bits7 (fun HT_ HW_ => ?_)
                      generalize wc.drew = w88 at BK139 BK140 BK141 BK151 BK152 HB hHeld ⊢
                      refine pure_ (i := 0) (N := some 50) (v := ?_) (a' := ?_) #[true, false, false, false, false, false, false, false] rfl rfl (any_of HT_.out (by kernel_rfl)) (fun _ _ _ h => h) (Or.inl ⟨by rfl, ?_⟩) ?_ ?_
                      rotate_left
                      · intro w'
                        go_simp
                        with_reducible rfl
                      rotate_left
                      · simp only [Act.put, List.setIfInBounds_toArray, List.set_cons_zero, List.set_cons_succ, i64_w, i32_w]
                        rfl
                      refine pure_ (i := 2) (N := some 52) (v := ?_) (a' := ?_) #[true, false, true, false, false, false, false, false] rfl rfl (any_of HT_.out (by kernel_rfl)) (fun _ _ _ h => h) (Or.inl ⟨by rfl, ?_⟩) ?_ ?_
                      rotate_left
                      · intro w'
                        go_simp
                        with_reducible rfl
                      rotate_left
                      · simp only [Act.put, List.setIfInBounds_toArray, List.set_cons_zero, List.set_cons_succ, i64_w, i32_w]
                        rfl
                      refine take_ (i := 1) (N := some 51) (v := ?_) (a' := ?_) #[true, true, true, false, false, false, false, false] rfl rfl (take_ofW HT_.out HW_.out (by kernel_rfl)) (fun _ _ _ h => h) (Or.inl ⟨by rfl, ?_⟩) hHeld ?_ ?_
                      rotate_left
                      · rintro w' ⟨s0, s1, s2, s3, s4⟩
                        go_simp
                        with_reducible rfl
                      rotate_left
                      · simp only [Act.put, List.setIfInBounds_toArray, List.set_cons_zero, List.set_cons_succ, i64_w, i32_w]
                        rfl
                      refine pure_ (i := 4) (N := some 54) (v := ?_) (a' := ?_) #[true, true, true, false, true, false, false, false] rfl rfl (any_of HT_.out (by kernel_rfl)) (fun _ _ _ h => h) (Or.inl ⟨by rfl, ?_⟩) ?_ ?_
                      rotate_left
                      · intro w'
                        go_simp
                        with_reducible rfl
                      rotate_left
                      · simp only [Act.put, List.setIfInBounds_toArray, List.set_cons_zero, List.set_cons_succ, i64_w, i32_w]
                        rfl
                      refine take_ (i := 3) (N := some 53) (v := ?_) (a' := ?_) #[true, true, true, true, true, false, false, false] rfl rfl (take_ofW HT_.out HW_.out (by kernel_rfl)) (fun _ _ _ h => h) (Or.inl ⟨by rfl, ?_⟩) hHeld ?_ ?_
                      rotate_left
                      · rintro w' ⟨s0, s1, s2, s3, s4⟩
                        go_simp
                        with_reducible rfl
                      rotate_left
                      · simp only [Act.put, List.setIfInBounds_toArray, List.set_cons_zero, List.set_cons_succ, i64_w, i32_w]
                        rfl
                      refine one_ (i := 5) (N := none) #[true, true, true, true, true, true, false, false] rfl rfl (one_of HT_.out (by kernel_rfl)) (by decide) (fun K hK => ?_)
                      have hs89 : w88.cell? ⟨gb140, 0, none⟩ = some (.int .i64 a1_0) := (blk_cell BK140.out 0).trans rfl
                      have hfs89 := blk_frozen BK140.out 0
                      have hns89_0 := NB139_140.out
                      have hns89_2 := NB141_140.out
                      have hns89_3 := NB151_140.out
                      have hns89_4 := NB152_140.out
                      have hms89_0 := NB140_139.out
                      have hms89_2 := NB140_141.out
                      have hms89_3 := NB140_151.out
                      have hms89_4 := NB140_152.out
                      refine skip_ (w1 := ?_) (by rfl) rfl ?_ ?_
                      rotate_left
                      · go_simp
                        rfl
                      refine hK.out _ _ ⟨((cell_far (p := ⟨gb140, _, none⟩) NB139_140.out _).trans (hHeld.1)), ((cell_far (p := ⟨gb140, _, none⟩) NB139_140.out _).trans (hHeld.2.1)), ((cell_far (p := ⟨gb140, _, none⟩) NB139_140.out _).trans (hHeld.2.2.1)), ((cell_far (p := ⟨gb140, _, none⟩) NB139_140.out _).trans (hHeld.2.2.2.1)), ((cell_far (p := ⟨gb140, _, none⟩) NB139_140.out _).trans (hHeld.2.2.2.2))⟩ (fun hHeld => ?_)
                      clear hK K
                      refine pure_ (i := 6) (N := some 55) (v := ?_) (a' := ?_) #[true, true, true, true, true, true, true, false] rfl rfl (any_of HT_.out (by kernel_rfl)) (fun _ _ _ h => h) (Or.inl ⟨by rfl, ?_⟩) ?_ ?_
                      rotate_left
                      · intro w'
                        go_simp
                        with_reducible rfl
                      rotate_left
                      · simp only [Act.put, List.setIfInBounds_toArray, List.set_cons_zero, List.set_cons_succ, i64_w, i32_w]
                        rfl
                      refine one_ (i := 7) (N := none) #[true, true, true, true, true, true, true, true] rfl rfl (one_of HT_.out (by kernel_rfl)) (by decide) (fun K hK => ?_)
                      have hs90 : w88.cell? ⟨gb140, 1, none⟩ = some (.int .i64 a1_1) := (blk_cell BK140.out 1).trans rfl
                      have hfs90 := blk_frozen BK140.out 1
                      have hns90_0 := NB139_140.out
                      have hns90_2 := NB141_140.out
                      have hns90_3 := NB151_140.out
                      have hns90_4 := NB152_140.out
                      have hms90_0 := NB140_139.out
                      have hms90_2 := NB140_141.out
                      have hms90_3 := NB140_151.out
                      have hms90_4 := NB140_152.out
                      refine skip_ (w1 := ?_) (by rfl) rfl ?_ ?_
                      rotate_left
                      · go_simp
                        rfl
                      refine hK.out _ _ ⟨((cell_far (p := ⟨gb140, _, none⟩) NB139_140.out _).trans (hHeld.1)), ((cell_far (p := ⟨gb140, _, none⟩) NB139_140.out _).trans (hHeld.2.1)), ((cell_far (p := ⟨gb140, _, none⟩) NB139_140.out _).trans (hHeld.2.2.1)), ((cell_far (p := ⟨gb140, _, none⟩) NB139_140.out _).trans (hHeld.2.2.2.1)), ((cell_far (p := ⟨gb140, _, none⟩) NB139_140.out _).trans (hHeld.2.2.2.2))⟩ (fun hHeld => ?_)
                      clear hK K
                      refine done_ (done_of HT_.out (by kernel_rfl)) ?_
                      try go_wp2
                      have n0_ : Aside0 (((w88.setCell ⟨gb140, 0, none⟩ (.int .i64 a0_0)).setCell ⟨gb140, 1, none⟩ (.int .i64 a0_1)).heap[gb139]? = some (.cells #[.int .i64 a0_0, .int .i64 a0_1, .int .i64 a0_2, .int .i64 a0_3, .int .i64 a0_4] 23 (0, 0))) := ⟨by (with_reducible repeat (first | refine blk_drewN ?_ _ | refine blk_drew ?_ | refine blk_alloc ?_ _)); refine blk_far ?_ NB139_140.out _; (with_reducible repeat (first | refine blk_drewN ?_ _ | refine blk_drew ?_ | refine blk_alloc ?_ _)); refine blk_far ?_ NB139_140.out _; (with_reducible repeat (first | refine blk_drewN ?_ _ | refine blk_drew ?_ | refine blk_alloc ?_ _)); exact BK139.out⟩
                      have n1_ : Aside0 (((w88.setCell ⟨gb140, 0, none⟩ (.int .i64 a0_0)).setCell ⟨gb140, 1, none⟩ (.int .i64 a0_1)).heap[gb140]? = some (.cells #[.int .i64 a0_0, .int .i64 a0_1, .int .i64 a1_2, .int .i64 a1_3, .int .i64 a1_4] 23 (0, 0))) := ⟨by (with_reducible repeat (first | refine blk_drewN ?_ _ | refine blk_drew ?_ | refine blk_alloc ?_ _)); refine blk_put (cs := #[.int .i64 a0_0, .int .i64 a1_1, .int .i64 a1_2, .int .i64 a1_3, .int .i64 a1_4]) ?_ 1 _ rfl; (with_reducible repeat (first | refine blk_drewN ?_ _ | refine blk_drew ?_ | refine blk_alloc ?_ _)); refine blk_put (cs := #[.int .i64 a1_0, .int .i64 a1_1, .int .i64 a1_2, .int .i64 a1_3, .int .i64 a1_4]) ?_ 0 _ rfl; (with_reducible repeat (first | refine blk_drewN ?_ _ | refine blk_drew ?_ | refine blk_alloc ?_ _)); exact BK140.out⟩
                      have n2_ : Aside0 (((w88.setCell ⟨gb140, 0, none⟩ (.int .i64 a0_0)).setCell ⟨gb140, 1, none⟩ (.int .i64 a0_1)).heap[gb141]? = some (.cells #[.int .i64 a2_0, .string a2_1, .string a2_2, .int .i64 a2_3, .int .i64 a2_4, .int .i64 a2_5, .slice A2_6 l2_6.length c2_6] 30 (0, 0))) := ⟨by (with_reducible repeat (first | refine blk_drewN ?_ _ | refine blk_drew ?_ | refine blk_alloc ?_ _)); refine blk_far ?_ NB141_140.out _; (with_reducible repeat (first | refine blk_drewN ?_ _ | refine blk_drew ?_ | refine blk_alloc ?_ _)); refine blk_far ?_ NB141_140.out _; (with_reducible repeat (first | refine blk_drewN ?_ _ | refine blk_drew ?_ | refine blk_alloc ?_ _)); exact BK141.out⟩
                      have n3_ : Aside0 (((w88.setCell ⟨gb140, 0, none⟩ (.int .i64 a0_0)).setCell ⟨gb140, 1, none⟩ (.int .i64 a0_1)).heap[gb151]? = some (.cells #[.int .i64 t145, .int .i64 t146, .int .i64 t147] 32 (0, 0))) := ⟨by (with_reducible repeat (first | refine blk_drewN ?_ _ | refine blk_drew ?_ | refine blk_alloc ?_ _)); refine blk_far ?_ NB151_140.out _; (with_reducible repeat (first | refine blk_drewN ?_ _ | refine blk_drew ?_ | refine blk_alloc ?_ _)); refine blk_far ?_ NB151_140.out _; (with_reducible repeat (first | refine blk_drewN ?_ _ | refine blk_drew ?_ | refine blk_alloc ?_ _)); exact BK151.out⟩
                      have n4_ : Aside0 (((w88.setCell ⟨gb140, 0, none⟩ (.int .i64 a0_0)).setCell ⟨gb140, 1, none⟩ (.int .i64 a0_1)).heap[gb152]? = some (.cells #[.int .i64 t148, .int .i64 t149, .int .i64 t150] 32 (0, 0))) := ⟨by (with_reducible repeat (first | refine blk_drewN ?_ _ | refine blk_drew ?_ | refine blk_alloc ?_ _)); refine blk_far ?_ NB152_140.out _; (with_reducible repeat (first | refine blk_drewN ?_ _ | refine blk_drew ?_ | refine blk_alloc ?_ _)); refine blk_far ?_ NB152_140.out _; (with_reducible repeat (first | refine blk_drewN ?_ _ | refine blk_drew ?_ | refine blk_alloc ?_ _)); exact BK152.out⟩
                      have n5_ : Aside0 (Below w.heap.size w ((w88.setCell ⟨gb140, 0, none⟩ (.int .i64 a0_0)).setCell ⟨gb140, 1, none⟩ (.int .i64 a0_1))) := ⟨by repeat (first | (with_reducible first | exact HB.out | apply below_alloc | apply pw_below_drewN | apply below_drew1 | refine below_set ?_ GE139.out | refine below_set ?_ GE140.out | refine below_set ?_ GE141.out | refine below_set ?_ GE151.out | refine below_set ?_ GE152.out) | exact HB.out)⟩
                      (try clear BK139)
                      (try clear BK140)
                      (try clear BK141)
                      (try clear BK151)
                      (try clear BK152)
                      (try clear HB)
                      generalize ((w88.setCell ⟨gb140, 0, none⟩ (.int .i64 a0_0)).setCell ⟨gb140, 1, none⟩ (.int .i64 a0_1)) = w91 at n0_ n1_ n2_ n3_ n4_ n5_ ⊢
                      have BK139 := n0_
                      have BK140 := n1_
                      have BK141 := n2_
                      have BK151 := n3_
                      have BK152 := n4_
                      have HB := n5_
                      clear n0_ n1_ n2_ n3_ n4_ n5_
                      have n0_ := Aside0.mk (blk_drew BK139.out)
                      have n1_ := Aside0.mk (blk_drew BK140.out)
                      have n2_ := Aside0.mk (blk_drew BK141.out)
                      have n3_ := Aside0.mk (blk_drew BK151.out)
                      have n4_ := Aside0.mk (blk_drew BK152.out)
                      have n5_ := Aside0.mk (below_drew1 HB.out)
                      clear BK139
                      clear BK140
                      clear BK141
                      clear BK151
                      clear BK152
                      clear HB
                      have BK139 := n0_
                      have BK140 := n1_
                      have BK141 := n2_
                      have BK151 := n3_
                      have BK152 := n4_
                      have HB := n5_
                      clear n0_ n1_ n2_ n3_ n4_ n5_
                      refine start_ (n := 29) (S := fun w' => w'.cell? ⟨gb140, 0, none⟩ = some (.int .i64 a0_0) ∧ w'.cell? ⟨gb140, 1, none⟩ = some (.int .i64 a0_1) ∧ w'.cell? ⟨gb140, 2, none⟩ = some (.int .i64 a1_2) ∧ w'.cell? ⟨gb140, 3, none⟩ = some (.int .i64 a1_3) ∧ w'.cell? ⟨gb140, 4, none⟩ = some (.int .i64 a1_4) ∧ w'.cell? ⟨gb141, 0, none⟩ = some (.int .i64 a2_0) ∧ w'.cell? ⟨gb141, 1, none⟩ = some (.string a2_1) ∧ w'.cell? ⟨gb141, 2, none⟩ = some (.string a2_2) ∧ w'.cell? ⟨gb141, 3, none⟩ = some (.int .i64 a2_3) ∧ w'.cell? ⟨gb141, 4, none⟩ = some (.int .i64 a2_4) ∧ w'.cell? ⟨gb141, 5, none⟩ = some (.int .i64 a2_5) ∧ w'.cell? ⟨gb141, 6, none⟩ = some (.slice A2_6 l2_6.length c2_6) ∧ w'.cell? ⟨gb151, 0, none⟩ = some (.int .i64 t145) ∧ w'.cell? ⟨gb151, 1, none⟩ = some (.int .i64 t146) ∧ w'.cell? ⟨gb151, 2, none⟩ = some (.int .i64 t147) ∧ w'.cell? ⟨gb152, 0, none⟩ = some (.int .i64 t148) ∧ w'.cell? ⟨gb152, 1, none⟩ = some (.int .i64 t149) ∧ w'.cell? ⟨gb152, 2, none⟩ = some (.int .i64 t150)) (ds := []) #[false, false, false, false, false, false, false, false, false, false, false, false, false, false, false, false, false, false, false, false, false, false, false, false, false, false, false, false, false] (by kernel_rfl) rfl rfl ⟨(blk_cell BK140.out 0).trans rfl, (blk_cell BK140.out 1).trans rfl, (blk_cell BK140.out 2).trans rfl, (blk_cell BK140.out 3).trans rfl, (blk_cell BK140.out 4).trans rfl, (blk_cell BK141.out 0).trans rfl, (blk_cell BK141.out 1).trans rfl, (blk_cell BK141.out 2).trans rfl, (blk_cell BK141.out 3).trans rfl, (blk_cell BK141.out 4).trans rfl, (blk_cell BK141.out 5).trans rfl, (blk_cell BK141.out 6).trans rfl, (blk_cell BK151.out 0).trans rfl, (blk_cell BK151.out 1).trans rfl, (blk_cell BK151.out 2).trans rfl, (blk_cell BK152.out 0).trans rfl, (blk_cell BK152.out 1).trans rfl, (blk_cell BK152.out 2).trans rfl⟩ (fun hHeld => ?_); refine with_tabW potsherdlaw24_CostHangs.tab8 potsherdlaw24_CostHangs.bits8 (fun HT_ HW_ => ?_)
                      generalize w91.drew = w92 at BK139 BK140 BK141 BK151 BK152 HB hHeld ⊢
                      refine pure_ (i := 2) (N := some 58) (v := ?_) (a' := ?_) #[false, false, true, false, false, false, false, false, false, false, false, false, false, false, false, false, false, false, false, false, false, false, false, false, false, false, false, false, false] rfl rfl (any_of HT_.out (by kernel_rfl)) (fun _ _ _ h => h) (Or.inl ⟨by rfl, ?_⟩) ?_ ?_
                      rotate_left
                      · intro w'
                        go_simp
                        with_reducible rfl
                      rotate_left
                      · simp only [Act.put, List.setIfInBounds_toArray, List.set_cons_zero, List.set_cons_succ, i64_w, i32_w]
                        rfl
                      refine take_ (i := 0) (N := some 56) (v := ?_) (a' := ?_) #[true, false, true, false, false, false, false, false, false, false, false, false, false, false, false, false, false, false, false, false, false, false, false, false, false, false, false, false, false] rfl rfl (take_ofW HT_.out HW_.out (by kernel_rfl)) (fun _ _ _ h => h) (Or.inl ⟨by rfl, ?_⟩) hHeld ?_ ?_
                      rotate_left
                      · rintro w' ⟨s0, s1, s2, s3, s4, s5, s6, s7, s8, s9, s10, s11, s12, s13, s14, s15, s16, s17⟩
                        go_simp
                        with_reducible rfl
                      rotate_left
                      · simp only [Act.put, List.setIfInBounds_toArray, List.set_cons_zero, List.set_cons_succ, i64_w, i32_w]
                        rfl
                      refine take_ (i := 1) (N := some 57) (v := ?_) (a' := ?_) #[true, true, true, false, false, false, false, false, false, false, false, false, false, false, false, false, false, false, false, false, false, false, false, false, false, false, false, false, false] rfl rfl (take_ofW HT_.out HW_.out (by kernel_rfl)) (fun _ _ _ h => h) (Or.inl ⟨by rfl, ?_⟩) hHeld ?_ ?_
                      rotate_left
                      · rintro w' ⟨s0, s1, s2, s3, s4, s5, s6, s7, s8, s9, s10, s11, s12, s13, s14, s15, s16, s17⟩
                        go_simp
                        with_reducible rfl
                      rotate_left
                      · simp only [Act.put, List.setIfInBounds_toArray, List.set_cons_zero, List.set_cons_succ, i64_w, i32_w]
                        rfl
                      refine take_ (i := 4) (N := some 60) (v := ?_) (a' := ?_) #[true, true, true, false, true, false, false, false, false, false, false, false, false, false, false, false, false, false, false, false, false, false, false, false, false, false, false, false, false] rfl rfl (take_ofW HT_.out HW_.out (by kernel_rfl)) (fun _ _ _ h => h) (Or.inl ⟨by rfl, ?_⟩) hHeld ?_ ?_
                      rotate_left
                      · rintro w' ⟨s0, s1, s2, s3, s4, s5, s6, s7, s8, s9, s10, s11, s12, s13, s14, s15, s16, s17⟩
                        go_simp
                        with_reducible rfl
                      rotate_left
                      · simp only [Act.put, List.setIfInBounds_toArray, List.set_cons_zero, List.set_cons_succ, i64_w, i32_w]
                        rfl
                      refine one_ (i := 3) (N := some 59) #[true, true, true, true, true, false, false, false, false, false, false, false, false, false, false, false, false, false, false, false, false, false, false, false, false, false, false, false, false] rfl rfl (one_of HT_.out (by kernel_rfl)) (by decide) (fun K hK => ?_)
                      refine goes_ Try.func16 (by kernel_rfl) rfl #[.agg #[.int .i64 a0_0, .int .i64 a0_1, .int .i64 a1_2, .int .i64 a1_3, .int .i64 a1_4], .agg #[.int .i64 a2_0, .string a2_1, .string a2_2, .int .i64 a2_3, .int .i64 a2_4, .int .i64 a2_5, .slice A2_6 l2_6.length c2_6], .int .i64 (wrap64 (Int.tmod (IntKind.u64.wrap (a3)) 8))] (by rfl) rfl rfl (by (try simp only [List.map_toArray, List.map_cons, List.map_nil]); first | done | rfl | (simp only [List.length_drop, List.length_take]; rfl)) ?_
                      with_reducible refine (cost_Call.calls kj27 a0_0 a0_1 a1_2 a1_3 a1_4 a2_0 a2_1 a2_2 a2_3 a2_4 a2_5 _ _ l2_6 (wrap64 (Int.tmod (IntKind.u64.wrap (a3)) 8)) t154 t155 t156 _ ?side1 ?side2 A78.out).mono ?_
                      (case side1 => repeat (first | exact (Kd.C_below HR2_6.out HB.out) | (with_reducible refine Kd.C_alloc ?_ _) | (with_reducible refine Kd.C_drewN ?_ _) | (with_reducible refine Kd.C_drew ?_)))
                      (case side2 => exact HC2_6.out)
                      rintro e w93 ⟨rfl, hb⟩
                      refine ⟨_, rfl, ?_⟩
                      have n0_ := Aside0.mk (blk_below (g := gb139) (o := .cells #[.int .i64 a0_0, .int .i64 a0_1, .int .i64 a0_2, .int .i64 a0_3, .int .i64 a0_4] 23 (0, 0)) (by (with_reducible repeat (first | refine blk_drewN ?_ _ | refine blk_drew ?_ | refine blk_alloc ?_ _)); exact BK139.out) hb)
                      have n1_ := Aside0.mk (blk_below (g := gb140) (o := .cells #[.int .i64 a0_0, .int .i64 a0_1, .int .i64 a1_2, .int .i64 a1_3, .int .i64 a1_4] 23 (0, 0)) (by (with_reducible repeat (first | refine blk_drewN ?_ _ | refine blk_drew ?_ | refine blk_alloc ?_ _)); exact BK140.out) hb)
                      have n2_ := Aside0.mk (blk_below (g := gb141) (o := .cells #[.int .i64 a2_0, .string a2_1, .string a2_2, .int .i64 a2_3, .int .i64 a2_4, .int .i64 a2_5, .slice A2_6 l2_6.length c2_6] 30 (0, 0)) (by (with_reducible repeat (first | refine blk_drewN ?_ _ | refine blk_drew ?_ | refine blk_alloc ?_ _)); exact BK141.out) hb)
                      have n3_ := Aside0.mk (blk_below (g := gb151) (o := .cells #[.int .i64 t145, .int .i64 t146, .int .i64 t147] 32 (0, 0)) (by (with_reducible repeat (first | refine blk_drewN ?_ _ | refine blk_drew ?_ | refine blk_alloc ?_ _)); exact BK151.out) hb)
                      have n4_ := Aside0.mk (blk_below (g := gb152) (o := .cells #[.int .i64 t148, .int .i64 t149, .int .i64 t150] 32 (0, 0)) (by (with_reducible repeat (first | refine blk_drewN ?_ _ | refine blk_drew ?_ | refine blk_alloc ?_ _)); exact BK152.out) hb)
                      have n5_ := Aside0.mk (below_step (by repeat (first | (with_reducible first | exact HB.out | apply below_alloc | apply pw_below_drewN | apply below_drew1 | refine below_set ?_ GE139.out | refine below_set ?_ GE140.out | refine below_set ?_ GE141.out | refine below_set ?_ GE151.out | refine below_set ?_ GE152.out) | exact HB.out)) hb)
                      clear BK139
                      clear BK140
                      clear BK141
                      clear BK151
                      clear BK152
                      clear HB
                      have BK139 := n0_
                      have BK140 := n1_
                      have BK141 := n2_
                      have BK151 := n3_
                      have BK152 := n4_
                      have HB := n5_
                      clear n0_ n1_ n2_ n3_ n4_ n5_
                      (try clear hb)
                      (try clear hb2)
                      (try clear hk)
                      (try clear hi)
                      refine hK.out _ _ ⟨(blk_cell BK140.out 0).trans rfl, (blk_cell BK140.out 1).trans rfl, (blk_cell BK140.out 2).trans rfl, (blk_cell BK140.out 3).trans rfl, (blk_cell BK140.out 4).trans rfl, (blk_cell BK141.out 0).trans rfl, (blk_cell BK141.out 1).trans rfl, (blk_cell BK141.out 2).trans rfl, (blk_cell BK141.out 3).trans rfl, (blk_cell BK141.out 4).trans rfl, (blk_cell BK141.out 5).trans rfl, (blk_cell BK141.out 6).trans rfl, (blk_cell BK151.out 0).trans rfl, (blk_cell BK151.out 1).trans rfl, (blk_cell BK151.out 2).trans rfl, (blk_cell BK152.out 0).trans rfl, (blk_cell BK152.out 1).trans rfl, (blk_cell BK152.out 2).trans rfl⟩ (fun hHeld => ?_)
                      clear hK K
                      refine norm_ (a' := ?_) ?_ ?_
                      rotate_left
                      · show Act.put _ (some 59) _ = _
                        simp only [Act.put, List.setIfInBounds_toArray, List.set_cons_zero, List.set_cons_succ, i64_w, i32_w]
                        rfl
                      refine pure_ (i := 5) (N := some 61) (v := ?_) (a' := ?_) #[true, true, true, true, true, true, false, false, false, false, false, false, false, false, false, false, false, false, false, false, false, false, false, false, false, false, false, false, false] rfl rfl (any_of HT_.out (by kernel_rfl)) (fun _ _ _ h => h) (Or.inl ⟨by rfl, ?_⟩) ?_ ?_
                      rotate_left
                      · intro w'
                        go_simp
                        with_reducible rfl
                      rotate_left
                      · simp only [Act.put, List.setIfInBounds_toArray, List.set_cons_zero, List.set_cons_succ, i64_w, i32_w]
                        rfl
                      refine pure_ (i := 6) (N := some 62) (v := ?_) (a' := ?_) #[true, true, true, true, true, true, true, false, false, false, false, false, false, false, false, false, false, false, false, false, false, false, false, false, false, false, false, false, false] rfl rfl (any_of HT_.out (by kernel_rfl)) (fun _ _ _ h => h) (Or.inl ⟨by rfl, ?_⟩) ?_ ?_
                      rotate_left
                      · intro w'
                        go_simp
                        with_reducible rfl
                      rotate_left
                      · simp only [Act.put, List.setIfInBounds_toArray, List.set_cons_zero, List.set_cons_succ, i64_w, i32_w]
                        rfl
                      refine take_ (i := 7) (N := some 63) (v := ?_) (a' := ?_) #[true, true, true, true, true, true, true, true, false, false, false, false, false, false, false, false, false, false, false, false, false, false, false, false, false, false, false, false, false] rfl rfl (take_ofW HT_.out HW_.out (by kernel_rfl)) (fun _ _ _ h => h) (Or.inl ⟨by rfl, ?_⟩) hHeld ?_ ?_
                      rotate_left
                      · rintro w' ⟨s0, s1, s2, s3, s4, s5, s6, s7, s8, s9, s10, s11, s12, s13, s14, s15, s16, s17⟩
                        go_simp
                        with_reducible rfl
                      rotate_left
                      · simp only [Act.put, List.setIfInBounds_toArray, List.set_cons_zero, List.set_cons_succ, i64_w, i32_w]
                        rfl
                      refine take_ (i := 8) (N := some 64) (v := ?_) (a' := ?_) #[true, true, true, true, true, true, true, true, true, false, false, false, false, false, false, false, false, false, false, false, false, false, false, false, false, false, false, false, false] rfl rfl (take_ofW HT_.out HW_.out (by kernel_rfl)) (fun _ _ _ h => h) (Or.inl ⟨by rfl, ?_⟩) hHeld ?_ ?_
                      rotate_left
                      · rintro w' ⟨s0, s1, s2, s3, s4, s5, s6, s7, s8, s9, s10, s11, s12, s13, s14, s15, s16, s17⟩
                        go_simp
                        with_reducible rfl
                      rotate_left
                      · simp only [Act.put, List.setIfInBounds_toArray, List.set_cons_zero, List.set_cons_succ, i64_w, i32_w]
                        rfl
                      refine one_ (i := 9) (N := some 65) #[true, true, true, true, true, true, true, true, true, true, false, false, false, false, false, false, false, false, false, false, false, false, false, false, false, false, false, false, false] rfl rfl (one_of HT_.out (by kernel_rfl)) (by decide) (fun K hK => ?_)
                      refine goes_ Try.func19 (by kernel_rfl) rfl #[.agg #[.int .i64 t145, .int .i64 t146, .int .i64 t147], .agg #[.int .i64 t145, .int .i64 t146, .int .i64 t147]] (by rfl) rfl rfl (by (try simp only [List.map_toArray, List.map_cons, List.map_nil]); first | done | rfl | (simp only [List.length_drop, List.length_take]; rfl)) ?_
                      with_reducible refine (cost_Within.calls t145 t146 t147 t145 t146 t147 true _ A80.out).mono ?_
                      rintro e w94 ⟨rfl, hb⟩
                      refine ⟨_, rfl, ?_⟩
                      have n0_ := Aside0.mk (blk_below (g := gb139) (o := .cells #[.int .i64 a0_0, .int .i64 a0_1, .int .i64 a0_2, .int .i64 a0_3, .int .i64 a0_4] 23 (0, 0)) (by (with_reducible repeat (first | refine blk_drewN ?_ _ | refine blk_drew ?_ | refine blk_alloc ?_ _)); exact BK139.out) hb)
                      have n1_ := Aside0.mk (blk_below (g := gb140) (o := .cells #[.int .i64 a0_0, .int .i64 a0_1, .int .i64 a1_2, .int .i64 a1_3, .int .i64 a1_4] 23 (0, 0)) (by (with_reducible repeat (first | refine blk_drewN ?_ _ | refine blk_drew ?_ | refine blk_alloc ?_ _)); exact BK140.out) hb)
                      have n2_ := Aside0.mk (blk_below (g := gb141) (o := .cells #[.int .i64 a2_0, .string a2_1, .string a2_2, .int .i64 a2_3, .int .i64 a2_4, .int .i64 a2_5, .slice A2_6 l2_6.length c2_6] 30 (0, 0)) (by (with_reducible repeat (first | refine blk_drewN ?_ _ | refine blk_drew ?_ | refine blk_alloc ?_ _)); exact BK141.out) hb)
                      have n3_ := Aside0.mk (blk_below (g := gb151) (o := .cells #[.int .i64 t145, .int .i64 t146, .int .i64 t147] 32 (0, 0)) (by (with_reducible repeat (first | refine blk_drewN ?_ _ | refine blk_drew ?_ | refine blk_alloc ?_ _)); exact BK151.out) hb)
                      have n4_ := Aside0.mk (blk_below (g := gb152) (o := .cells #[.int .i64 t148, .int .i64 t149, .int .i64 t150] 32 (0, 0)) (by (with_reducible repeat (first | refine blk_drewN ?_ _ | refine blk_drew ?_ | refine blk_alloc ?_ _)); exact BK152.out) hb)
                      have n5_ := Aside0.mk (below_step (by repeat (first | (with_reducible first | exact HB.out | apply below_alloc | apply pw_below_drewN | apply below_drew1 | refine below_set ?_ GE139.out | refine below_set ?_ GE140.out | refine below_set ?_ GE141.out | refine below_set ?_ GE151.out | refine below_set ?_ GE152.out) | exact HB.out)) hb)
                      clear BK139
                      clear BK140
                      clear BK141
                      clear BK151
                      clear BK152
                      clear HB
                      have BK139 := n0_
                      have BK140 := n1_
                      have BK141 := n2_
                      have BK151 := n3_
                      have BK152 := n4_
                      have HB := n5_
                      clear n0_ n1_ n2_ n3_ n4_ n5_
                      (try clear hb)
                      (try clear hb2)
                      (try clear hk)
                      (try clear hi)
                      refine hK.out _ _ ⟨(blk_cell BK140.out 0).trans rfl, (blk_cell BK140.out 1).trans rfl, (blk_cell BK140.out 2).trans rfl, (blk_cell BK140.out 3).trans rfl, (blk_cell BK140.out 4).trans rfl, (blk_cell BK141.out 0).trans rfl, (blk_cell BK141.out 1).trans rfl, (blk_cell BK141.out 2).trans rfl, (blk_cell BK141.out 3).trans rfl, (blk_cell BK141.out 4).trans rfl, (blk_cell BK141.out 5).trans rfl, (blk_cell BK141.out 6).trans rfl, (blk_cell BK151.out 0).trans rfl, (blk_cell BK151.out 1).trans rfl, (blk_cell BK151.out 2).trans rfl, (blk_cell BK152.out 0).trans rfl, (blk_cell BK152.out 1).trans rfl, (blk_cell BK152.out 2).trans rfl⟩ (fun hHeld => ?_)
                      clear hK K
                      refine norm_ (a' := ?_) ?_ ?_
                      rotate_left
                      · show Act.put _ (some 65) _ = _
                        simp only [Act.put, List.setIfInBounds_toArray, List.set_cons_zero, List.set_cons_succ, i64_w, i32_w]
                        rfl
                      refine pure_ (i := 10) (N := some 66) (v := ?_) (a' := ?_) #[true, true, true, true, true, true, true, true, true, true, true, false, false, false, false, false, false, false, false, false, false, false, false, false, false, false, false, false, false] rfl rfl (any_of HT_.out (by kernel_rfl)) (fun _ _ _ h => h) (Or.inl ⟨by rfl, ?_⟩) ?_ ?_
                      rotate_left
                      · intro w'
                        go_simp
                        with_reducible rfl
                      rotate_left
                      · simp only [Act.put, List.setIfInBounds_toArray, List.set_cons_zero, List.set_cons_succ, i64_w, i32_w]
                        rfl
                      refine pure_ (i := 11) (N := some 67) (v := ?_) (a' := ?_) #[true, true, true, true, true, true, true, true, true, true, true, true, false, false, false, false, false, false, false, false, false, false, false, false, false, false, false, false, false] rfl rfl (any_of HT_.out (by kernel_rfl)) (fun _ _ _ h => h) (Or.inl ⟨by rfl, ?_⟩) ?_ ?_
                      rotate_left
                      · intro w'
                        go_simp
                        with_reducible rfl
                      rotate_left
                      · simp only [Act.put, List.setIfInBounds_toArray, List.set_cons_zero, List.set_cons_succ, i64_w, i32_w]
                        rfl
                      refine pure_ (i := 15) (N := some 71) (v := ?_) (a' := ?_) #[true, true, true, true, true, true, true, true, true, true, true, true, false, false, false, true, false, false, false, false, false, false, false, false, false, false, false, false, false] rfl rfl (any_of HT_.out (by kernel_rfl)) (fun _ _ _ h => h) (Or.inl ⟨by rfl, ?_⟩) ?_ ?_
                      rotate_left
                      · intro w'
                        go_simp
                        with_reducible rfl
                      rotate_left
                      · simp only [Act.put, List.setIfInBounds_toArray, List.set_cons_zero, List.set_cons_succ, i64_w, i32_w]
                        rfl
                      refine take_ (i := 12) (N := some 68) (v := ?_) (a' := ?_) #[true, true, true, true, true, true, true, true, true, true, true, true, true, false, false, true, false, false, false, false, false, false, false, false, false, false, false, false, false] rfl rfl (take_ofW HT_.out HW_.out (by kernel_rfl)) (fun _ _ _ h => h) (Or.inl ⟨by rfl, ?_⟩) hHeld ?_ ?_
                      rotate_left
                      · rintro w' ⟨s0, s1, s2, s3, s4, s5, s6, s7, s8, s9, s10, s11, s12, s13, s14, s15, s16, s17⟩
                        go_simp
                        with_reducible rfl
                      rotate_left
                      · simp only [Act.put, List.setIfInBounds_toArray, List.set_cons_zero, List.set_cons_succ, i64_w, i32_w]
                        rfl
                      refine take_ (i := 13) (N := some 69) (v := ?_) (a' := ?_) #[true, true, true, true, true, true, true, true, true, true, true, true, true, true, false, true, false, false, false, false, false, false, false, false, false, false, false, false, false] rfl rfl (take_ofW HT_.out HW_.out (by kernel_rfl)) (fun _ _ _ h => h) (Or.inl ⟨by rfl, ?_⟩) hHeld ?_ ?_
                      rotate_left
                      · rintro w' ⟨s0, s1, s2, s3, s4, s5, s6, s7, s8, s9, s10, s11, s12, s13, s14, s15, s16, s17⟩
                        go_simp
                        with_reducible rfl
                      rotate_left
                      · simp only [Act.put, List.setIfInBounds_toArray, List.set_cons_zero, List.set_cons_succ, i64_w, i32_w]
                        rfl
                      refine one_ (i := 14) (N := some 70) #[true, true, true, true, true, true, true, true, true, true, true, true, true, true, true, true, false, false, false, false, false, false, false, false, false, false, false, false, false] rfl rfl (one_of HT_.out (by kernel_rfl)) (by decide) (fun K hK => ?_)
                      refine goes_ Try.func20 (by kernel_rfl) rfl #[.agg #[.int .i64 t145, .int .i64 t146, .int .i64 t147], .agg #[.int .i64 t145, .int .i64 t146, .int .i64 t147]] (by rfl) rfl rfl (by (try simp only [List.map_toArray, List.map_cons, List.map_nil]); first | done | rfl | (simp only [List.length_drop, List.length_take]; rfl)) ?_
                      with_reducible refine (cost_Less.calls t145 t146 t147 t145 t146 t147 t158 t159 t160 _ A82.out).mono ?_
                      rintro e w95 ⟨rfl, hb⟩
                      refine ⟨_, rfl, ?_⟩
                      have n0_ := Aside0.mk (blk_below (g := gb139) (o := .cells #[.int .i64 a0_0, .int .i64 a0_1, .int .i64 a0_2, .int .i64 a0_3, .int .i64 a0_4] 23 (0, 0)) (by (with_reducible repeat (first | refine blk_drewN ?_ _ | refine blk_drew ?_ | refine blk_alloc ?_ _)); exact BK139.out) hb)
                      have n1_ := Aside0.mk (blk_below (g := gb140) (o := .cells #[.int .i64 a0_0, .int .i64 a0_1, .int .i64 a1_2, .int .i64 a1_3, .int .i64 a1_4] 23 (0, 0)) (by (with_reducible repeat (first | refine blk_drewN ?_ _ | refine blk_drew ?_ | refine blk_alloc ?_ _)); exact BK140.out) hb)
                      have n2_ := Aside0.mk (blk_below (g := gb141) (o := .cells #[.int .i64 a2_0, .string a2_1, .string a2_2, .int .i64 a2_3, .int .i64 a2_4, .int .i64 a2_5, .slice A2_6 l2_6.length c2_6] 30 (0, 0)) (by (with_reducible repeat (first | refine blk_drewN ?_ _ | refine blk_drew ?_ | refine blk_alloc ?_ _)); exact BK141.out) hb)
                      have n3_ := Aside0.mk (blk_below (g := gb151) (o := .cells #[.int .i64 t145, .int .i64 t146, .int .i64 t147] 32 (0, 0)) (by (with_reducible repeat (first | refine blk_drewN ?_ _ | refine blk_drew ?_ | refine blk_alloc ?_ _)); exact BK151.out) hb)
                      have n4_ := Aside0.mk (blk_below (g := gb152) (o := .cells #[.int .i64 t148, .int .i64 t149, .int .i64 t150] 32 (0, 0)) (by (with_reducible repeat (first | refine blk_drewN ?_ _ | refine blk_drew ?_ | refine blk_alloc ?_ _)); exact BK152.out) hb)
                      have n5_ := Aside0.mk (below_step (by repeat (first | (with_reducible first | exact HB.out | apply below_alloc | apply pw_below_drewN | apply below_drew1 | refine below_set ?_ GE139.out | refine below_set ?_ GE140.out | refine below_set ?_ GE141.out | refine below_set ?_ GE151.out | refine below_set ?_ GE152.out) | exact HB.out)) hb)
                      clear BK139
                      clear BK140
                      clear BK141
                      clear BK151
                      clear BK152
                      clear HB
                      have BK139 := n0_
                      have BK140 := n1_
                      have BK141 := n2_
                      have BK151 := n3_
                      have BK152 := n4_
                      have HB := n5_
                      clear n0_ n1_ n2_ n3_ n4_ n5_
                      (try clear hb)
                      (try clear hb2)
                      (try clear hk)
                      (try clear hi)
                      refine hK.out _ _ ⟨(blk_cell BK140.out 0).trans rfl, (blk_cell BK140.out 1).trans rfl, (blk_cell BK140.out 2).trans rfl, (blk_cell BK140.out 3).trans rfl, (blk_cell BK140.out 4).trans rfl, (blk_cell BK141.out 0).trans rfl, (blk_cell BK141.out 1).trans rfl, (blk_cell BK141.out 2).trans rfl, (blk_cell BK141.out 3).trans rfl, (blk_cell BK141.out 4).trans rfl, (blk_cell BK141.out 5).trans rfl, (blk_cell BK141.out 6).trans rfl, (blk_cell BK151.out 0).trans rfl, (blk_cell BK151.out 1).trans rfl, (blk_cell BK151.out 2).trans rfl, (blk_cell BK152.out 0).trans rfl, (blk_cell BK152.out 1).trans rfl, (blk_cell BK152.out 2).trans rfl⟩ (fun hHeld => ?_)
                      clear hK K
                      refine norm_ (a' := ?_) ?_ ?_
                      rotate_left
                      · show Act.put _ (some 70) _ = _
                        simp only [Act.put, List.setIfInBounds_toArray, List.set_cons_zero, List.set_cons_succ, i64_w, i32_w]
                        rfl
                      refine pure_ (i := 16) (N := some 72) (v := ?_) (a' := ?_) #[true, true, true, true, true, true, true, true, true, true, true, true, true, true, true, true, true, false, false, false, false, false, false, false, false, false, false, false, false] rfl rfl (any_of HT_.out (by kernel_rfl)) (fun _ _ _ h => h) (Or.inl ⟨by rfl, ?_⟩) ?_ ?_
                      rotate_left
                      · intro w'
                        go_simp
                        with_reducible rfl
                      rotate_left
                      · simp only [Act.put, List.setIfInBounds_toArray, List.set_cons_zero, List.set_cons_succ, i64_w, i32_w]
                        rfl
                      refine pure_ (i := 17) (N := some 73) (v := ?_) (a' := ?_) #[true, true, true, true, true, true, true, true, true, true, true, true, true, true, true, true, true, true, false, false, false, false, false, false, false, false, false, false, false] rfl rfl (any_of HT_.out (by kernel_rfl)) (fun _ _ _ h => h) (Or.inl ⟨by rfl, ?_⟩) ?_ ?_
                      rotate_left
                      · intro w'
                        go_simp
                        with_reducible rfl
                      rotate_left
                      · simp only [Act.put, List.setIfInBounds_toArray, List.set_cons_zero, List.set_cons_succ, i64_w, i32_w]
                        rfl
                      refine pure_ (i := 18) (N := some 74) (v := ?_) (a' := ?_) #[true, true, true, true, true, true, true, true, true, true, true, true, true, true, true, true, true, true, true, false, false, false, false, false, false, false, false, false, false] rfl rfl (any_of HT_.out (by kernel_rfl)) (fun _ _ _ h => h) (Or.inl ⟨by rfl, ?_⟩) ?_ ?_
                      rotate_left
                      · intro w'
                        go_simp
                        with_reducible rfl
                      rotate_left
                      · simp only [Act.put, List.setIfInBounds_toArray, List.set_cons_zero, List.set_cons_succ, i64_w, i32_w]
                        rfl
                      refine pure_ (i := 20) (N := some 76) (v := ?_) (a' := ?_) #[true, true, true, true, true, true, true, true, true, true, true, true, true, true, true, true, true, true, true, false, true, false, false, false, false, false, false, false, false] rfl rfl (any_of HT_.out (by kernel_rfl)) (fun _ _ _ h => h) (Or.inl ⟨by rfl, ?_⟩) ?_ ?_
                      rotate_left
                      · intro w'
                        go_simp
                        with_reducible rfl
                      rotate_left
                      · simp only [Act.put, List.setIfInBounds_toArray, List.set_cons_zero, List.set_cons_succ, i64_w, i32_w]
                        rfl
                      refine take_ (i := 19) (N := some 75) (v := ?_) (a' := ?_) #[true, true, true, true, true, true, true, true, true, true, true, true, true, true, true, true, true, true, true, true, true, false, false, false, false, false, false, false, false] rfl rfl (take_ofW HT_.out HW_.out (by kernel_rfl)) (fun _ _ _ h => h) (Or.inl ⟨by rfl, ?_⟩) hHeld ?_ ?_
                      rotate_left
                      · rintro w' ⟨s0, s1, s2, s3, s4, s5, s6, s7, s8, s9, s10, s11, s12, s13, s14, s15, s16, s17⟩
                        go_simp
                        with_reducible rfl
                      rotate_left
                      · simp only [Act.put, List.setIfInBounds_toArray, List.set_cons_zero, List.set_cons_succ, i64_w, i32_w]
                        rfl
                      refine take_ (i := 22) (N := some 78) (v := ?_) (a' := ?_) #[true, true, true, true, true, true, true, true, true, true, true, true, true, true, true, true, true, true, true, true, true, false, true, false, false, false, false, false, false] rfl rfl (take_ofW HT_.out HW_.out (by kernel_rfl)) (fun _ _ _ h => h) (Or.inl ⟨by rfl, ?_⟩) hHeld ?_ ?_
                      rotate_left
                      · rintro w' ⟨s0, s1, s2, s3, s4, s5, s6, s7, s8, s9, s10, s11, s12, s13, s14, s15, s16, s17⟩
                        go_simp
                        with_reducible rfl
                      rotate_left
                      · simp only [Act.put, List.setIfInBounds_toArray, List.set_cons_zero, List.set_cons_succ, i64_w, i32_w]
                        rfl
                      refine one_ (i := 21) (N := some 77) #[true, true, true, true, true, true, true, true, true, true, true, true, true, true, true, true, true, true, true, true, true, true, true, false, false, false, false, false, false] rfl rfl (one_of HT_.out (by kernel_rfl)) (by decide) (fun K hK => ?_)
                      refine goes_ Try.func20 (by kernel_rfl) rfl #[.agg #[.int .i64 t148, .int .i64 t149, .int .i64 t150], .agg #[.int .i64 0, .int .i64 0, .int .i64 0]] (by rfl) rfl rfl (by (try simp only [List.map_toArray, List.map_cons, List.map_nil]); first | done | rfl | (simp only [List.length_drop, List.length_take]; rfl)) ?_
                      with_reducible refine (cost_Less.calls t148 t149 t150 0 0 0 t161 t162 t163 _ A84.out).mono ?_
                      rintro e w96 ⟨rfl, hb⟩
                      refine ⟨_, rfl, ?_⟩
                      have n0_ := Aside0.mk (blk_below (g := gb139) (o := .cells #[.int .i64 a0_0, .int .i64 a0_1, .int .i64 a0_2, .int .i64 a0_3, .int .i64 a0_4] 23 (0, 0)) (by (with_reducible repeat (first | refine blk_drewN ?_ _ | refine blk_drew ?_ | refine blk_alloc ?_ _)); exact BK139.out) hb)
                      have n1_ := Aside0.mk (blk_below (g := gb140) (o := .cells #[.int .i64 a0_0, .int .i64 a0_1, .int .i64 a1_2, .int .i64 a1_3, .int .i64 a1_4] 23 (0, 0)) (by (with_reducible repeat (first | refine blk_drewN ?_ _ | refine blk_drew ?_ | refine blk_alloc ?_ _)); exact BK140.out) hb)
                      have n2_ := Aside0.mk (blk_below (g := gb141) (o := .cells #[.int .i64 a2_0, .string a2_1, .string a2_2, .int .i64 a2_3, .int .i64 a2_4, .int .i64 a2_5, .slice A2_6 l2_6.length c2_6] 30 (0, 0)) (by (with_reducible repeat (first | refine blk_drewN ?_ _ | refine blk_drew ?_ | refine blk_alloc ?_ _)); exact BK141.out) hb)
                      have n3_ := Aside0.mk (blk_below (g := gb151) (o := .cells #[.int .i64 t145, .int .i64 t146, .int .i64 t147] 32 (0, 0)) (by (with_reducible repeat (first | refine blk_drewN ?_ _ | refine blk_drew ?_ | refine blk_alloc ?_ _)); exact BK151.out) hb)
                      have n4_ := Aside0.mk (blk_below (g := gb152) (o := .cells #[.int .i64 t148, .int .i64 t149, .int .i64 t150] 32 (0, 0)) (by (with_reducible repeat (first | refine blk_drewN ?_ _ | refine blk_drew ?_ | refine blk_alloc ?_ _)); exact BK152.out) hb)
                      have n5_ := Aside0.mk (below_step (by repeat (first | (with_reducible first | exact HB.out | apply below_alloc | apply pw_below_drewN | apply below_drew1 | refine below_set ?_ GE139.out | refine below_set ?_ GE140.out | refine below_set ?_ GE141.out | refine below_set ?_ GE151.out | refine below_set ?_ GE152.out) | exact HB.out)) hb)
                      clear BK139
                      clear BK140
                      clear BK141
                      clear BK151
                      clear BK152
                      clear HB
                      have BK139 := n0_
                      have BK140 := n1_
                      have BK141 := n2_
                      have BK151 := n3_
                      have BK152 := n4_
                      have HB := n5_
                      clear n0_ n1_ n2_ n3_ n4_ n5_
                      (try clear hb)
                      (try clear hb2)
                      (try clear hk)
                      (try clear hi)
                      refine hK.out _ _ ⟨(blk_cell BK140.out 0).trans rfl, (blk_cell BK140.out 1).trans rfl, (blk_cell BK140.out 2).trans rfl, (blk_cell BK140.out 3).trans rfl, (blk_cell BK140.out 4).trans rfl, (blk_cell BK141.out 0).trans rfl, (blk_cell BK141.out 1).trans rfl, (blk_cell BK141.out 2).trans rfl, (blk_cell BK141.out 3).trans rfl, (blk_cell BK141.out 4).trans rfl, (blk_cell BK141.out 5).trans rfl, (blk_cell BK141.out 6).trans rfl, (blk_cell BK151.out 0).trans rfl, (blk_cell BK151.out 1).trans rfl, (blk_cell BK151.out 2).trans rfl, (blk_cell BK152.out 0).trans rfl, (blk_cell BK152.out 1).trans rfl, (blk_cell BK152.out 2).trans rfl⟩ (fun hHeld => ?_)
                      clear hK K
                      refine norm_ (a' := ?_) ?_ ?_
                      rotate_left
                      · show Act.put _ (some 77) _ = _
                        simp only [Act.put, List.setIfInBounds_toArray, List.set_cons_zero, List.set_cons_succ, i64_w, i32_w]
                        rfl
                      refine one_ (i := 23) (N := some 79) #[true, true, true, true, true, true, true, true, true, true, true, true, true, true, true, true, true, true, true, true, true, true, true, true, false, false, false, false, false] rfl rfl (one_of HT_.out (by kernel_rfl)) (by decide) (fun K hK => ?_)
                      refine goes_ Try.func19 (by kernel_rfl) rfl #[.agg #[.int .i64 t161, .int .i64 t162, .int .i64 t163], .agg #[.int .i64 t148, .int .i64 t149, .int .i64 t150]] (by rfl) rfl rfl (by (try simp only [List.map_toArray, List.map_cons, List.map_nil]); first | done | rfl | (simp only [List.length_drop, List.length_take]; rfl)) ?_
                      with_reducible refine (cost_Within.calls t161 t162 t163 t148 t149 t150 true _ A85.out).mono ?_
                      rintro e w97 ⟨rfl, hb⟩
                      refine ⟨_, rfl, ?_⟩
                      have n0_ := Aside0.mk (blk_below (g := gb139) (o := .cells #[.int .i64 a0_0, .int .i64 a0_1, .int .i64 a0_2, .int .i64 a0_3, .int .i64 a0_4] 23 (0, 0)) (by (with_reducible repeat (first | refine blk_drewN ?_ _ | refine blk_drew ?_ | refine blk_alloc ?_ _)); exact BK139.out) hb)
                      have n1_ := Aside0.mk (blk_below (g := gb140) (o := .cells #[.int .i64 a0_0, .int .i64 a0_1, .int .i64 a1_2, .int .i64 a1_3, .int .i64 a1_4] 23 (0, 0)) (by (with_reducible repeat (first | refine blk_drewN ?_ _ | refine blk_drew ?_ | refine blk_alloc ?_ _)); exact BK140.out) hb)
                      have n2_ := Aside0.mk (blk_below (g := gb141) (o := .cells #[.int .i64 a2_0, .string a2_1, .string a2_2, .int .i64 a2_3, .int .i64 a2_4, .int .i64 a2_5, .slice A2_6 l2_6.length c2_6] 30 (0, 0)) (by (with_reducible repeat (first | refine blk_drewN ?_ _ | refine blk_drew ?_ | refine blk_alloc ?_ _)); exact BK141.out) hb)
                      have n3_ := Aside0.mk (blk_below (g := gb151) (o := .cells #[.int .i64 t145, .int .i64 t146, .int .i64 t147] 32 (0, 0)) (by (with_reducible repeat (first | refine blk_drewN ?_ _ | refine blk_drew ?_ | refine blk_alloc ?_ _)); exact BK151.out) hb)
                      have n4_ := Aside0.mk (blk_below (g := gb152) (o := .cells #[.int .i64 t148, .int .i64 t149, .int .i64 t150] 32 (0, 0)) (by (with_reducible repeat (first | refine blk_drewN ?_ _ | refine blk_drew ?_ | refine blk_alloc ?_ _)); exact BK152.out) hb)
                      have n5_ := Aside0.mk (below_step (by repeat (first | (with_reducible first | exact HB.out | apply below_alloc | apply pw_below_drewN | apply below_drew1 | refine below_set ?_ GE139.out | refine below_set ?_ GE140.out | refine below_set ?_ GE141.out | refine below_set ?_ GE151.out | refine below_set ?_ GE152.out) | exact HB.out)) hb)
                      clear BK139
                      clear BK140
                      clear BK141
                      clear BK151
                      clear BK152
                      clear HB
                      have BK139 := n0_
                      have BK140 := n1_
                      have BK141 := n2_
                      have BK151 := n3_
                      have BK152 := n4_
                      have HB := n5_
                      clear n0_ n1_ n2_ n3_ n4_ n5_
                      (try clear hb)
                      (try clear hb2)
                      (try clear hk)
                      (try clear hi)
                      refine hK.out _ _ ⟨(blk_cell BK140.out 0).trans rfl, (blk_cell BK140.out 1).trans rfl, (blk_cell BK140.out 2).trans rfl, (blk_cell BK140.out 3).trans rfl, (blk_cell BK140.out 4).trans rfl, (blk_cell BK141.out 0).trans rfl, (blk_cell BK141.out 1).trans rfl, (blk_cell BK141.out 2).trans rfl, (blk_cell BK141.out 3).trans rfl, (blk_cell BK141.out 4).trans rfl, (blk_cell BK141.out 5).trans rfl, (blk_cell BK141.out 6).trans rfl, (blk_cell BK151.out 0).trans rfl, (blk_cell BK151.out 1).trans rfl, (blk_cell BK151.out 2).trans rfl, (blk_cell BK152.out 0).trans rfl, (blk_cell BK152.out 1).trans rfl, (blk_cell BK152.out 2).trans rfl⟩ (fun hHeld => ?_)
                      clear hK K
                      refine norm_ (a' := ?_) ?_ ?_
                      rotate_left
                      · show Act.put _ (some 79) _ = _
                        simp only [Act.put, List.setIfInBounds_toArray, List.set_cons_zero, List.set_cons_succ, i64_w, i32_w]
                        rfl
                      refine pure_ (i := 24) (N := some 80) (v := ?_) (a' := ?_) #[true, true, true, true, true, true, true, true, true, true, true, true, true, true, true, true, true, true, true, true, true, true, true, true, true, false, false, false, false] rfl rfl (any_of HT_.out (by kernel_rfl)) (fun _ _ _ h => h) (Or.inl ⟨by rfl, ?_⟩) ?_ ?_
                      rotate_left
                      · intro w'
                        go_simp
                        with_reducible rfl
                      rotate_left
                      · simp only [Act.put, List.setIfInBounds_toArray, List.set_cons_zero, List.set_cons_succ, i64_w, i32_w]
                        rfl
                      refine pure_ (i := 25) (N := some 81) (v := ?_) (a' := ?_) #[true, true, true, true, true, true, true, true, true, true, true, true, true, true, true, true, true, true, true, true, true, true, true, true, true, true, false, false, false] rfl rfl (any_of HT_.out (by kernel_rfl)) (fun _ _ _ h => h) (Or.inl ⟨by rfl, ?_⟩) ?_ ?_
                      rotate_left
                      · intro w'
                        go_simp
                        with_reducible rfl
                      rotate_left
                      · simp only [Act.put, List.setIfInBounds_toArray, List.set_cons_zero, List.set_cons_succ, i64_w, i32_w]
                        rfl
                      refine one_ (i := 26) (N := some 82) #[true, true, true, true, true, true, true, true, true, true, true, true, true, true, true, true, true, true, true, true, true, true, true, true, true, true, true, false, false] rfl rfl (one_of HT_.out (by kernel_rfl)) (by decide) (fun K hK => ?_)
                      refine goes_ Try.func12 (by kernel_rfl) rfl #[] (by rfl) rfl rfl (by (try simp only [List.map_toArray, List.map_cons, List.map_nil]); first | done | rfl | (simp only [List.length_drop, List.length_take]; rfl)) ?_
                      with_reducible refine (potsherdlaw24_awake.calls kj27  t165 _ A87.out).mono ?_
                      rintro e w98 ⟨rfl, hb⟩
                      refine ⟨_, rfl, ?_⟩
                      have n0_ := Aside0.mk (blk_below (g := gb139) (o := .cells #[.int .i64 a0_0, .int .i64 a0_1, .int .i64 a0_2, .int .i64 a0_3, .int .i64 a0_4] 23 (0, 0)) (by (with_reducible repeat (first | refine blk_drewN ?_ _ | refine blk_drew ?_ | refine blk_alloc ?_ _)); exact BK139.out) hb)
                      have n1_ := Aside0.mk (blk_below (g := gb140) (o := .cells #[.int .i64 a0_0, .int .i64 a0_1, .int .i64 a1_2, .int .i64 a1_3, .int .i64 a1_4] 23 (0, 0)) (by (with_reducible repeat (first | refine blk_drewN ?_ _ | refine blk_drew ?_ | refine blk_alloc ?_ _)); exact BK140.out) hb)
                      have n2_ := Aside0.mk (blk_below (g := gb141) (o := .cells #[.int .i64 a2_0, .string a2_1, .string a2_2, .int .i64 a2_3, .int .i64 a2_4, .int .i64 a2_5, .slice A2_6 l2_6.length c2_6] 30 (0, 0)) (by (with_reducible repeat (first | refine blk_drewN ?_ _ | refine blk_drew ?_ | refine blk_alloc ?_ _)); exact BK141.out) hb)
                      have n3_ := Aside0.mk (blk_below (g := gb151) (o := .cells #[.int .i64 t145, .int .i64 t146, .int .i64 t147] 32 (0, 0)) (by (with_reducible repeat (first | refine blk_drewN ?_ _ | refine blk_drew ?_ | refine blk_alloc ?_ _)); exact BK151.out) hb)
                      have n4_ := Aside0.mk (blk_below (g := gb152) (o := .cells #[.int .i64 t148, .int .i64 t149, .int .i64 t150] 32 (0, 0)) (by (with_reducible repeat (first | refine blk_drewN ?_ _ | refine blk_drew ?_ | refine blk_alloc ?_ _)); exact BK152.out) hb)
                      have n5_ := Aside0.mk (below_step (by repeat (first | (with_reducible first | exact HB.out | apply below_alloc | apply pw_below_drewN | apply below_drew1 | refine below_set ?_ GE139.out | refine below_set ?_ GE140.out | refine below_set ?_ GE141.out | refine below_set ?_ GE151.out | refine below_set ?_ GE152.out) | exact HB.out)) hb)
                      clear BK139
                      clear BK140
                      clear BK141
                      clear BK151
                      clear BK152
                      clear HB
                      have BK139 := n0_
                      have BK140 := n1_
                      have BK141 := n2_
                      have BK151 := n3_
                      have BK152 := n4_
                      have HB := n5_
                      clear n0_ n1_ n2_ n3_ n4_ n5_
                      (try clear hb)
                      (try clear hb2)
                      (try clear hk)
                      (try clear hi)
                      refine hK.out _ _ ⟨(blk_cell BK140.out 0).trans rfl, (blk_cell BK140.out 1).trans rfl, (blk_cell BK140.out 2).trans rfl, (blk_cell BK140.out 3).trans rfl, (blk_cell BK140.out 4).trans rfl, (blk_cell BK141.out 0).trans rfl, (blk_cell BK141.out 1).trans rfl, (blk_cell BK141.out 2).trans rfl, (blk_cell BK141.out 3).trans rfl, (blk_cell BK141.out 4).trans rfl, (blk_cell BK141.out 5).trans rfl, (blk_cell BK141.out 6).trans rfl, (blk_cell BK151.out 0).trans rfl, (blk_cell BK151.out 1).trans rfl, (blk_cell BK151.out 2).trans rfl, (blk_cell BK152.out 0).trans rfl, (blk_cell BK152.out 1).trans rfl, (blk_cell BK152.out 2).trans rfl⟩ (fun hHeld => ?_)
                      clear hK K
                      refine norm_ (a' := ?_) ?_ ?_
                      rotate_left
                      · show Act.put _ (some 82) _ = _
                        simp only [Act.put, List.setIfInBounds_toArray, List.set_cons_zero, List.set_cons_succ, i64_w, i32_w]
                        rfl
                      refine pure_ (i := 27) (N := some 83) (v := ?_) (a' := ?_) #[true, true, true, true, true, true, true, true, true, true, true, true, true, true, true, true, true, true, true, true, true, true, true, true, true, true, true, true, false] rfl rfl (any_of HT_.out (by kernel_rfl)) (fun _ _ _ h => h) (Or.inl ⟨by rfl, ?_⟩) ?_ ?_
                      rotate_left
                      · intro w'
                        go_simp
                        with_reducible rfl
                      rotate_left
                      · simp only [Act.put, List.setIfInBounds_toArray, List.set_cons_zero, List.set_cons_succ, i64_w, i32_w]
                        rfl
                      refine pure_ (i := 28) (N := some 8) (v := ?_) (a' := ?_) #[true, true, true, true, true, true, true, true, true, true, true, true, true, true, true, true, true, true, true, true, true, true, true, true, true, true, true, true, true] rfl rfl (any_of HT_.out (by kernel_rfl)) (fun _ _ _ h => h) (Or.inl ⟨by rfl, ?_⟩) ?_ ?_
                      rotate_left
                      · intro w'
                        go_simp
                        with_reducible rfl
                      rotate_left
                      · simp only [Act.put, List.setIfInBounds_toArray, List.set_cons_zero, List.set_cons_succ, i64_w, i32_w]
                        rfl
                      refine done_ (done_of HT_.out (by kernel_rfl)) ?_
                      try go_wp2
                      go_ret
                      exact ⟨by first | rfl | exact congrArg (fun b_ => Ending.returned (Value.bool b_)) HRET.out | (rw [HRET.out]) | (simp [errW_none, errW_some] <;> rfl) | (simp [*, errW_none, errW_some] <;> rfl), by repeat (first | (with_reducible first | exact HB.out | apply below_alloc | apply pw_below_drewN | apply below_drew1 | refine below_set ?_ GE139.out | refine below_set ?_ GE140.out | refine below_set ?_ GE141.out | refine below_set ?_ GE151.out | refine below_set ?_ GE152.out) | exact HB.out)⟩
                    · replace c86 := Bool.eq_false_iff.mpr c86
                      subst c86
                      have H1 : (some false) = some true := by rw [if_neg (show ¬ (false = true) by decide)] at H; exact H
                      clear H
                      have H := H1
                      clear H1
                      exact absurd H (by simp)
                  · rw [if_neg c83] at H
                    have c83b0 : (t158 == 0 && (t159 == 0 && (t160 == 0))) = false := by simpa using c83
                    (try (have c83b1 : decide (t158 = 0 && (t159 == 0 && (t160 == 0))) = false := by simpa using c83))
                    (try (have c83b2 : (t158 == 0 && (t159 == 0 && (t160 == 0))) = false := by simpa using c83))
                    (try (have c83b3 : ¬ (t158 = 0 && (t159 == 0 && (t160 == 0))) := by simpa using c83))
                    clear c83
                    exact absurd H (by simp)
                · replace c81 := Bool.eq_false_iff.mpr c81
                  subst c81
                  have H1 : (some false) = some true := by rw [if_neg (show ¬ (false = true) by decide)] at H; exact H
                  clear H
                  have H := H1
                  clear H1
                  exact absurd H (by simp)
              · rw [if_neg c79] at H
                have c79b0 : (t154 == t145 && (t155 == t146 && (t156 == t147))) = false := by simpa using c79
                (try (have c79b1 : decide (t154 = t145 && (t155 == t146 && (t156 == t147))) = false := by simpa using c79))
                (try (have c79b2 : (t154 == t145 && (t155 == t146 && (t156 == t147))) = false := by simpa using c79))
                (try (have c79b3 : ¬ (t154 = t145 && (t155 == t146 && (t156 == t147))) := by simpa using c79))
                clear c79
                exact absurd H (by simp)

end Go.Proofs.Ytnjnmegjbcgajaa.PCostHangs
